/- Printed by a program: the pure models. -/
import Derived.Test.YtmeombbmhpcacaaDoorK9
import Derived.Test.YtmeombbmhpcacaaDoorKIt
namespace Go.Proofs.YtmeombbmhpcacaaDoor
def keysL : List Str := [[116, 114, 117, 101], [102, 97, 108, 115, 101], [88], [70], [71], [85], [82], [118, 97, 114], [112, 114, 111, 99]]
def textsL : List Str := [[], [], [], [43], [45], [42], [45], [61, 61], [33, 61], [60], [60, 61], [62], [62, 61], [116, 114, 117, 101], [102, 97, 108, 115, 101], [33], [38], [124], [45, 62], [60, 45, 62], [88], [70], [71], [85], [82]]
def pow10L : List Int := [1, 10, 100, 1000, 10000, 100000, 1000000, 10000000, 100000000, 1000000000, 10000000000, 100000000000, 1000000000000, 10000000000000, 100000000000000, 1000000000000000, 10000000000000000, 100000000000000000, 1000000000000000000, 10000000000000000000]


def scrutinyref12_kind (c : Int) : Option Int :=
letv (c == 9) fun b3 =>
letv (c == 10) fun b5 =>
letv (b3 || b5) fun b7 =>
letv (c == 13) fun b9 =>
letv (b7 || b9) fun b11 =>
letv (c == 32) fun b13 =>
letv (b11 || b13) fun b15 =>
bif b15 then (
some 0)
else (
letv (decide (97 ≤ c)) fun b18 =>
letv (decide (c ≤ 122)) fun b20 =>
letv (b18 && b20) fun b22 =>
letv (decide (65 ≤ c)) fun b24 =>
letv (decide (c ≤ 90)) fun b26 =>
letv (b24 && b26) fun b28 =>
letv (b22 || b28) fun b30 =>
letv (c == 95) fun b32 =>
letv (b30 || b32) fun b34 =>
bif b34 then (
some 1)
else (
letv (decide (48 ≤ c)) fun b37 =>
letv (decide (c ≤ 57)) fun b39 =>
letv (b37 && b39) fun b41 =>
bif b41 then (
some 2)
else (
some 3)))

def scrutinyref12_Signs : Option (List Str) :=
some ([[60, 45, 62], [45, 62], [61, 61], [33, 61], [60, 61], [62, 61], [60], [62], [61], [43], [45], [42], [40], [41], [123], [125], [59], [44], [58], [38], [124], [33]] : List Str)

def scrutinyref12_Tokens_L2 (text : Str) (out9 : (List (Int × Str × Int × Int))) (again13 : ((List (Int × Str × Int × Int)) × Int) → Option ((List (Int × Str × Int × Int)) × Int × Int)) (again24 : Int → Option ((List (Int × Str × Int × Int)) × Int × Int)) (i23 : Int) : Option ((List (Int × Str × Int × Int)) × Int × Int) :=
letv (decide (i23 < (List.length text : Int))) fun b25 =>
chkG b25 (inB i23 (List.length text)) <|
letv ((byteAt text i23) != 10) fun b28 =>
letv (b25 && b28) fun b30 =>
bif b30 then (
again24 (IntKind.i64.wrap (i23 + 1)))
else (
again13 (out9, i23))

def scrutinyref12_Tokens_L3 (text : Str) (out9 : (List (Int × Str × Int × Int))) (i12 : Int) (again13 : ((List (Int × Str × Int × Int)) × Int) → Option ((List (Int × Str × Int × Int)) × Int × Int)) (again36 : Int → Option ((List (Int × Str × Int × Int)) × Int × Int)) (i35 : Int) : Option ((List (Int × Str × Int × Int)) × Int × Int) :=
letv (decide (i35 < (List.length text : Int))) fun b37 =>
chkG b37 (inB i35 (List.length text)) <|
callG b37 default (scrutinyref12_kind (byteAt text i35)) fun r40 =>
letv (r40 == 1) fun b46 =>
chkG (b37 && !b46) (inB i35 (List.length text)) <|
callG (b37 && !b46) default (scrutinyref12_kind (byteAt text i35)) fun r49 =>
letv (r49 == 2) fun b55 =>
letv (b46 || b55) fun b57 =>
letv (b37 && b57) fun b59 =>
bif b59 then (
again36 (IntKind.i64.wrap (i35 + 1)))
else (
bif (decide (32 < (IntKind.i64.wrap (i35 - i12)))) then (
some ([], 9, i12))
else (
chk (cutB i12 i35 (List.length text)) <|
chk (roomB (List.length out9 + List.length ([(1, (cut text i12 i35), 0, i12)] : List (Int × Str × Int × Int))) 40) <|
again13 ((out9 ++ ([(1, (cut text i12 i35), 0, i12)] : List (Int × Str × Int × Int))), i35)))

def scrutinyref12_Tokens_L4 (text : Str) (out9 : (List (Int × Str × Int × Int))) (i12 : Int) (again13 : ((List (Int × Str × Int × Int)) × Int) → Option ((List (Int × Str × Int × Int)) × Int × Int)) (again74 : (Int × Int) → Option ((List (Int × Str × Int × Int)) × Int × Int)) : Int × Int → Option ((List (Int × Str × Int × Int)) × Int × Int) := fun ⟨i72, n73⟩ =>
letv (decide (i72 < (List.length text : Int))) fun b75 =>
chkG b75 (inB i72 (List.length text)) <|
callG b75 default (scrutinyref12_kind (byteAt text i72)) fun r78 =>
letv (r78 == 2) fun b84 =>
letv (b75 && b84) fun b86 =>
bif b86 then (
bif (decide (n73 ≤ 1073741824)) then (
chk (inB i72 (List.length text)) <|
again74 ((IntKind.i64.wrap (i72 + 1)), (IntKind.i64.wrap ((IntKind.i64.wrap ((IntKind.i64.wrap (10 * n73)) + (IntKind.i64.wrap (byteAt text i72)))) - 48))))
else (
again74 ((IntKind.i64.wrap (i72 + 1)), n73)))
else (
bif (decide (1073741824 < n73)) then (
some ([], 9, i12))
else (
chk (cutB i12 i72 (List.length text)) <|
chk (roomB (List.length out9 + List.length ([(2, (cut text i12 i72), n73, i12)] : List (Int × Str × Int × Int))) 40) <|
again13 ((out9 ++ ([(2, (cut text i12 i72), n73, i12)] : List (Int × Str × Int × Int))), i72)))

def scrutinyref12_Tokens_L5 (text : Str) (out9 : (List (Int × Str × Int × Int))) (i12 : Int) (again13 : ((List (Int × Str × Int × Int)) × Int) → Option ((List (Int × Str × Int × Int)) × Int × Int)) (r99 : (List Str)) (again107 : (Str × Int) → Option ((List (Int × Str × Int × Int)) × Int × Int)) : Str × Int → Option ((List (Int × Str × Int × Int)) × Int × Int) := fun ⟨s105, j106⟩ =>
letv (decide (j106 < (List.length r99 : Int))) fun b108 =>
letv (s105 == []) fun b110 =>
letv (b108 && b110) fun b112 =>
bif b112 then (
(idx r99 j106).bind fun e117 =>
letv (decide ((List.length e117 : Int) ≤ (IntKind.i64.wrap ((List.length text : Int) - i12)))) fun b119 =>
callG b119 [] (idx r99 j106) fun e121 =>
chkG b119 (cutB i12 (IntKind.i64.wrap (i12 + (List.length e121 : Int))) (List.length text)) <|
callG b119 [] (idx r99 j106) fun e124 =>
letv ((cut text i12 (IntKind.i64.wrap (i12 + (List.length e121 : Int)))) == e124) fun b126 =>
letv (b119 && b126) fun b128 =>
bif b128 then (
(idx r99 j106).bind fun e131 =>
again107 (e131, (IntKind.i64.wrap (j106 + 1))))
else (
again107 (s105, (IntKind.i64.wrap (j106 + 1)))))
else (
bif (s105 == []) then (
some ([], 2, i12))
else (
chk (roomB (List.length out9 + List.length ([(3, s105, 0, i12)] : List (Int × Str × Int × Int))) 40) <|
again13 ((out9 ++ ([(3, s105, 0, i12)] : List (Int × Str × Int × Int))), (IntKind.i64.wrap (i12 + (List.length s105 : Int))))))

def scrutinyref12_Tokens_L1 (text : Str) (again13 : ((List (Int × Str × Int × Int)) × Int) → Option ((List (Int × Str × Int × Int)) × Int × Int)) : (List (Int × Str × Int × Int)) × Int → Option ((List (Int × Str × Int × Int)) × Int × Int) := fun ⟨out9, i12⟩ =>
bif (decide (i12 < (List.length text : Int))) then (
chk (inB i12 (List.length text)) <|
(scrutinyref12_kind (byteAt text i12)).bind fun r16 =>
bif (r16 == 0) then (
again13 (out9, (IntKind.i64.wrap (i12 + 1))))
else (
chk (inB i12 (List.length text)) <|
bif ((byteAt text i12) == 35) then (
fixN (scrutinyref12_Tokens_L2 text out9 again13) FUEL i12)
else (
bif (r16 == 1) then (
fixN (scrutinyref12_Tokens_L3 text out9 i12 again13) FUEL i12)
else (
bif (r16 == 2) then (
fixN (scrutinyref12_Tokens_L4 text out9 i12 again13) FUEL (i12, 0))
else (
(scrutinyref12_Signs).bind fun r99 =>
fixN (scrutinyref12_Tokens_L5 text out9 i12 again13 r99) FUEL ([], 0))))))
else (
chk (roomB (List.length out9 + List.length ([(4, [], 0, (List.length text : Int))] : List (Int × Str × Int × Int))) 40) <|
some ((out9 ++ ([(4, [], 0, (List.length text : Int))] : List (Int × Str × Int × Int))), 0, 0))

def scrutinyref12_Tokens (text : Str) : Option ((List (Int × Str × Int × Int)) × Int × Int) :=
bif (decide (65536 < (List.length text : Int))) then (
some ([], 9, 0))
else (
fixN (scrutinyref12_Tokens_L1 text) FUEL ([], 0))

def scrutinylaw13_names : Option (List Str) :=
some ([[97], [98], [99]] : List Str)

def expr_read_fail (e : Int) (l : (List (Int × Str × Int × Int))) (at_ : Int) (_names : (List Str)) (_deep : Int) (bad : Int) (place : Int) : Option (Ex × Int × Int) :=
bif (bad == 0) then (
(idx l at_).bind fun e12 =>
some ((Ex.mk 0 0 0 []), e, e12.2.2.2))
else (
some ((Ex.mk 0 0 0 []), bad, place))

def expr_read_next (l : (List (Int × Str × Int × Int))) (at_ : Int) (_names : (List Str)) (_deep : Int) (_bad : Int) (_place : Int) : Option (Int × Str × Int × Int) :=
(idx l at_).bind fun e7 =>
some e7

def slices_Index_string_string_L1 (s : (List Str)) (v3 : Str) (again5 : Int → Option Int) (t4 : Int) : Option Int :=
bif (decide (t4 < (List.length s : Int))) then (
(idx s t4).bind fun e7 =>
bif (v3 == e7) then (
some t4)
else (
again5 (IntKind.i64.wrap (t4 + 1))))
else (
some (-1))

def slices_Index_string_string (s : (List Str)) (v3 : Str) : Option Int :=
fixN (slices_Index_string_string_L1 s v3) FUEL 0

def slices_Contains_string_string (s : (List Str)) (v3 : Str) : Option Bool :=
(slices_Index_string_string s v3).bind fun r3 =>
some (decide (0 ≤ r3))

def expr_Key (name : Str) : Option Bool :=
(slices_Contains_string_string keysL name).bind fun r3 =>
some r3

def expr_read_is_L1 (ops : (List Int)) (r4 : (Int × Str × Int × Int)) (again29 : Int → Option (Int × Bool)) (t28 : Int) : Option (Int × Bool) :=
bif (decide (t28 < (List.length ops : Int))) then (
(idx ops t28).bind fun e31 =>
(idx textsL e31).bind fun e35 =>
bif (e35 == r4.2.1) then (
some (e31, true))
else (
again29 (IntKind.i64.wrap (t28 + 1))))
else (
some (0, false))

def expr_read_is (ops : (List Int)) (l : (List (Int × Str × Int × Int))) (at_ : Int) (names : (List Str)) (deep : Int) (bad : Int) (place : Int) : Option (Int × Bool) :=
(expr_read_next l at_ names deep bad place).bind fun r4 =>
letv (r4.1 != 3) fun b10 =>
letv (r4.1 == 1) fun b12 =>
callG (b10 && b12) default (expr_Key r4.2.1) fun r14 =>
letv (b12 && r14) fun b20 =>
letv (!b20) fun b22 =>
letv (b10 && b22) fun b24 =>
bif b24 then (
some (0, false))
else (
fixN (expr_read_is_L1 ops r4) FUEL 0)

def expr_read_one (k_expr_read_lower : ((List (Int × Str × Int × Int)) × Int × (List Str) × Int × Int × Int) → Option (Ex × Int × Int × Int × Int)) (l : (List (Int × Str × Int × Int))) (at_ : Int) (names : (List Str)) (deep : Int) (bad : Int) (place : Int) : Option (Ex × Int × Int × Int × Int) :=
bif (bad != 0) then (
some ((Ex.mk 0 0 0 []), at_, deep, bad, place))
else (
(expr_read_next l at_ names deep bad place).bind fun r13 =>
(expr_read_is ([13, 14] : List Int) l at_ names deep bad place).bind fun r21 =>
bif r21.2 then (
some ((Ex.mk r21.1 0 r13.2.2.2 []), (IntKind.i64.wrap (at_ + 1)), deep, bad, place))
else (
bif (r13.1 == 2) then (
some ((Ex.mk 1 r13.2.2.1 r13.2.2.2 []), (IntKind.i64.wrap (at_ + 1)), deep, bad, place))
else (
letv (r13.1 == 1) fun b30 =>
callG b30 default (expr_Key r13.2.1) fun r32 =>
letv (!r32) fun b38 =>
letv (b30 && b38) fun b40 =>
bif b40 then (
(slices_Index_string_string names r13.2.1).bind fun r45 =>
bif (decide (r45 < 0)) then (
(expr_read_fail 3 l at_ names deep bad place).bind fun r49 =>
some (r49.1, at_, deep, r49.2.1, r49.2.2))
else (
some ((Ex.mk 2 r45 r13.2.2.2 []), (IntKind.i64.wrap (at_ + 1)), deep, bad, place)))
else (
letv (r13.1 == 3) fun b57 =>
letv (r13.2.1 == [40]) fun b59 =>
letv (b57 && b59) fun b61 =>
bif b61 then (
(k_expr_read_lower (l, (IntKind.i64.wrap (at_ + 1)), names, deep, bad, place)).bind fun r65 =>
letv (r65.2.2.2.1 == 0) fun b73 =>
callG b73 default (expr_read_next l r65.2.1 names r65.2.2.1 r65.2.2.2.1 r65.2.2.2.2) fun r75 =>
letv (r75.1 != 3) fun b81 =>
callG (b73 && !b81) default (expr_read_next l r65.2.1 names r65.2.2.1 r65.2.2.2.1 r65.2.2.2.2) fun r83 =>
letv (r83.2.1 != [41]) fun b89 =>
letv (b81 || b89) fun b91 =>
letv (b73 && b91) fun b93 =>
bif b93 then (
(expr_read_fail 2 l r65.2.1 names r65.2.2.1 r65.2.2.2.1 r65.2.2.2.2).bind fun r96 =>
some (r96.1, r65.2.1, r65.2.2.1, r96.2.1, r96.2.2))
else (
bif (r65.2.2.2.1 == 0) then (
some (r65.1, (IntKind.i64.wrap (r65.2.1 + 1)), r65.2.2.1, r65.2.2.2.1, r65.2.2.2.2))
else (
some (r65.1, r65.2.1, r65.2.2.1, r65.2.2.2.1, r65.2.2.2.2))))
else (
(expr_read_fail 2 l at_ names deep bad place).bind fun r106 =>
some (r106.1, at_, deep, r106.2.1, r106.2.2))))))

def expr_read_before_s2 (k_expr_read_lower : ((List (Int × Str × Int × Int)) × Int × (List Str) × Int × Int × Int) → Option (Ex × Int × Int × Int × Int)) (k_expr_read_lower_s5 : ((List (Int × Str × Int × Int)) × Int × (List Str) × Int × Int × Int) → Option (Ex × Int × Int × Int × Int)) (ops : (List Int)) (l : (List (Int × Str × Int × Int))) (at_ : Int) (names : (List Str)) (deep : Int) (bad : Int) (place : Int) : Option (Ex × Int × Int × Int × Int) :=
(expr_read_is ops l at_ names deep bad place).bind fun r11 =>
bif (!r11.2) then (
(expr_read_one k_expr_read_lower l at_ names deep bad place).bind fun r15 =>
some (r15.1, r15.2.1, r15.2.2.1, r15.2.2.2.1, r15.2.2.2.2))
else (
(expr_read_next l at_ names deep bad place).bind fun r21 =>
(k_expr_read_lower_s5 (l, (IntKind.i64.wrap (at_ + 1)), names, deep, bad, place)).bind fun r30 =>
some ((Ex.mk r11.1 0 r21.2.2.2 ([r30.1] : List Ex)), r30.2.1, r30.2.2.1, r30.2.2.2.1, r30.2.2.2.2))

def expr_read_neg (k_expr_read_lower : ((List (Int × Str × Int × Int)) × Int × (List Str) × Int × Int × Int) → Option (Ex × Int × Int × Int × Int)) (k_expr_read_lower_s5 : ((List (Int × Str × Int × Int)) × Int × (List Str) × Int × Int × Int) → Option (Ex × Int × Int × Int × Int)) (l : (List (Int × Str × Int × Int))) (at_ : Int) (names : (List Str)) (deep : Int) (bad : Int) (place : Int) : Option (Ex × Int × Int × Int × Int) :=
(expr_read_before_s2 k_expr_read_lower k_expr_read_lower_s5 ([6] : List Int) l at_ names deep bad place).bind fun r13 =>
some (r13.1, r13.2.1, r13.2.2.1, r13.2.2.2.1, r13.2.2.2.2)

def expr_read_lower_s5_F (k_expr_read_lower : ((List (Int × Str × Int × Int)) × Int × (List Str) × Int × Int × Int) → Option (Ex × Int × Int × Int × Int)) (k_expr_read_lower_s5 : ((List (Int × Str × Int × Int)) × Int × (List Str) × Int × Int × Int) → Option (Ex × Int × Int × Int × Int)) (l : (List (Int × Str × Int × Int))) (at_ : Int) (names : (List Str)) (deep : Int) (bad : Int) (place : Int) : Option (Ex × Int × Int × Int × Int) :=
bif (decide (320 ≤ deep)) then (
(expr_read_fail 9 l at_ names deep bad place).bind fun r12 =>
some (r12.1, at_, deep, r12.2.1, r12.2.2))
else (
(expr_read_neg k_expr_read_lower k_expr_read_lower_s5 l at_ names (IntKind.i64.wrap (deep + 1)) bad place).bind fun r19 =>
some (r19.1, r19.2.1, (IntKind.i64.wrap (r19.2.2.1 - 1)), r19.2.2.2.1, r19.2.2.2.2))

def expr_read_lower_s5 (k_expr_read_lower : ((List (Int × Str × Int × Int)) × Int × (List Str) × Int × Int × Int) → Option (Ex × Int × Int × Int × Int)) (l : (List (Int × Str × Int × Int))) (at_ : Int) (names : (List Str)) (deep : Int) (bad : Int) (place : Int) : Option (Ex × Int × Int × Int × Int) :=
  fixN (fun k (s : ((List (Int × Str × Int × Int)) × Int × (List Str) × Int × Int × Int)) => expr_read_lower_s5_F k_expr_read_lower k s.1 s.2.1 s.2.2.1 s.2.2.2.1 s.2.2.2.2.1 s.2.2.2.2.2) FUEL (l, at_, names, deep, bad, place)

def expr_read_deepNeg (k_expr_read_lower : ((List (Int × Str × Int × Int)) × Int × (List Str) × Int × Int × Int) → Option (Ex × Int × Int × Int × Int)) (l : (List (Int × Str × Int × Int))) (at_ : Int) (names : (List Str)) (deep : Int) (bad : Int) (place : Int) : Option (Ex × Int × Int × Int × Int) :=
(expr_read_lower_s5 k_expr_read_lower l at_ names deep bad place).bind fun r11 =>
some (r11.1, r11.2.1, r11.2.2.1, r11.2.2.2.1, r11.2.2.2.2)

def expr_read_left_s4_L1 (k_expr_read_lower : ((List (Int × Str × Int × Int)) × Int × (List Str) × Int × Int × Int) → Option (Ex × Int × Int × Int × Int)) (ops : (List Int)) (l : (List (Int × Str × Int × Int))) (names : (List Str)) (again30 : (Int × Int × Int × Int × Int × Int × Int × (List Ex)) → Option (Ex × Int × Int × Int × Int)) : Int × Int × Int × Int × Int × Int × Int × (List Ex) → Option (Ex × Int × Int × Int × Int) := fun ⟨c20, c21, c22, c23, c24, c25, c26, c27⟩ =>
bif (c22 == 0) then (
(expr_read_is ops l c20 names c21 c22 c23).bind fun r32 =>
bif (!r32.2) then (
some ((Ex.mk c24 c25 c26 c27), c20, c21, c22, c23))
else (
(expr_read_next l c20 names c21 c22 c23).bind fun r37 =>
(expr_read_deepNeg k_expr_read_lower l (IntKind.i64.wrap (c20 + 1)) names c21 c22 c23).bind fun r44 =>
again30 (r44.2.1, r44.2.2.1, r44.2.2.2.1, r44.2.2.2.2, r32.1, 0, r37.2.2.2, ([(Ex.mk c24 c25 c26 c27), r44.1] : List Ex))))
else (
some ((Ex.mk c24 c25 c26 c27), c20, c21, c22, c23))

def expr_read_left_s4 (k_expr_read_lower : ((List (Int × Str × Int × Int)) × Int × (List Str) × Int × Int × Int) → Option (Ex × Int × Int × Int × Int)) (ops : (List Int)) (l : (List (Int × Str × Int × Int))) (at_ : Int) (names : (List Str)) (deep : Int) (bad : Int) (place : Int) : Option (Ex × Int × Int × Int × Int) :=
(expr_read_deepNeg k_expr_read_lower l at_ names deep bad place).bind fun r11 =>
fixN (expr_read_left_s4_L1 k_expr_read_lower ops l names) FUEL (r11.2.1, r11.2.2.1, r11.2.2.2.1, r11.2.2.2.2, r11.1.op, r11.1.n, r11.1.at_, r11.1.l)

def expr_read_prod (k_expr_read_lower : ((List (Int × Str × Int × Int)) × Int × (List Str) × Int × Int × Int) → Option (Ex × Int × Int × Int × Int)) (l : (List (Int × Str × Int × Int))) (at_ : Int) (names : (List Str)) (deep : Int) (bad : Int) (place : Int) : Option (Ex × Int × Int × Int × Int) :=
(expr_read_left_s4 k_expr_read_lower ([5] : List Int) l at_ names deep bad place).bind fun r13 =>
some (r13.1, r13.2.1, r13.2.2.1, r13.2.2.2.1, r13.2.2.2.2)

def expr_read_left_s3_L1 (k_expr_read_lower : ((List (Int × Str × Int × Int)) × Int × (List Str) × Int × Int × Int) → Option (Ex × Int × Int × Int × Int)) (ops : (List Int)) (l : (List (Int × Str × Int × Int))) (names : (List Str)) (again30 : (Int × Int × Int × Int × Int × Int × Int × (List Ex)) → Option (Ex × Int × Int × Int × Int)) : Int × Int × Int × Int × Int × Int × Int × (List Ex) → Option (Ex × Int × Int × Int × Int) := fun ⟨c20, c21, c22, c23, c24, c25, c26, c27⟩ =>
bif (c22 == 0) then (
(expr_read_is ops l c20 names c21 c22 c23).bind fun r32 =>
bif (!r32.2) then (
some ((Ex.mk c24 c25 c26 c27), c20, c21, c22, c23))
else (
(expr_read_next l c20 names c21 c22 c23).bind fun r37 =>
(expr_read_prod k_expr_read_lower l (IntKind.i64.wrap (c20 + 1)) names c21 c22 c23).bind fun r44 =>
again30 (r44.2.1, r44.2.2.1, r44.2.2.2.1, r44.2.2.2.2, r32.1, 0, r37.2.2.2, ([(Ex.mk c24 c25 c26 c27), r44.1] : List Ex))))
else (
some ((Ex.mk c24 c25 c26 c27), c20, c21, c22, c23))

def expr_read_left_s3 (k_expr_read_lower : ((List (Int × Str × Int × Int)) × Int × (List Str) × Int × Int × Int) → Option (Ex × Int × Int × Int × Int)) (ops : (List Int)) (l : (List (Int × Str × Int × Int))) (at_ : Int) (names : (List Str)) (deep : Int) (bad : Int) (place : Int) : Option (Ex × Int × Int × Int × Int) :=
(expr_read_prod k_expr_read_lower l at_ names deep bad place).bind fun r11 =>
fixN (expr_read_left_s3_L1 k_expr_read_lower ops l names) FUEL (r11.2.1, r11.2.2.1, r11.2.2.2.1, r11.2.2.2.2, r11.1.op, r11.1.n, r11.1.at_, r11.1.l)

def expr_read_sum (k_expr_read_lower : ((List (Int × Str × Int × Int)) × Int × (List Str) × Int × Int × Int) → Option (Ex × Int × Int × Int × Int)) (l : (List (Int × Str × Int × Int))) (at_ : Int) (names : (List Str)) (deep : Int) (bad : Int) (place : Int) : Option (Ex × Int × Int × Int × Int) :=
(expr_read_left_s3 k_expr_read_lower ([3, 4] : List Int) l at_ names deep bad place).bind fun r13 =>
some (r13.1, r13.2.1, r13.2.2.1, r13.2.2.2.1, r13.2.2.2.2)

def expr_read_cmp (k_expr_read_lower : ((List (Int × Str × Int × Int)) × Int × (List Str) × Int × Int × Int) → Option (Ex × Int × Int × Int × Int)) (l : (List (Int × Str × Int × Int))) (at_ : Int) (names : (List Str)) (deep : Int) (bad : Int) (place : Int) : Option (Ex × Int × Int × Int × Int) :=
(expr_read_sum k_expr_read_lower l at_ names deep bad place).bind fun r11 =>
(expr_read_is ([7, 8, 9, 10, 11, 12] : List Int) l r11.2.1 names r11.2.2.1 r11.2.2.2.1 r11.2.2.2.2).bind fun r21 =>
letv (r11.2.2.2.1 != 0) fun b24 =>
letv (!r21.2) fun b26 =>
letv (b24 || b26) fun b28 =>
bif b28 then (
some (r11.1, r11.2.1, r11.2.2.1, r11.2.2.2.1, r11.2.2.2.2))
else (
(expr_read_next l r11.2.1 names r11.2.2.1 r11.2.2.2.1 r11.2.2.2.2).bind fun r32 =>
(expr_read_sum k_expr_read_lower l (IntKind.i64.wrap (r11.2.1 + 1)) names r11.2.2.1 r11.2.2.2.1 r11.2.2.2.2).bind fun r39 =>
some ((Ex.mk r21.1 0 r32.2.2.2 ([r11.1, r39.1] : List Ex)), r39.2.1, r39.2.2.1, r39.2.2.2.1, r39.2.2.2.2))

def expr_read_before (k_expr_read_lower : ((List (Int × Str × Int × Int)) × Int × (List Str) × Int × Int × Int) → Option (Ex × Int × Int × Int × Int)) (k_expr_read_lower_s4 : ((List (Int × Str × Int × Int)) × Int × (List Str) × Int × Int × Int) → Option (Ex × Int × Int × Int × Int)) (ops : (List Int)) (l : (List (Int × Str × Int × Int))) (at_ : Int) (names : (List Str)) (deep : Int) (bad : Int) (place : Int) : Option (Ex × Int × Int × Int × Int) :=
(expr_read_is ops l at_ names deep bad place).bind fun r11 =>
bif (!r11.2) then (
(expr_read_cmp k_expr_read_lower l at_ names deep bad place).bind fun r15 =>
some (r15.1, r15.2.1, r15.2.2.1, r15.2.2.2.1, r15.2.2.2.2))
else (
(expr_read_next l at_ names deep bad place).bind fun r21 =>
(k_expr_read_lower_s4 (l, (IntKind.i64.wrap (at_ + 1)), names, deep, bad, place)).bind fun r30 =>
some ((Ex.mk r11.1 0 r21.2.2.2 ([r30.1] : List Ex)), r30.2.1, r30.2.2.1, r30.2.2.2.1, r30.2.2.2.2))

def expr_read_pre (k_expr_read_lower : ((List (Int × Str × Int × Int)) × Int × (List Str) × Int × Int × Int) → Option (Ex × Int × Int × Int × Int)) (k_expr_read_lower_s4 : ((List (Int × Str × Int × Int)) × Int × (List Str) × Int × Int × Int) → Option (Ex × Int × Int × Int × Int)) (l : (List (Int × Str × Int × Int))) (at_ : Int) (names : (List Str)) (deep : Int) (bad : Int) (place : Int) : Option (Ex × Int × Int × Int × Int) :=
(expr_read_before k_expr_read_lower k_expr_read_lower_s4 ([15, 20, 21, 22] : List Int) l at_ names deep bad place).bind fun r13 =>
some (r13.1, r13.2.1, r13.2.2.1, r13.2.2.2.1, r13.2.2.2.2)

def expr_read_lower_s4_F (k_expr_read_lower : ((List (Int × Str × Int × Int)) × Int × (List Str) × Int × Int × Int) → Option (Ex × Int × Int × Int × Int)) (k_expr_read_lower_s4 : ((List (Int × Str × Int × Int)) × Int × (List Str) × Int × Int × Int) → Option (Ex × Int × Int × Int × Int)) (l : (List (Int × Str × Int × Int))) (at_ : Int) (names : (List Str)) (deep : Int) (bad : Int) (place : Int) : Option (Ex × Int × Int × Int × Int) :=
bif (decide (320 ≤ deep)) then (
(expr_read_fail 9 l at_ names deep bad place).bind fun r12 =>
some (r12.1, at_, deep, r12.2.1, r12.2.2))
else (
(expr_read_pre k_expr_read_lower k_expr_read_lower_s4 l at_ names (IntKind.i64.wrap (deep + 1)) bad place).bind fun r19 =>
some (r19.1, r19.2.1, (IntKind.i64.wrap (r19.2.2.1 - 1)), r19.2.2.2.1, r19.2.2.2.2))

def expr_read_lower_s4 (k_expr_read_lower : ((List (Int × Str × Int × Int)) × Int × (List Str) × Int × Int × Int) → Option (Ex × Int × Int × Int × Int)) (l : (List (Int × Str × Int × Int))) (at_ : Int) (names : (List Str)) (deep : Int) (bad : Int) (place : Int) : Option (Ex × Int × Int × Int × Int) :=
  fixN (fun k (s : ((List (Int × Str × Int × Int)) × Int × (List Str) × Int × Int × Int)) => expr_read_lower_s4_F k_expr_read_lower k s.1 s.2.1 s.2.2.1 s.2.2.2.1 s.2.2.2.2.1 s.2.2.2.2.2) FUEL (l, at_, names, deep, bad, place)

def expr_read_deepPre (k_expr_read_lower : ((List (Int × Str × Int × Int)) × Int × (List Str) × Int × Int × Int) → Option (Ex × Int × Int × Int × Int)) (l : (List (Int × Str × Int × Int))) (at_ : Int) (names : (List Str)) (deep : Int) (bad : Int) (place : Int) : Option (Ex × Int × Int × Int × Int) :=
(expr_read_lower_s4 k_expr_read_lower l at_ names deep bad place).bind fun r11 =>
some (r11.1, r11.2.1, r11.2.2.1, r11.2.2.2.1, r11.2.2.2.2)

def expr_read_right_s3 (k_expr_read_lower : ((List (Int × Str × Int × Int)) × Int × (List Str) × Int × Int × Int) → Option (Ex × Int × Int × Int × Int)) (k_expr_read_lower_s3 : ((List (Int × Str × Int × Int)) × Int × (List Str) × Int × Int × Int) → Option (Ex × Int × Int × Int × Int)) (ops : (List Int)) (l : (List (Int × Str × Int × Int))) (at_ : Int) (names : (List Str)) (deep : Int) (bad : Int) (place : Int) : Option (Ex × Int × Int × Int × Int) :=
(expr_read_deepPre k_expr_read_lower l at_ names deep bad place).bind fun r11 =>
(expr_read_is ops l r11.2.1 names r11.2.2.1 r11.2.2.2.1 r11.2.2.2.2).bind fun r19 =>
letv (r11.2.2.2.1 != 0) fun b22 =>
letv (!r19.2) fun b24 =>
letv (b22 || b24) fun b26 =>
bif b26 then (
some (r11.1, r11.2.1, r11.2.2.1, r11.2.2.2.1, r11.2.2.2.2))
else (
(expr_read_next l r11.2.1 names r11.2.2.1 r11.2.2.2.1 r11.2.2.2.2).bind fun r30 =>
(k_expr_read_lower_s3 (l, (IntKind.i64.wrap (r11.2.1 + 1)), names, r11.2.2.1, r11.2.2.2.1, r11.2.2.2.2)).bind fun r37 =>
some ((Ex.mk r19.1 0 r30.2.2.2 ([r11.1, r37.1] : List Ex)), r37.2.1, r37.2.2.1, r37.2.2.2.1, r37.2.2.2.2))

def expr_read_until (k_expr_read_lower : ((List (Int × Str × Int × Int)) × Int × (List Str) × Int × Int × Int) → Option (Ex × Int × Int × Int × Int)) (k_expr_read_lower_s3 : ((List (Int × Str × Int × Int)) × Int × (List Str) × Int × Int × Int) → Option (Ex × Int × Int × Int × Int)) (l : (List (Int × Str × Int × Int))) (at_ : Int) (names : (List Str)) (deep : Int) (bad : Int) (place : Int) : Option (Ex × Int × Int × Int × Int) :=
(expr_read_right_s3 k_expr_read_lower k_expr_read_lower_s3 ([23, 24] : List Int) l at_ names deep bad place).bind fun r13 =>
some (r13.1, r13.2.1, r13.2.2.1, r13.2.2.2.1, r13.2.2.2.2)

def expr_read_lower_s3_F (k_expr_read_lower : ((List (Int × Str × Int × Int)) × Int × (List Str) × Int × Int × Int) → Option (Ex × Int × Int × Int × Int)) (k_expr_read_lower_s3 : ((List (Int × Str × Int × Int)) × Int × (List Str) × Int × Int × Int) → Option (Ex × Int × Int × Int × Int)) (l : (List (Int × Str × Int × Int))) (at_ : Int) (names : (List Str)) (deep : Int) (bad : Int) (place : Int) : Option (Ex × Int × Int × Int × Int) :=
bif (decide (320 ≤ deep)) then (
(expr_read_fail 9 l at_ names deep bad place).bind fun r12 =>
some (r12.1, at_, deep, r12.2.1, r12.2.2))
else (
(expr_read_until k_expr_read_lower k_expr_read_lower_s3 l at_ names (IntKind.i64.wrap (deep + 1)) bad place).bind fun r19 =>
some (r19.1, r19.2.1, (IntKind.i64.wrap (r19.2.2.1 - 1)), r19.2.2.2.1, r19.2.2.2.2))

def expr_read_lower_s3 (k_expr_read_lower : ((List (Int × Str × Int × Int)) × Int × (List Str) × Int × Int × Int) → Option (Ex × Int × Int × Int × Int)) (l : (List (Int × Str × Int × Int))) (at_ : Int) (names : (List Str)) (deep : Int) (bad : Int) (place : Int) : Option (Ex × Int × Int × Int × Int) :=
  fixN (fun k (s : ((List (Int × Str × Int × Int)) × Int × (List Str) × Int × Int × Int)) => expr_read_lower_s3_F k_expr_read_lower k s.1 s.2.1 s.2.2.1 s.2.2.2.1 s.2.2.2.2.1 s.2.2.2.2.2) FUEL (l, at_, names, deep, bad, place)

def expr_read_deepUntil (k_expr_read_lower : ((List (Int × Str × Int × Int)) × Int × (List Str) × Int × Int × Int) → Option (Ex × Int × Int × Int × Int)) (l : (List (Int × Str × Int × Int))) (at_ : Int) (names : (List Str)) (deep : Int) (bad : Int) (place : Int) : Option (Ex × Int × Int × Int × Int) :=
(expr_read_lower_s3 k_expr_read_lower l at_ names deep bad place).bind fun r11 =>
some (r11.1, r11.2.1, r11.2.2.1, r11.2.2.2.1, r11.2.2.2.2)

def expr_read_left_s2_L1 (k_expr_read_lower : ((List (Int × Str × Int × Int)) × Int × (List Str) × Int × Int × Int) → Option (Ex × Int × Int × Int × Int)) (ops : (List Int)) (l : (List (Int × Str × Int × Int))) (names : (List Str)) (again30 : (Int × Int × Int × Int × Int × Int × Int × (List Ex)) → Option (Ex × Int × Int × Int × Int)) : Int × Int × Int × Int × Int × Int × Int × (List Ex) → Option (Ex × Int × Int × Int × Int) := fun ⟨c20, c21, c22, c23, c24, c25, c26, c27⟩ =>
bif (c22 == 0) then (
(expr_read_is ops l c20 names c21 c22 c23).bind fun r32 =>
bif (!r32.2) then (
some ((Ex.mk c24 c25 c26 c27), c20, c21, c22, c23))
else (
(expr_read_next l c20 names c21 c22 c23).bind fun r37 =>
(expr_read_deepUntil k_expr_read_lower l (IntKind.i64.wrap (c20 + 1)) names c21 c22 c23).bind fun r44 =>
again30 (r44.2.1, r44.2.2.1, r44.2.2.2.1, r44.2.2.2.2, r32.1, 0, r37.2.2.2, ([(Ex.mk c24 c25 c26 c27), r44.1] : List Ex))))
else (
some ((Ex.mk c24 c25 c26 c27), c20, c21, c22, c23))

def expr_read_left_s2 (k_expr_read_lower : ((List (Int × Str × Int × Int)) × Int × (List Str) × Int × Int × Int) → Option (Ex × Int × Int × Int × Int)) (ops : (List Int)) (l : (List (Int × Str × Int × Int))) (at_ : Int) (names : (List Str)) (deep : Int) (bad : Int) (place : Int) : Option (Ex × Int × Int × Int × Int) :=
(expr_read_deepUntil k_expr_read_lower l at_ names deep bad place).bind fun r11 =>
fixN (expr_read_left_s2_L1 k_expr_read_lower ops l names) FUEL (r11.2.1, r11.2.2.1, r11.2.2.2.1, r11.2.2.2.2, r11.1.op, r11.1.n, r11.1.at_, r11.1.l)

def expr_read_and (k_expr_read_lower : ((List (Int × Str × Int × Int)) × Int × (List Str) × Int × Int × Int) → Option (Ex × Int × Int × Int × Int)) (l : (List (Int × Str × Int × Int))) (at_ : Int) (names : (List Str)) (deep : Int) (bad : Int) (place : Int) : Option (Ex × Int × Int × Int × Int) :=
(expr_read_left_s2 k_expr_read_lower ([16] : List Int) l at_ names deep bad place).bind fun r13 =>
some (r13.1, r13.2.1, r13.2.2.1, r13.2.2.2.1, r13.2.2.2.2)

def expr_read_left_L1 (k_expr_read_lower : ((List (Int × Str × Int × Int)) × Int × (List Str) × Int × Int × Int) → Option (Ex × Int × Int × Int × Int)) (ops : (List Int)) (l : (List (Int × Str × Int × Int))) (names : (List Str)) (again30 : (Int × Int × Int × Int × Int × Int × Int × (List Ex)) → Option (Ex × Int × Int × Int × Int)) : Int × Int × Int × Int × Int × Int × Int × (List Ex) → Option (Ex × Int × Int × Int × Int) := fun ⟨c20, c21, c22, c23, c24, c25, c26, c27⟩ =>
bif (c22 == 0) then (
(expr_read_is ops l c20 names c21 c22 c23).bind fun r32 =>
bif (!r32.2) then (
some ((Ex.mk c24 c25 c26 c27), c20, c21, c22, c23))
else (
(expr_read_next l c20 names c21 c22 c23).bind fun r37 =>
(expr_read_and k_expr_read_lower l (IntKind.i64.wrap (c20 + 1)) names c21 c22 c23).bind fun r44 =>
again30 (r44.2.1, r44.2.2.1, r44.2.2.2.1, r44.2.2.2.2, r32.1, 0, r37.2.2.2, ([(Ex.mk c24 c25 c26 c27), r44.1] : List Ex))))
else (
some ((Ex.mk c24 c25 c26 c27), c20, c21, c22, c23))

def expr_read_left (k_expr_read_lower : ((List (Int × Str × Int × Int)) × Int × (List Str) × Int × Int × Int) → Option (Ex × Int × Int × Int × Int)) (ops : (List Int)) (l : (List (Int × Str × Int × Int))) (at_ : Int) (names : (List Str)) (deep : Int) (bad : Int) (place : Int) : Option (Ex × Int × Int × Int × Int) :=
(expr_read_and k_expr_read_lower l at_ names deep bad place).bind fun r11 =>
fixN (expr_read_left_L1 k_expr_read_lower ops l names) FUEL (r11.2.1, r11.2.2.1, r11.2.2.2.1, r11.2.2.2.2, r11.1.op, r11.1.n, r11.1.at_, r11.1.l)

def expr_read_or (k_expr_read_lower : ((List (Int × Str × Int × Int)) × Int × (List Str) × Int × Int × Int) → Option (Ex × Int × Int × Int × Int)) (l : (List (Int × Str × Int × Int))) (at_ : Int) (names : (List Str)) (deep : Int) (bad : Int) (place : Int) : Option (Ex × Int × Int × Int × Int) :=
(expr_read_left k_expr_read_lower ([17] : List Int) l at_ names deep bad place).bind fun r13 =>
some (r13.1, r13.2.1, r13.2.2.1, r13.2.2.2.1, r13.2.2.2.2)

def expr_read_right_s2 (k_expr_read_lower : ((List (Int × Str × Int × Int)) × Int × (List Str) × Int × Int × Int) → Option (Ex × Int × Int × Int × Int)) (k_expr_read_lower_s2 : ((List (Int × Str × Int × Int)) × Int × (List Str) × Int × Int × Int) → Option (Ex × Int × Int × Int × Int)) (ops : (List Int)) (l : (List (Int × Str × Int × Int))) (at_ : Int) (names : (List Str)) (deep : Int) (bad : Int) (place : Int) : Option (Ex × Int × Int × Int × Int) :=
(expr_read_or k_expr_read_lower l at_ names deep bad place).bind fun r11 =>
(expr_read_is ops l r11.2.1 names r11.2.2.1 r11.2.2.2.1 r11.2.2.2.2).bind fun r19 =>
letv (r11.2.2.2.1 != 0) fun b22 =>
letv (!r19.2) fun b24 =>
letv (b22 || b24) fun b26 =>
bif b26 then (
some (r11.1, r11.2.1, r11.2.2.1, r11.2.2.2.1, r11.2.2.2.2))
else (
(expr_read_next l r11.2.1 names r11.2.2.1 r11.2.2.2.1 r11.2.2.2.2).bind fun r30 =>
(k_expr_read_lower_s2 (l, (IntKind.i64.wrap (r11.2.1 + 1)), names, r11.2.2.1, r11.2.2.2.1, r11.2.2.2.2)).bind fun r37 =>
some ((Ex.mk r19.1 0 r30.2.2.2 ([r11.1, r37.1] : List Ex)), r37.2.1, r37.2.2.1, r37.2.2.2.1, r37.2.2.2.2))

def expr_read_imp (k_expr_read_lower : ((List (Int × Str × Int × Int)) × Int × (List Str) × Int × Int × Int) → Option (Ex × Int × Int × Int × Int)) (k_expr_read_lower_s2 : ((List (Int × Str × Int × Int)) × Int × (List Str) × Int × Int × Int) → Option (Ex × Int × Int × Int × Int)) (l : (List (Int × Str × Int × Int))) (at_ : Int) (names : (List Str)) (deep : Int) (bad : Int) (place : Int) : Option (Ex × Int × Int × Int × Int) :=
(expr_read_right_s2 k_expr_read_lower k_expr_read_lower_s2 ([18] : List Int) l at_ names deep bad place).bind fun r13 =>
some (r13.1, r13.2.1, r13.2.2.1, r13.2.2.2.1, r13.2.2.2.2)

def expr_read_lower_s2_F (k_expr_read_lower : ((List (Int × Str × Int × Int)) × Int × (List Str) × Int × Int × Int) → Option (Ex × Int × Int × Int × Int)) (k_expr_read_lower_s2 : ((List (Int × Str × Int × Int)) × Int × (List Str) × Int × Int × Int) → Option (Ex × Int × Int × Int × Int)) (l : (List (Int × Str × Int × Int))) (at_ : Int) (names : (List Str)) (deep : Int) (bad : Int) (place : Int) : Option (Ex × Int × Int × Int × Int) :=
bif (decide (320 ≤ deep)) then (
(expr_read_fail 9 l at_ names deep bad place).bind fun r12 =>
some (r12.1, at_, deep, r12.2.1, r12.2.2))
else (
(expr_read_imp k_expr_read_lower k_expr_read_lower_s2 l at_ names (IntKind.i64.wrap (deep + 1)) bad place).bind fun r19 =>
some (r19.1, r19.2.1, (IntKind.i64.wrap (r19.2.2.1 - 1)), r19.2.2.2.1, r19.2.2.2.2))

def expr_read_lower_s2 (k_expr_read_lower : ((List (Int × Str × Int × Int)) × Int × (List Str) × Int × Int × Int) → Option (Ex × Int × Int × Int × Int)) (l : (List (Int × Str × Int × Int))) (at_ : Int) (names : (List Str)) (deep : Int) (bad : Int) (place : Int) : Option (Ex × Int × Int × Int × Int) :=
  fixN (fun k (s : ((List (Int × Str × Int × Int)) × Int × (List Str) × Int × Int × Int)) => expr_read_lower_s2_F k_expr_read_lower k s.1 s.2.1 s.2.2.1 s.2.2.2.1 s.2.2.2.2.1 s.2.2.2.2.2) FUEL (l, at_, names, deep, bad, place)

def expr_read_deepImp (k_expr_read_lower : ((List (Int × Str × Int × Int)) × Int × (List Str) × Int × Int × Int) → Option (Ex × Int × Int × Int × Int)) (l : (List (Int × Str × Int × Int))) (at_ : Int) (names : (List Str)) (deep : Int) (bad : Int) (place : Int) : Option (Ex × Int × Int × Int × Int) :=
(expr_read_lower_s2 k_expr_read_lower l at_ names deep bad place).bind fun r11 =>
some (r11.1, r11.2.1, r11.2.2.1, r11.2.2.2.1, r11.2.2.2.2)

def expr_read_right (k_expr_read_lower : ((List (Int × Str × Int × Int)) × Int × (List Str) × Int × Int × Int) → Option (Ex × Int × Int × Int × Int)) (ops : (List Int)) (l : (List (Int × Str × Int × Int))) (at_ : Int) (names : (List Str)) (deep : Int) (bad : Int) (place : Int) : Option (Ex × Int × Int × Int × Int) :=
(expr_read_deepImp k_expr_read_lower l at_ names deep bad place).bind fun r11 =>
(expr_read_is ops l r11.2.1 names r11.2.2.1 r11.2.2.2.1 r11.2.2.2.2).bind fun r19 =>
letv (r11.2.2.2.1 != 0) fun b22 =>
letv (!r19.2) fun b24 =>
letv (b22 || b24) fun b26 =>
bif b26 then (
some (r11.1, r11.2.1, r11.2.2.1, r11.2.2.2.1, r11.2.2.2.2))
else (
(expr_read_next l r11.2.1 names r11.2.2.1 r11.2.2.2.1 r11.2.2.2.2).bind fun r30 =>
(k_expr_read_lower (l, (IntKind.i64.wrap (r11.2.1 + 1)), names, r11.2.2.1, r11.2.2.2.1, r11.2.2.2.2)).bind fun r37 =>
some ((Ex.mk r19.1 0 r30.2.2.2 ([r11.1, r37.1] : List Ex)), r37.2.1, r37.2.2.1, r37.2.2.2.1, r37.2.2.2.2))

def expr_read_iff (k_expr_read_lower : ((List (Int × Str × Int × Int)) × Int × (List Str) × Int × Int × Int) → Option (Ex × Int × Int × Int × Int)) (l : (List (Int × Str × Int × Int))) (at_ : Int) (names : (List Str)) (deep : Int) (bad : Int) (place : Int) : Option (Ex × Int × Int × Int × Int) :=
(expr_read_right k_expr_read_lower ([19] : List Int) l at_ names deep bad place).bind fun r13 =>
some (r13.1, r13.2.1, r13.2.2.1, r13.2.2.2.1, r13.2.2.2.2)

def expr_read_lower_F (k_expr_read_lower : ((List (Int × Str × Int × Int)) × Int × (List Str) × Int × Int × Int) → Option (Ex × Int × Int × Int × Int)) (l : (List (Int × Str × Int × Int))) (at_ : Int) (names : (List Str)) (deep : Int) (bad : Int) (place : Int) : Option (Ex × Int × Int × Int × Int) :=
bif (decide (320 ≤ deep)) then (
(expr_read_fail 9 l at_ names deep bad place).bind fun r12 =>
some (r12.1, at_, deep, r12.2.1, r12.2.2))
else (
(expr_read_iff k_expr_read_lower l at_ names (IntKind.i64.wrap (deep + 1)) bad place).bind fun r19 =>
some (r19.1, r19.2.1, (IntKind.i64.wrap (r19.2.2.1 - 1)), r19.2.2.2.1, r19.2.2.2.2))

def expr_read_lower (l : (List (Int × Str × Int × Int))) (at_ : Int) (names : (List Str)) (deep : Int) (bad : Int) (place : Int) : Option (Ex × Int × Int × Int × Int) :=
  fixN (fun k (s : ((List (Int × Str × Int × Int)) × Int × (List Str) × Int × Int × Int)) => expr_read_lower_F k s.1 s.2.1 s.2.2.1 s.2.2.2.1 s.2.2.2.2.1 s.2.2.2.2.2) FUEL (l, at_, names, deep, bad, place)

def expr_Parse (l : (List (Int × Str × Int × Int))) (at_ : Int) (names : (List Str)) : Option (Ex × Int × Int × Int) :=
(expr_read_lower l at_ names 0 0 0).bind fun r13 =>
bif (r13.2.2.2.1 != 0) then (
some ((Ex.mk 0 0 0 []), 0, r13.2.2.2.1, r13.2.2.2.2))
else (
some (r13.1, r13.2.1, 0, 0))

def scrutinylaw13_parsed (text : Str) : Option (Ex × Int × Int × Int) :=
(scrutinyref12_Tokens text).bind fun r10 =>
bif ((List.length r10.1 : Int) == 0) then (
some ((Ex.mk 0 0 0 []), 0, 2, 0))
else (
(scrutinylaw13_names).bind fun r17 =>
(expr_Parse r10.1 0 r17).bind fun r22 =>
some (r22.1, r22.2.1, r22.2.2.1, r22.2.2.2))

def expr_Type_K2 (e : Ex) (times10 : Bool) (t45 : Bool) : Option (Int × Int × Int) :=
bif t45 then (
some (2, 0, 0))
else (
letv (decide (15 ≤ e.op)) fun b47 =>
letv (b47 && times10) fun b49 =>
bif b49 then (
some (3, 0, 0))
else (
some (0, 4, e.at_)))

def expr_Type_L1 (k_expr_Type : Ex → Option (Int × Int × Int)) (e : Ex) (again12 : (Bool × Bool × Bool × Int) → Option (Int × Int × Int)) : Bool × Bool × Bool × Int → Option (Int × Int × Int) := fun ⟨ints8, bools9, times10, t11⟩ =>
bif (decide (t11 < (List.length e.l : Int))) then (
(idx e.l t11).bind fun e14 =>
(k_expr_Type e14).bind fun r23 =>
bif (r23.2.1 != 0) then (
some (0, r23.2.1, r23.2.2))
else (
letv (r23.1 == 1) fun b27 =>
letv (ints8 && b27) fun b29 =>
letv (r23.1 == 2) fun b31 =>
letv (bools9 && b31) fun b33 =>
letv (r23.1 != 1) fun b35 =>
letv (times10 && b35) fun b37 =>
again12 (b29, b33, b37, (IntKind.i64.wrap (t11 + 1)))))
else (
letv (decide (e.op ≤ 6)) fun b39 =>
letv (b39 && ints8) fun b41 =>
bif b41 then (
some (1, 0, 0))
else (
letv (decide (6 < e.op)) fun b54 =>
letv (decide (e.op ≤ 12)) fun b56 =>
letv (b54 && b56) fun b58 =>
letv (b58 && ints8) fun b60 =>
bif b60 then (
expr_Type_K2 e times10 b60)
else (
bif (e.op == 13) then (
expr_Type_K2 e times10 (e.op == 13))
else (
bif (e.op == 14) then (
expr_Type_K2 e times10 (e.op == 14))
else (
letv (decide (15 ≤ e.op)) fun b65 =>
letv (decide (e.op ≤ 19)) fun b67 =>
letv (b65 && b67) fun b69 =>
letv (b69 && bools9) fun b71 =>
expr_Type_K2 e times10 b71)))))

def expr_Type_F (k_expr_Type : Ex → Option (Int × Int × Int)) (e : Ex) : Option (Int × Int × Int) :=
fixN (expr_Type_L1 k_expr_Type e) FUEL (true, true, true, 0)

def expr_Type (e : Ex) : Option (Int × Int × Int) :=
  fixN (fun k (s : Ex) => expr_Type_F k s) FUEL e

def expr_truth (is_ : Bool) : Option Int :=
bif is_ then (
some 1)
else (
some 0)

def expr_Eval_K2 (a36 : Int) (b37 : Int) (turn38 : Bool) : Option Int :=
(expr_truth ((decide (a36 ≤ b37)) != turn38)).bind fun r39 =>
some r39

def expr_Eval_K3 (a43 : Int) (b44 : Int) (turn45 : Bool) : Option Int :=
(expr_truth ((decide (a43 < b44)) != turn45)).bind fun r46 =>
some r46

def expr_Eval_K4 (a50 : Int) (b51 : Int) (turn52 : Bool) : Option Int :=
(expr_truth ((a50 == b51) != turn52)).bind fun r53 =>
some r53

def expr_Eval_K5 (e : Ex) (c12 : Int) (c13 : Int) : Option Int :=
bif (e.op == 12) then (
expr_Eval_K3 c12 c13 true)
else (
bif (e.op == 9) then (
expr_Eval_K3 c12 c13 false)
else (
bif (e.op == 11) then (
expr_Eval_K2 c12 c13 true)
else (
bif (e.op == 10) then (
expr_Eval_K2 c12 c13 false)
else (
bif (e.op == 13) then (
some 1)
else (
bif (e.op == 15) then (
some (IntKind.i64.wrap (1 - c12)))
else (
bif (e.op == 16) then (
some (IntKind.i64.wrap (c12 * c13)))
else (
bif (e.op == 17) then (
some (max c12 c13))
else (
bif (e.op == 18) then (
some (max (IntKind.i64.wrap (1 - c12)) c13))
else (
some 0)))))))))

def expr_Eval_K6 (e : Ex) (c12 : Int) (c13 : Int) (t83 : Bool) : Option Int :=
bif t83 then (
expr_Eval_K4 c12 c13 false)
else (
expr_Eval_K5 e c12 c13)

def expr_Eval_L1 (k_expr_Eval : (Ex × (List Int)) → Option Int) (e : Ex) (v3 : (List Int)) (again15 : (Int × Int × Int) → Option Int) : Int × Int × Int → Option Int := fun ⟨c12, c13, t14⟩ =>
bif (decide (t14 < (List.length (cutL e.l 0 (min (List.length e.l : Int) 2)) : Int))) then (
(idx (cutL e.l 0 (min (List.length e.l : Int) 2)) t14).bind fun e17 =>
(k_expr_Eval (e17, v3)).bind fun r26 =>
bif (t14 == 0) then (
again15 (r26, c13, (IntKind.i64.wrap (t14 + 1))))
else (
bif (t14 == 1) then (
again15 (c12, r26, (IntKind.i64.wrap (t14 + 1))))
else (
none)))
else (
bif (e.op == 1) then (
some e.n)
else (
bif (e.op == 2) then (
letv (decide (e.n < 0)) fun b58 =>
letv (decide ((List.length v3 : Int) ≤ e.n)) fun b60 =>
letv (b58 || b60) fun b62 =>
bif b62 then (
some 0)
else (
(idx v3 e.n).bind fun e65 =>
some e65))
else (
bif (e.op == 3) then (
some (IntKind.i64.wrap (c12 + c13)))
else (
bif (e.op == 5) then (
some (IntKind.i64.wrap (c12 * c13)))
else (
bif (e.op == 6) then (
some (IntKind.i64.wrap (0 - c12)))
else (
bif (e.op == 4) then (
some (IntKind.i64.wrap (c12 - c13)))
else (
bif (e.op == 8) then (
expr_Eval_K4 c12 c13 true)
else (
bif (e.op == 7) then (
expr_Eval_K6 e c12 c13 (e.op == 7))
else (
expr_Eval_K6 e c12 c13 (e.op == 19))))))))))

def expr_Eval_F (k_expr_Eval : (Ex × (List Int)) → Option Int) (e : Ex) (v3 : (List Int)) : Option Int :=
chk (cutB 0 (min (List.length e.l : Int) 2) (List.length e.l)) <|
fixN (expr_Eval_L1 k_expr_Eval e v3) FUEL (0, 0, 0)

def expr_Eval (e : Ex) (v3 : (List Int)) : Option Int :=
  fixN (fun k (s : (Ex × (List Int))) => expr_Eval_F k s.1 s.2) FUEL (e, v3)

def expr_Show_F (k_expr_Show : (Ex × (List Str)) → Option Str) (e : Ex) (names : (List Str)) : Option Str :=
bif (e.op == 1) then (
chk (i64B e.n) <|
some (Lib.itoa e.n))
else (
bif (e.op == 2) then (
(idx names e.n).bind fun e9 =>
some e9)
else (
bif ((List.length e.l : Int) == 0) then (
(idx textsL e.op).bind fun e12 =>
some e12)
else (
bif ((List.length e.l : Int) == 1) then (
(idx textsL e.op).bind fun e17 =>
chk (catB [40] e17) <|
chk (catB ([40] ++ e17) [32]) <|
(idx e.l 0).bind fun e21 =>
(k_expr_Show (e21, names)).bind fun r27 =>
chk (catB (([40] ++ e17) ++ [32]) r27) <|
chk (catB ((([40] ++ e17) ++ [32]) ++ r27) [41]) <|
some (((([40] ++ e17) ++ [32]) ++ r27) ++ [41]))
else (
(idx e.l 0).bind fun e34 =>
(idx textsL e.op).bind fun e40 =>
(idx e.l 1).bind fun e42 =>
(k_expr_Show (e34, names)).bind fun r48 =>
chk (catB [40] r48) <|
chk (catB ([40] ++ r48) [32]) <|
chk (catB (([40] ++ r48) ++ [32]) e40) <|
chk (catB ((([40] ++ r48) ++ [32]) ++ e40) [32]) <|
(k_expr_Show (e42, names)).bind fun r55 =>
chk (catB (((([40] ++ r48) ++ [32]) ++ e40) ++ [32]) r55) <|
chk (catB ((((([40] ++ r48) ++ [32]) ++ e40) ++ [32]) ++ r55) [41]) <|
some (((((([40] ++ r48) ++ [32]) ++ e40) ++ [32]) ++ r55) ++ [41])))))

def expr_Show (e : Ex) (names : (List Str)) : Option Str :=
  fixN (fun k (s : (Ex × (List Str))) => expr_Show_F k s.1 s.2) FUEL (e, names)

def expr_Size_L1 (k_expr_Size : Ex → Option Int) (e : Ex) (again8 : (Int × Int) → Option Int) : Int × Int → Option Int := fun ⟨n6, t7⟩ =>
bif (decide (t7 < (List.length e.l : Int))) then (
(idx e.l t7).bind fun e10 =>
(k_expr_Size e10).bind fun r19 =>
again8 ((IntKind.i64.wrap (n6 + r19)), (IntKind.i64.wrap (t7 + 1))))
else (
some n6)

def expr_Size_F (k_expr_Size : Ex → Option Int) (e : Ex) : Option Int :=
fixN (expr_Size_L1 k_expr_Size e) FUEL (1, 0)

def expr_Size (e : Ex) : Option Int :=
  fixN (fun k (s : Ex) => expr_Size_F k s) FUEL e

def slices_EqualFunc_api_Expr_api_Expr_api_Expr_api_Expr_L1 (k_expr_Same : (Ex × Ex) → Option Bool) (s1 : (List Ex)) (s2 : (List Ex)) (again6 : Int → Option Bool) (t5 : Int) : Option Bool :=
bif (decide (t5 < (List.length s1 : Int))) then (
(idx s1 t5).bind fun e8 =>
(idx s2 t5).bind fun e17 =>
(k_expr_Same (e8, e17)).bind fun r26 =>
bif (!r26) then (
some false)
else (
again6 (IntKind.i64.wrap (t5 + 1))))
else (
some true)

def slices_EqualFunc_api_Expr_api_Expr_api_Expr_api_Expr (k_expr_Same : (Ex × Ex) → Option Bool) (s1 : (List Ex)) (s2 : (List Ex)) : Option Bool :=
bif ((List.length s1 : Int) != (List.length s2 : Int)) then (
some false)
else (
fixN (slices_EqualFunc_api_Expr_api_Expr_api_Expr_api_Expr_L1 k_expr_Same s1 s2) FUEL 0)

def expr_Same_F (k_expr_Same : (Ex × Ex) → Option Bool) (a : Ex) (b : Ex) : Option Bool :=
letv (a.op == b.op) fun b7 =>
letv (a.n == b.n) fun b9 =>
letv (b7 && b9) fun b11 =>
callG b11 default (slices_EqualFunc_api_Expr_api_Expr_api_Expr_api_Expr k_expr_Same a.l b.l) fun r13 =>
letv (b11 && r13) fun b19 =>
some b19

def expr_Same (a : Ex) (b : Ex) : Option Bool :=
  fixN (fun k (s : (Ex × Ex)) => expr_Same_F k s.1 s.2) FUEL (a, b)

def scrutinylaw13_shown : Option Bool :=
(scrutinylaw13_parsed [97, 32, 60, 32, 51, 32, 38, 32, 71, 32, 98, 32, 61, 61, 32, 49]).bind fun r3 =>
(expr_Type r3.1).bind fun r11 =>
(scrutinylaw13_parsed [49, 32, 43, 32, 116, 114, 117, 101]).bind fun r14 =>
(expr_Type r14.1).bind fun r22 =>
(scrutinylaw13_parsed [97, 32, 60, 32, 100]).bind fun r25 =>
(scrutinylaw13_parsed [40, 97, 32, 60, 32, 98]).bind fun r33 =>
(scrutinylaw13_parsed [45, 97, 32, 42, 32, 50, 32, 43, 32, 98, 32, 61, 61, 32, 49, 32, 45, 62, 32, 97, 32, 33, 61, 32, 98]).bind fun r41 =>
bif ((List.length r3.1.l : Int) != 2) then (
some false)
else (
letv (r3.2.2.1 == 0) fun b52 =>
letv (r3.2.1 == 8) fun b54 =>
letv (b52 && b54) fun b56 =>
letv (r3.1.op == 16) fun b58 =>
letv (b56 && b58) fun b60 =>
callG b60 (Ex.mk 0 0 0 []) (idx r3.1.l 0) fun e62 =>
letv (e62.op == 9) fun b68 =>
letv (b60 && b68) fun b70 =>
callG b70 (Ex.mk 0 0 0 []) (idx r3.1.l 1) fun e72 =>
letv (e72.op == 22) fun b78 =>
letv (b70 && b78) fun b80 =>
letv (r11.1 == 3) fun b82 =>
letv (b80 && b82) fun b84 =>
letv (r11.2.1 == 0) fun b86 =>
letv (b84 && b86) fun b88 =>
letv (r14.2.2.1 == 0) fun b90 =>
letv (b88 && b90) fun b92 =>
letv (r22.2.1 == 4) fun b94 =>
letv (b92 && b94) fun b96 =>
letv (r22.2.2 == 2) fun b98 =>
letv (b96 && b98) fun b100 =>
letv (r25.2.2.1 == 3) fun b102 =>
letv (b100 && b102) fun b104 =>
letv (r25.2.2.2 == 4) fun b106 =>
letv (b104 && b106) fun b108 =>
letv (r33.2.2.1 == 2) fun b110 =>
letv (b108 && b110) fun b112 =>
letv (r33.2.2.2 == 6) fun b114 =>
letv (b112 && b114) fun b116 =>
callG b116 default (expr_Eval r41.1 ([2, 5] : List Int)) fun r120 =>
letv (r120 == 1) fun b126 =>
letv (b116 && b126) fun b128 =>
callG b128 default (expr_Eval r41.1 ([2, 2, 0] : List Int)) fun r132 =>
letv (r132 == 1) fun b138 =>
letv (b128 && b138) fun b140 =>
callG b140 default (scrutinylaw13_names) fun r142 =>
callG b140 default (expr_Show r3.1 r142) fun r151 =>
letv (r151 == [40, 40, 97, 32, 60, 32, 51, 41, 32, 38, 32, 40, 71, 32, 40, 98, 32, 61, 61, 32, 49, 41, 41, 41]) fun b157 =>
letv (b140 && b157) fun b159 =>
callG b159 default (expr_Size r3.1) fun r161 =>
letv (r161 == 8) fun b167 =>
letv (b159 && b167) fun b169 =>
callG b169 default (expr_Same r3.1 r3.1) fun r171 =>
letv (b169 && r171) fun b177 =>
callG b177 default (expr_Same r3.1 r14.1) fun r179 =>
letv (!r179) fun b185 =>
letv (b177 && b185) fun b187 =>
callG b187 default (expr_Key [85]) fun r189 =>
letv (b187 && r189) fun b195 =>
callG b195 default (expr_Key [117]) fun r197 =>
letv (!r197) fun b203 =>
letv (b195 && b203) fun b205 =>
some b205)

def scrutinyref13_Deep_L1 (k_scrutinyref13_Deep : (Ex × Int) → Option Int) (e : Ex) (most : Int) (again8 : (Int × Int) → Option Int) : Int × Int → Option Int := fun ⟨d6, i7⟩ =>
letv (decide (i7 < (List.length e.l : Int))) fun b9 =>
letv (decide (1 < most)) fun b11 =>
letv (b9 && b11) fun b13 =>
bif b13 then (
(idx e.l i7).bind fun e16 =>
(k_scrutinyref13_Deep (e16, (IntKind.i64.wrap (most - 1)))).bind fun r22 =>
bif (decide (d6 < (IntKind.i64.wrap (1 + r22)))) then (
again8 ((IntKind.i64.wrap (1 + r22)), (IntKind.i64.wrap (i7 + 1))))
else (
again8 (d6, (IntKind.i64.wrap (i7 + 1)))))
else (
some d6)

def scrutinyref13_Deep_F (k_scrutinyref13_Deep : (Ex × Int) → Option Int) (e : Ex) (most : Int) : Option Int :=
fixN (scrutinyref13_Deep_L1 k_scrutinyref13_Deep e most) FUEL (1, 0)

def scrutinyref13_Deep (e : Ex) (most : Int) : Option Int :=
  fixN (fun k (s : (Ex × Int)) => scrutinyref13_Deep_F k s.1 s.2) FUEL (e, most)

def scrutinyref13_Many_L1 (k_scrutinyref13_Many : (Ex × Int) → Option Int) (e : Ex) (most : Int) (again8 : (Int × Int) → Option Int) : Int × Int → Option Int := fun ⟨n6, i7⟩ =>
letv (decide (i7 < (List.length e.l : Int))) fun b9 =>
letv (decide (n6 < most)) fun b11 =>
letv (b9 && b11) fun b13 =>
bif b13 then (
(idx e.l i7).bind fun e16 =>
(k_scrutinyref13_Many (e16, most)).bind fun r22 =>
again8 ((IntKind.i64.wrap (n6 + r22)), (IntKind.i64.wrap (i7 + 1))))
else (
some n6)

def scrutinyref13_Many_F (k_scrutinyref13_Many : (Ex × Int) → Option Int) (e : Ex) (most : Int) : Option Int :=
fixN (scrutinyref13_Many_L1 k_scrutinyref13_Many e most) FUEL (1, 0)

def scrutinyref13_Many (e : Ex) (most : Int) : Option Int :=
  fixN (fun k (s : (Ex × Int)) => scrutinyref13_Many_F k s.1 s.2) FUEL (e, most)

def scrutinyref13_Few (e : Ex) : Option Bool :=
(scrutinyref13_Deep e 45).bind fun r5 =>
(scrutinyref13_Many e 300).bind fun r8 =>
letv (decide (r5 < 45)) fun b11 =>
letv (decide (r8 < 300)) fun b13 =>
letv (b11 && b13) fun b15 =>
some b15

def scrutinyref13_Key_K1 (t4 : Bool) : Option Bool :=
bif t4 then (
some true)
else (
some false)

def scrutinyref13_Key (name : Str) : Option Bool :=
bif (name == [116, 114, 117, 101]) then (
scrutinyref13_Key_K1 (name == [116, 114, 117, 101]))
else (
bif (name == [102, 97, 108, 115, 101]) then (
scrutinyref13_Key_K1 (name == [102, 97, 108, 115, 101]))
else (
bif (name == [88]) then (
scrutinyref13_Key_K1 (name == [88]))
else (
bif (name == [70]) then (
scrutinyref13_Key_K1 (name == [70]))
else (
bif (name == [71]) then (
scrutinyref13_Key_K1 (name == [71]))
else (
bif (name == [85]) then (
scrutinyref13_Key_K1 (name == [85]))
else (
bif (name == [82]) then (
scrutinyref13_Key_K1 (name == [82]))
else (
bif (name == [118, 97, 114]) then (
scrutinyref13_Key_K1 (name == [118, 97, 114]))
else (
scrutinyref13_Key_K1 (name == [112, 114, 111, 99])))))))))

def scrutinyref13_Same_L1 (k_scrutinyref13_Same : (Ex × Ex) → Option Bool) (a : Ex) (b : Ex) (again20 : Int → Option Bool) (i19 : Int) : Option Bool :=
bif (decide (i19 < (List.length a.l : Int))) then (
(idx a.l i19).bind fun e24 =>
(idx b.l i19).bind fun e30 =>
(k_scrutinyref13_Same (e24, e30)).bind fun r36 =>
bif (!r36) then (
some false)
else (
again20 (IntKind.i64.wrap (i19 + 1))))
else (
some true)

def scrutinyref13_Same_F (k_scrutinyref13_Same : (Ex × Ex) → Option Bool) (a : Ex) (b : Ex) : Option Bool :=
letv (a.op != b.op) fun b7 =>
letv (a.n != b.n) fun b9 =>
letv (b7 || b9) fun b11 =>
letv ((List.length a.l : Int) != (List.length b.l : Int)) fun b13 =>
letv (b11 || b13) fun b15 =>
bif b15 then (
some false)
else (
fixN (scrutinyref13_Same_L1 k_scrutinyref13_Same a b) FUEL 0)

def scrutinyref13_Same (a : Ex) (b : Ex) : Option Bool :=
  fixN (fun k (s : (Ex × Ex)) => scrutinyref13_Same_F k s.1 s.2) FUEL (a, b)

def scrutinyref13_Size_L1 (k_scrutinyref13_Size : Ex → Option Int) (e : Ex) (again8 : (Int × Int) → Option Int) : Int × Int → Option Int := fun ⟨n6, i7⟩ =>
bif (decide (i7 < (List.length e.l : Int))) then (
(idx e.l i7).bind fun e10 =>
(k_scrutinyref13_Size e10).bind fun r16 =>
again8 ((IntKind.i64.wrap (n6 + r16)), (IntKind.i64.wrap (i7 + 1))))
else (
some n6)

def scrutinyref13_Size_F (k_scrutinyref13_Size : Ex → Option Int) (e : Ex) : Option Int :=
fixN (scrutinyref13_Size_L1 k_scrutinyref13_Size e) FUEL (1, 0)

def scrutinyref13_Size (e : Ex) : Option Int :=
  fixN (fun k (s : Ex) => scrutinyref13_Size_F k s) FUEL e

def scrutinyref13_May_L2 (k_scrutinyref13_May : (Ex × Int) → Option Bool) (e : Ex) (vars : Int) (want6 : Int) (again51 : Int → Option Bool) (i50 : Int) : Option Bool :=
bif (decide (i50 < want6)) then (
(idx e.l i50).bind fun e53 =>
(k_scrutinyref13_May (e53, vars)).bind fun r59 =>
bif (!r59) then (
some false)
else (
again51 (IntKind.i64.wrap (i50 + 1))))
else (
some true)

def scrutinyref13_May_K1 (k_scrutinyref13_May : (Ex × Int) → Option Bool) (e : Ex) (vars : Int) (want6 : Int) : Option Bool :=
letv (decide (e.op < 1)) fun b7 =>
letv (decide (24 < e.op)) fun b9 =>
letv (b7 || b9) fun b11 =>
letv ((List.length e.l : Int) != want6) fun b13 =>
letv (b11 || b13) fun b15 =>
bif b15 then (
some false)
else (
letv (e.op == 1) fun b18 =>
letv (decide (e.n < 0)) fun b20 =>
letv (decide (1073741824 < e.n)) fun b22 =>
letv (b20 || b22) fun b24 =>
letv (b18 && b24) fun b26 =>
letv (e.op == 2) fun b28 =>
letv (decide (e.n < 0)) fun b30 =>
letv (decide (vars ≤ e.n)) fun b32 =>
letv (b30 || b32) fun b34 =>
letv (b28 && b34) fun b36 =>
letv (b26 || b36) fun b38 =>
letv (decide (2 < e.op)) fun b40 =>
letv (e.n != 0) fun b42 =>
letv (b40 && b42) fun b44 =>
letv (b38 || b44) fun b46 =>
bif b46 then (
some false)
else (
fixN (scrutinyref13_May_L2 k_scrutinyref13_May e vars want6) FUEL 0))

def scrutinyref13_May_K4 (k_scrutinyref13_May : (Ex × Int) → Option Bool) (e : Ex) (vars : Int) (t67 : Bool) : Option Bool :=
bif t67 then (
scrutinyref13_May_K1 k_scrutinyref13_May e vars 1)
else (
scrutinyref13_May_K1 k_scrutinyref13_May e vars 2)

def scrutinyref13_May_K3 (k_scrutinyref13_May : (Ex × Int) → Option Bool) (e : Ex) (vars : Int) (t64 : Bool) : Option Bool :=
bif t64 then (
scrutinyref13_May_K1 k_scrutinyref13_May e vars 0)
else (
bif (e.op == 6) then (
scrutinyref13_May_K4 k_scrutinyref13_May e vars (e.op == 6))
else (
bif (e.op == 15) then (
scrutinyref13_May_K4 k_scrutinyref13_May e vars (e.op == 15))
else (
bif (e.op == 20) then (
scrutinyref13_May_K4 k_scrutinyref13_May e vars (e.op == 20))
else (
bif (e.op == 21) then (
scrutinyref13_May_K4 k_scrutinyref13_May e vars (e.op == 21))
else (
scrutinyref13_May_K4 k_scrutinyref13_May e vars (e.op == 22))))))

def scrutinyref13_May_F (k_scrutinyref13_May : (Ex × Int) → Option Bool) (e : Ex) (vars : Int) : Option Bool :=
bif (e.op == 1) then (
scrutinyref13_May_K3 k_scrutinyref13_May e vars (e.op == 1))
else (
bif (e.op == 2) then (
scrutinyref13_May_K3 k_scrutinyref13_May e vars (e.op == 2))
else (
bif (e.op == 13) then (
scrutinyref13_May_K3 k_scrutinyref13_May e vars (e.op == 13))
else (
scrutinyref13_May_K3 k_scrutinyref13_May e vars (e.op == 14))))

def scrutinyref13_May (e : Ex) (vars : Int) : Option Bool :=
  fixN (fun k (s : (Ex × Int)) => scrutinyref13_May_F k s.1 s.2) FUEL (e, vars)

def scrutinyref13_Type_K3 (times10 : Int) (i11 : Int) (again12 : (Int × Int × Int × Int) → Option (Int × Int × Int)) (r20 : (Int × Int × Int)) (ints25 : Int) (bools27 : Int) : Option (Int × Int × Int) :=
bif (r20.1 == 3) then (
again12 (ints25, bools27, (IntKind.i64.wrap (times10 + 1)), (IntKind.i64.wrap (i11 + 1))))
else (
again12 (ints25, bools27, times10, (IntKind.i64.wrap (i11 + 1))))

def scrutinyref13_Type_K2 (bools9 : Int) (times10 : Int) (i11 : Int) (again12 : (Int × Int × Int × Int) → Option (Int × Int × Int)) (r20 : (Int × Int × Int)) (ints25 : Int) : Option (Int × Int × Int) :=
bif (r20.1 == 2) then (
scrutinyref13_Type_K3 times10 i11 again12 r20 ints25 (IntKind.i64.wrap (bools9 + 1)))
else (
scrutinyref13_Type_K3 times10 i11 again12 r20 ints25 bools9)

def scrutinyref13_Type_L1 (k_scrutinyref13_Type : Ex → Option (Int × Int × Int)) (e : Ex) (again12 : (Int × Int × Int × Int) → Option (Int × Int × Int)) : Int × Int × Int × Int → Option (Int × Int × Int) := fun ⟨ints8, bools9, times10, i11⟩ =>
bif (decide (i11 < (List.length e.l : Int))) then (
(idx e.l i11).bind fun e14 =>
(k_scrutinyref13_Type e14).bind fun r20 =>
bif (r20.2.1 != 0) then (
some (0, r20.2.1, r20.2.2))
else (
bif (r20.1 == 1) then (
scrutinyref13_Type_K2 bools9 times10 i11 again12 r20 (IntKind.i64.wrap (ints8 + 1)))
else (
scrutinyref13_Type_K2 bools9 times10 i11 again12 r20 ints8)))
else (
letv (decide (e.op ≤ 6)) fun b31 =>
letv (ints8 == (List.length e.l : Int)) fun b33 =>
letv (b31 && b33) fun b35 =>
bif b35 then (
some (1, 0, 0))
else (
letv (decide (7 ≤ e.op)) fun b38 =>
letv (decide (e.op ≤ 12)) fun b40 =>
letv (b38 && b40) fun b42 =>
letv (ints8 == (List.length e.l : Int)) fun b44 =>
letv (b42 && b44) fun b46 =>
letv (e.op == 13) fun b48 =>
letv (b46 || b48) fun b50 =>
letv (e.op == 14) fun b52 =>
letv (b50 || b52) fun b54 =>
bif b54 then (
some (2, 0, 0))
else (
letv (decide (15 ≤ e.op)) fun b57 =>
letv (decide (e.op ≤ 19)) fun b59 =>
letv (b57 && b59) fun b61 =>
letv (bools9 == (List.length e.l : Int)) fun b63 =>
letv (b61 && b63) fun b65 =>
bif b65 then (
some (2, 0, 0))
else (
letv (decide (15 ≤ e.op)) fun b68 =>
letv ((IntKind.i64.wrap (bools9 + times10)) == (List.length e.l : Int)) fun b70 =>
letv (b68 && b70) fun b72 =>
bif b72 then (
some (3, 0, 0))
else (
some (0, 4, e.at_))))))

def scrutinyref13_Type_F (k_scrutinyref13_Type : Ex → Option (Int × Int × Int)) (e : Ex) : Option (Int × Int × Int) :=
fixN (scrutinyref13_Type_L1 k_scrutinyref13_Type e) FUEL (0, 0, 0, 0)

def scrutinyref13_Type (e : Ex) : Option (Int × Int × Int) :=
  fixN (fun k (s : Ex) => scrutinyref13_Type_F k s) FUEL e

def scrutinyref13_digits_F (k_scrutinyref13_digits : Int → Option Str) (n : Int) : Option Str :=
bif (decide (n < 10)) then (
chk (cutB n (IntKind.i64.wrap (n + 1)) (List.length [48, 49, 50, 51, 52, 53, 54, 55, 56, 57])) <|
some (cut [48, 49, 50, 51, 52, 53, 54, 55, 56, 57] n (IntKind.i64.wrap (n + 1))))
else (
(k_scrutinyref13_digits (IntKind.i64.wrap (Int.tdiv n 10))).bind fun r5 =>
(k_scrutinyref13_digits (Int.tmod n 10)).bind fun r8 =>
chk (catB r5 r8) <|
some (r5 ++ r8))

def scrutinyref13_digits (n : Int) : Option Str :=
  fixN (fun k (s : Int) => scrutinyref13_digits_F k s) FUEL n

def scrutinyref13_Show_F (k_scrutinyref13_Show : (Ex × (List Str)) → Option Str) (e : Ex) (names : (List Str)) : Option Str :=
bif (e.op == 1) then (
(scrutinyref13_digits e.n).bind fun r8 =>
some r8)
else (
bif (e.op == 2) then (
(idx names e.n).bind fun e12 =>
some e12)
else (
bif ((List.length e.l : Int) == 0) then (
(idx ([[], [], [], [43], [45], [42], [45], [61, 61], [33, 61], [60], [60, 61], [62], [62, 61], [116, 114, 117, 101], [102, 97, 108, 115, 101], [33], [38], [124], [45, 62], [60, 45, 62], [88], [70], [71], [85], [82]] : List Str) e.op).bind fun e15 =>
some e15)
else (
(idx e.l 0).bind fun e17 =>
(k_scrutinyref13_Show (e17, names)).bind fun r23 =>
bif ((List.length e.l : Int) == 1) then (
(idx ([[], [], [], [43], [45], [42], [45], [61, 61], [33, 61], [60], [60, 61], [62], [62, 61], [116, 114, 117, 101], [102, 97, 108, 115, 101], [33], [38], [124], [45, 62], [60, 45, 62], [88], [70], [71], [85], [82]] : List Str) e.op).bind fun e27 =>
chk (catB [40] e27) <|
chk (catB ([40] ++ e27) [32]) <|
chk (catB (([40] ++ e27) ++ [32]) r23) <|
chk (catB ((([40] ++ e27) ++ [32]) ++ r23) [41]) <|
some (((([40] ++ e27) ++ [32]) ++ r23) ++ [41]))
else (
chk (catB [40] r23) <|
chk (catB ([40] ++ r23) [32]) <|
(idx ([[], [], [], [43], [45], [42], [45], [61, 61], [33, 61], [60], [60, 61], [62], [62, 61], [116, 114, 117, 101], [102, 97, 108, 115, 101], [33], [38], [124], [45, 62], [60, 45, 62], [88], [70], [71], [85], [82]] : List Str) e.op).bind fun e37 =>
chk (catB (([40] ++ r23) ++ [32]) e37) <|
chk (catB ((([40] ++ r23) ++ [32]) ++ e37) [32]) <|
(idx e.l 1).bind fun e41 =>
(k_scrutinyref13_Show (e41, names)).bind fun r47 =>
chk (catB (((([40] ++ r23) ++ [32]) ++ e37) ++ [32]) r47) <|
chk (catB ((((([40] ++ r23) ++ [32]) ++ e37) ++ [32]) ++ r47) [41]) <|
some (((((([40] ++ r23) ++ [32]) ++ e37) ++ [32]) ++ r47) ++ [41])))))

def scrutinyref13_Show (e : Ex) (names : (List Str)) : Option Str :=
  fixN (fun k (s : (Ex × (List Str))) => scrutinyref13_Show_F k s.1 s.2) FUEL (e, names)

def scrutinyref13_truth (is_ : Bool) : Option Int :=
bif is_ then (
some 1)
else (
some 0)

def scrutinyref13_Eval_K2 (e : Ex) (v3 : (List Int)) (a6 : Int) (b8 : Int) : Option Int :=
bif (e.op == 1) then (
some e.n)
else (
bif (e.op == 2) then (
letv (decide (0 ≤ e.n)) fun b11 =>
letv (decide (e.n < (List.length v3 : Int))) fun b13 =>
letv (b11 && b13) fun b15 =>
bif b15 then (
(idx v3 e.n).bind fun e18 =>
some e18)
else (
some 0))
else (
bif (e.op == 3) then (
some (IntKind.i64.wrap (a6 + b8)))
else (
bif (e.op == 4) then (
some (IntKind.i64.wrap (a6 - b8)))
else (
bif (e.op == 5) then (
some (IntKind.i64.wrap (a6 * b8)))
else (
bif (e.op == 6) then (
some (IntKind.i64.wrap (0 - a6)))
else (
bif (e.op == 7) then (
(scrutinyref13_truth (a6 == b8)).bind fun r25 =>
some r25)
else (
bif (e.op == 8) then (
(scrutinyref13_truth (a6 != b8)).bind fun r29 =>
some r29)
else (
bif (e.op == 9) then (
(scrutinyref13_truth (decide (a6 < b8))).bind fun r33 =>
some r33)
else (
bif (e.op == 10) then (
(scrutinyref13_truth (decide (a6 ≤ b8))).bind fun r37 =>
some r37)
else (
bif (e.op == 11) then (
(scrutinyref13_truth (decide (b8 < a6))).bind fun r41 =>
some r41)
else (
bif (e.op == 12) then (
(scrutinyref13_truth (decide (b8 ≤ a6))).bind fun r45 =>
some r45)
else (
bif (e.op == 13) then (
some 1)
else (
bif (e.op == 15) then (
(scrutinyref13_truth (a6 == 0)).bind fun r50 =>
some r50)
else (
bif (e.op == 16) then (
letv (a6 == 1) fun b54 =>
letv (b8 == 1) fun b56 =>
letv (b54 && b56) fun b58 =>
(scrutinyref13_truth b58).bind fun r60 =>
some r60)
else (
bif (e.op == 17) then (
letv (a6 == 1) fun b64 =>
letv (b8 == 1) fun b66 =>
letv (b64 || b66) fun b68 =>
(scrutinyref13_truth b68).bind fun r70 =>
some r70)
else (
bif (e.op == 18) then (
letv (a6 == 0) fun b74 =>
letv (b8 == 1) fun b76 =>
letv (b74 || b76) fun b78 =>
(scrutinyref13_truth b78).bind fun r80 =>
some r80)
else (
bif (e.op == 19) then (
(scrutinyref13_truth (a6 == b8)).bind fun r84 =>
some r84)
else (
some 0))))))))))))))))))

def scrutinyref13_Eval_K1 (k_scrutinyref13_Eval : (Ex × (List Int)) → Option Int) (e : Ex) (v3 : (List Int)) (a6 : Int) : Option Int :=
bif (decide (1 < (List.length e.l : Int))) then (
(idx e.l 1).bind fun e88 =>
(k_scrutinyref13_Eval (e88, v3)).bind fun r94 =>
scrutinyref13_Eval_K2 e v3 a6 r94)
else (
scrutinyref13_Eval_K2 e v3 a6 0)

def scrutinyref13_Eval_F (k_scrutinyref13_Eval : (Ex × (List Int)) → Option Int) (e : Ex) (v3 : (List Int)) : Option Int :=
bif (decide (0 < (List.length e.l : Int))) then (
(idx e.l 0).bind fun e98 =>
(k_scrutinyref13_Eval (e98, v3)).bind fun r104 =>
scrutinyref13_Eval_K1 k_scrutinyref13_Eval e v3 r104)
else (
scrutinyref13_Eval_K1 k_scrutinyref13_Eval e v3 0)

def scrutinyref13_Eval (e : Ex) (v3 : (List Int)) : Option Int :=
  fixN (fun k (s : (Ex × (List Int))) => scrutinyref13_Eval_F k s.1 s.2) FUEL (e, v3)

def scrutinylaw13_ExprTells (with_ : (Ex × Ex × (List Int) × Str)) : Option Bool :=
(scrutinylaw13_shown).bind fun r11 =>
(scrutinyref13_Few with_.1).bind fun r14 =>
letv (!r14) fun b17 =>
callG (!b17) default (scrutinyref13_Few with_.2.1) fun r19 =>
letv (!r19) fun b25 =>
letv (b17 || b25) fun b27 =>
letv (decide (10 < (List.length with_.2.2.1 : Int))) fun b29 =>
letv (b27 || b29) fun b31 =>
letv (decide (100 < (List.length with_.2.2.2 : Int))) fun b33 =>
letv (b31 || b33) fun b35 =>
bif b35 then (
some r11)
else (
(expr_Key with_.2.2.2).bind fun r40 =>
(scrutinyref13_Key with_.2.2.2).bind fun r43 =>
letv (r40 != r43) fun b46 =>
callG (!b46) default (expr_Same with_.1 with_.2.1) fun r48 =>
callG (!b46) default (scrutinyref13_Same with_.1 with_.2.1) fun r54 =>
letv (r48 != r54) fun b60 =>
letv (b46 || b60) fun b62 =>
callG (!b62) default (expr_Size with_.1) fun r64 =>
callG (!b62) default (scrutinyref13_Size with_.1) fun r70 =>
letv (r64 != r70) fun b76 =>
letv (b62 || b76) fun b78 =>
bif b78 then (
some false)
else (
(scrutinyref13_May with_.1 3).bind fun r81 =>
bif (!r81) then (
some r11)
else (
(expr_Type with_.1).bind fun r85 =>
(scrutinyref13_Type with_.1).bind fun r88 =>
letv (r85.1 != r88.1) fun b93 =>
letv (r85.2.1 != r88.2.1) fun b95 =>
letv (b93 || b95) fun b97 =>
letv (r85.2.2 != r88.2.2) fun b99 =>
letv (b97 || b99) fun b101 =>
callG (!b101) default (scrutinylaw13_names) fun r103 =>
callG (!b101) default (expr_Show with_.1 r103) fun r112 =>
callG (!b101) default (scrutinylaw13_names) fun r118 =>
callG (!b101) default (scrutinyref13_Show with_.1 r118) fun r127 =>
letv (r112 != r127) fun b133 =>
letv (b101 || b133) fun b135 =>
bif b135 then (
some false)
else (
letv (r88.1 != 1) fun b140 =>
letv (r88.1 != 2) fun b142 =>
letv (b140 && b142) fun b144 =>
callG (r11 && !b144) default (expr_Eval with_.1 with_.2.2.1) fun r146 =>
callG (r11 && !b144) default (scrutinyref13_Eval with_.1 with_.2.2.1) fun r152 =>
letv (r146 == r152) fun b158 =>
letv (b144 || b158) fun b160 =>
letv (r11 && b160) fun b162 =>
some b162))))

def scrutinylaw13_ExprBack (e : Ex) : Option Bool :=
(scrutinylaw13_shown).bind fun r5 =>
(scrutinyref13_Few e).bind fun r8 =>
letv (!r8) fun b11 =>
callG (!b11) default (scrutinyref13_May e 3) fun r13 =>
letv (!r13) fun b19 =>
letv (b11 || b19) fun b21 =>
bif b21 then (
some r5)
else (
(scrutinylaw13_names).bind fun r26 =>
(expr_Show e r26).bind fun r31 =>
(scrutinyref12_Tokens r31).bind fun r34 =>
letv (r34.2.1 != 0) fun b39 =>
letv ((List.length r34.1 : Int) == 0) fun b41 =>
letv (b39 || b41) fun b43 =>
bif b43 then (
some false)
else (
(scrutinylaw13_names).bind fun r46 =>
(expr_Parse r34.1 0 r46).bind fun r51 =>
(expr_Type e).bind fun r59 =>
(expr_Type r51.1).bind fun r62 =>
letv (r51.2.2.1 == 0) fun b65 =>
letv (r5 && b65) fun b67 =>
letv (r51.2.1 == (IntKind.i64.wrap ((List.length r34.1 : Int) - 1))) fun b69 =>
letv (b67 && b69) fun b71 =>
callG b71 default (scrutinyref13_Same r51.1 e) fun r73 =>
letv (b71 && r73) fun b79 =>
letv (r59.1 == r62.1) fun b81 =>
letv (b79 && b81) fun b83 =>
letv (r59.2.1 == r62.2.1) fun b85 =>
letv (b83 && b85) fun b87 =>
some b87))

def scrutinylaw13_of (e : Ex) (y : Int) : Option Bool :=
(scrutinyref13_Type e).bind fun r5 =>
(scrutinyref13_May e 3).bind fun r8 =>
letv (r5.2.1 == 0) fun b11 =>
letv (r8 && b11) fun b13 =>
letv (r5.1 == y) fun b15 =>
letv (b13 && b15) fun b17 =>
some b17

def scrutinylaw13_ExprLaws_c1 (op : Int) (l : Ex) (r3 : Ex) (x : (List Int)) : Option Int :=
(expr_Eval (Ex.mk op 0 0 ([l, r3] : List Ex)) x).bind fun r9 =>
some r9

def scrutinylaw13_ExprLaws_c2 (e : Ex) (x : (List Int)) : Option Int :=
(expr_Eval (Ex.mk 15 0 0 ([e] : List Ex)) x).bind fun r7 =>
some r7

def scrutinylaw13_ExprLaws (with_ : (Ex × Ex × Ex × Ex × (List Int))) : Option Bool :=
(scrutinylaw13_shown).bind fun r20 =>
(scrutinyref13_Few with_.1).bind fun r23 =>
letv (!r23) fun b26 =>
callG (!b26) default (scrutinyref13_Few with_.2.1) fun r28 =>
letv (!r28) fun b34 =>
letv (b26 || b34) fun b36 =>
callG (!b36) default (scrutinyref13_Few with_.2.2.1) fun r38 =>
letv (!r38) fun b44 =>
letv (b36 || b44) fun b46 =>
callG (!b46) default (scrutinyref13_Few with_.2.2.2.1) fun r48 =>
letv (!r48) fun b54 =>
letv (b46 || b54) fun b56 =>
letv (decide (10 < (List.length with_.2.2.2.2 : Int))) fun b58 =>
letv (b56 || b58) fun b60 =>
bif b60 then (
some r20)
else (
(scrutinylaw13_of with_.1 1).bind fun r63 =>
letv (!r63) fun b66 =>
callG (!b66) default (scrutinylaw13_of with_.2.1 1) fun r68 =>
letv (!r68) fun b74 =>
letv (b66 || b74) fun b76 =>
callG (!b76) default (scrutinylaw13_of with_.2.2.1 2) fun r78 =>
letv (!r78) fun b84 =>
letv (b76 || b84) fun b86 =>
callG (!b86) default (scrutinylaw13_of with_.2.2.2.1 2) fun r88 =>
letv (!r88) fun b94 =>
letv (b86 || b94) fun b96 =>
bif b96 then (
some r20)
else (
(expr_Eval with_.1 with_.2.2.2.2).bind fun r99 =>
(expr_Eval with_.2.1 with_.2.2.2.2).bind fun r102 =>
(expr_Eval with_.2.2.1 with_.2.2.2.2).bind fun r105 =>
(expr_Eval with_.2.2.2.1 with_.2.2.2.2).bind fun r108 =>
letv (r105 != 0) fun b111 =>
letv (r105 != 1) fun b113 =>
letv (b111 && b113) fun b115 =>
letv (r108 != 0) fun b117 =>
letv (r108 != 1) fun b119 =>
letv (b117 && b119) fun b121 =>
letv (b115 || b121) fun b123 =>
bif b123 then (
some false)
else (
(scrutinylaw13_ExprLaws_c1 3 with_.1 with_.2.1 with_.2.2.2.2).bind fun r126 =>
letv (r126 == (IntKind.i64.wrap (r99 + r102))) fun b129 =>
callG b129 default (scrutinylaw13_ExprLaws_c1 4 with_.1 with_.2.1 with_.2.2.2.2) fun r131 =>
letv (r131 == (IntKind.i64.wrap (r99 - r102))) fun b137 =>
letv (b129 && b137) fun b139 =>
callG b139 default (scrutinylaw13_ExprLaws_c1 5 with_.1 with_.2.1 with_.2.2.2.2) fun r141 =>
letv (r141 == (IntKind.i64.wrap (r99 * r102))) fun b147 =>
letv (b139 && b147) fun b149 =>
callG b149 default (expr_Eval (Ex.mk 6 0 0 ([with_.1] : List Ex)) with_.2.2.2.2) fun r153 =>
letv (r153 == (IntKind.i64.wrap (0 - r99))) fun b159 =>
letv (b149 && b159) fun b161 =>
(scrutinylaw13_ExprLaws_c1 9 with_.1 with_.2.1 with_.2.2.2.2).bind fun r165 =>
(scrutinylaw13_ExprLaws_c1 12 with_.1 with_.2.1 with_.2.2.2.2).bind fun r168 =>
letv ((IntKind.i64.wrap (r165 + r168)) == 1) fun b171 =>
callG b171 default (scrutinylaw13_ExprLaws_c1 11 with_.1 with_.2.1 with_.2.2.2.2) fun r173 =>
callG b171 default (scrutinylaw13_ExprLaws_c1 10 with_.1 with_.2.1 with_.2.2.2.2) fun r179 =>
letv ((IntKind.i64.wrap (r173 + r179)) == 1) fun b185 =>
letv (b171 && b185) fun b187 =>
callG b187 default (scrutinylaw13_ExprLaws_c1 7 with_.1 with_.2.1 with_.2.2.2.2) fun r189 =>
callG b187 default (scrutinylaw13_ExprLaws_c1 8 with_.1 with_.2.1 with_.2.2.2.2) fun r195 =>
letv ((IntKind.i64.wrap (r189 + r195)) == 1) fun b201 =>
letv (b187 && b201) fun b203 =>
callG b203 default (scrutinylaw13_ExprLaws_c1 9 with_.1 with_.2.1 with_.2.2.2.2) fun r205 =>
callG b203 default (scrutinylaw13_ExprLaws_c1 11 with_.2.1 with_.1 with_.2.2.2.2) fun r211 =>
letv (r205 == r211) fun b217 =>
letv (b203 && b217) fun b219 =>
letv (r99 == r102) fun b221 =>
callG b219 default (scrutinylaw13_ExprLaws_c1 7 with_.1 with_.2.1 with_.2.2.2.2) fun r223 =>
letv (r223 == 1) fun b229 =>
letv (b229 == b221) fun b231 =>
letv (b219 && b231) fun b233 =>
letv (decide (r99 < r102)) fun b235 =>
callG b233 default (scrutinylaw13_ExprLaws_c1 9 with_.1 with_.2.1 with_.2.2.2.2) fun r237 =>
letv (r237 == 1) fun b243 =>
letv (b243 == b235) fun b245 =>
letv (b233 && b245) fun b247 =>
(scrutinylaw13_ExprLaws_c2 with_.2.2.1 with_.2.2.2.2).bind fun r249 =>
letv (r249 == (IntKind.i64.wrap (1 - r105))) fun b252 =>
callG b252 default (scrutinylaw13_ExprLaws_c1 16 with_.2.2.1 with_.2.2.2.1 with_.2.2.2.2) fun r254 =>
letv (r254 == (IntKind.i64.wrap (r105 * r108))) fun b260 =>
letv (b252 && b260) fun b262 =>
callG b262 default (scrutinylaw13_ExprLaws_c1 17 with_.2.2.1 with_.2.2.2.1 with_.2.2.2.2) fun r264 =>
letv (r264 == (IntKind.i64.wrap ((IntKind.i64.wrap (r105 + r108)) - (IntKind.i64.wrap (r105 * r108))))) fun b270 =>
letv (b262 && b270) fun b272 =>
callG b272 default (scrutinylaw13_ExprLaws_c1 18 with_.2.2.1 with_.2.2.2.1 with_.2.2.2.2) fun r274 =>
letv (r274 == (IntKind.i64.wrap ((IntKind.i64.wrap (1 - r105)) + (IntKind.i64.wrap (r105 * r108))))) fun b280 =>
letv (b272 && b280) fun b282 =>
callG b282 default (scrutinylaw13_ExprLaws_c1 19 with_.2.2.1 with_.2.2.2.1 with_.2.2.2.2) fun r284 =>
letv (r284 == 1) fun b290 =>
letv (r105 == r108) fun b292 =>
letv (b290 == b292) fun b294 =>
letv (b282 && b294) fun b296 =>
letv (r20 && b161) fun b298 =>
letv (b298 && b247) fun b300 =>
letv (b300 && b296) fun b302 =>
some b302)))

def scrutinylaw13_ExprBinds (i : Int) (j : Int) : Option Bool :=
(scrutinylaw13_shown).bind fun r3 =>
(idx ([[60, 45, 62], [45, 62], [124], [38], [85], [82]] : List Str) (Int.tmod (IntKind.i64.wrap i) 6)).bind fun e14 =>
chk (catB [116, 114, 117, 101, 32] e14) <|
chk (catB ([116, 114, 117, 101, 32] ++ e14) [32, 102, 97, 108, 115, 101, 32]) <|
(idx ([[60, 45, 62], [45, 62], [124], [38], [85], [82]] : List Str) (Int.tmod (IntKind.i64.wrap j) 6)).bind fun e18 =>
chk (catB (([116, 114, 117, 101, 32] ++ e14) ++ [32, 102, 97, 108, 115, 101, 32]) e18) <|
chk (catB ((([116, 114, 117, 101, 32] ++ e14) ++ [32, 102, 97, 108, 115, 101, 32]) ++ e18) [32, 116, 114, 117, 101]) <|
(scrutinyref12_Tokens (((([116, 114, 117, 101, 32] ++ e14) ++ [32, 102, 97, 108, 115, 101, 32]) ++ e18) ++ [32, 116, 114, 117, 101])).bind fun r22 =>
bif ((List.length r22.1 : Int) == 0) then (
some false)
else (
(expr_Parse r22.1 0 []).bind fun r28 =>
(expr_Show r28.1 []).bind fun r36 =>
(idx ([1, 2, 3, 4, 5, 5] : List Int) (Int.tmod (IntKind.i64.wrap i) 6)).bind fun e41 =>
(idx ([1, 2, 3, 4, 5, 5] : List Int) (Int.tmod (IntKind.i64.wrap j) 6)).bind fun e43 =>
letv (decide (e41 < e43)) fun b45 =>
callG (!b45) 0 (idx ([1, 2, 3, 4, 5, 5] : List Int) (Int.tmod (IntKind.i64.wrap i) 6)) fun e47 =>
callG (!b45) 0 (idx ([1, 2, 3, 4, 5, 5] : List Int) (Int.tmod (IntKind.i64.wrap j) 6)) fun e49 =>
letv (e47 == e49) fun b51 =>
callG ((!b45) && b51) false (idx ([true, true, false, false, true, true] : List Bool) (Int.tmod (IntKind.i64.wrap i) 6)) fun e53 =>
letv (b51 && e53) fun b55 =>
letv (b45 || b55) fun b57 =>
bif b57 then (
letv (r28.2.2.1 == 0) fun b62 =>
letv (r3 && b62) fun b64 =>
callG b64 [] (idx ([[60, 45, 62], [45, 62], [124], [38], [85], [82]] : List Str) (Int.tmod (IntKind.i64.wrap i) 6)) fun e66 =>
chkG b64 (catB [40, 116, 114, 117, 101, 32] e66) <|
chkG b64 (catB ([40, 116, 114, 117, 101, 32] ++ e66) [32, 40, 102, 97, 108, 115, 101, 32]) <|
callG b64 [] (idx ([[60, 45, 62], [45, 62], [124], [38], [85], [82]] : List Str) (Int.tmod (IntKind.i64.wrap j) 6)) fun e70 =>
chkG b64 (catB (([40, 116, 114, 117, 101, 32] ++ e66) ++ [32, 40, 102, 97, 108, 115, 101, 32]) e70) <|
chkG b64 (catB ((([40, 116, 114, 117, 101, 32] ++ e66) ++ [32, 40, 102, 97, 108, 115, 101, 32]) ++ e70) [32, 116, 114, 117, 101, 41, 41]) <|
letv (r36 == (((([40, 116, 114, 117, 101, 32] ++ e66) ++ [32, 40, 102, 97, 108, 115, 101, 32]) ++ e70) ++ [32, 116, 114, 117, 101, 41, 41])) fun b74 =>
letv (b64 && b74) fun b76 =>
some b76)
else (
letv (r28.2.2.1 == 0) fun b80 =>
letv (r3 && b80) fun b82 =>
callG b82 [] (idx ([[60, 45, 62], [45, 62], [124], [38], [85], [82]] : List Str) (Int.tmod (IntKind.i64.wrap i) 6)) fun e84 =>
chkG b82 (catB [40, 40, 116, 114, 117, 101, 32] e84) <|
chkG b82 (catB ([40, 40, 116, 114, 117, 101, 32] ++ e84) [32, 102, 97, 108, 115, 101, 41, 32]) <|
callG b82 [] (idx ([[60, 45, 62], [45, 62], [124], [38], [85], [82]] : List Str) (Int.tmod (IntKind.i64.wrap j) 6)) fun e88 =>
chkG b82 (catB (([40, 40, 116, 114, 117, 101, 32] ++ e84) ++ [32, 102, 97, 108, 115, 101, 41, 32]) e88) <|
chkG b82 (catB ((([40, 40, 116, 114, 117, 101, 32] ++ e84) ++ [32, 102, 97, 108, 115, 101, 41, 32]) ++ e88) [32, 116, 114, 117, 101, 41]) <|
letv (r36 == (((([40, 40, 116, 114, 117, 101, 32] ++ e84) ++ [32, 102, 97, 108, 115, 101, 41, 32]) ++ e88) ++ [32, 116, 114, 117, 101, 41])) fun b92 =>
letv (b82 && b92) fun b94 =>
some b94))

def scrutinylaw13_ExprBrackets_L1 (a : Str) (b : Str) (k : Int) (r3 : Bool) (again15 : Int → Option Bool) (i14 : Int) : Option Bool :=
bif (decide (i14 < (IntKind.i64.wrap ((List.length a : Int) + (List.length b : Int))))) then (
chk (catB a b) <|
chk (inB i14 (List.length (a ++ b))) <|
bif ((byteAt (a ++ b) i14) == 35) then (
some r3)
else (
again15 (IntKind.i64.wrap (i14 + 1))))
else (
(scrutinylaw13_parsed a).bind fun r20 =>
(scrutinylaw13_parsed b).bind fun r28 =>
(scrutinyref12_Tokens a).bind fun r36 =>
(scrutinyref12_Tokens b).bind fun r41 =>
letv (r36.2.1 != 0) fun b46 =>
letv (r41.2.1 != 0) fun b48 =>
letv (b46 || b48) fun b50 =>
letv (r20.2.2.1 != 0) fun b52 =>
letv (b50 || b52) fun b54 =>
letv (r28.2.2.1 != 0) fun b56 =>
letv (b54 || b56) fun b58 =>
letv (r20.2.1 != (IntKind.i64.wrap ((List.length r36.1 : Int) - 1))) fun b60 =>
letv (b58 || b60) fun b62 =>
letv (r28.2.1 != (IntKind.i64.wrap ((List.length r41.1 : Int) - 1))) fun b64 =>
letv (b62 || b64) fun b66 =>
callG (!b66) default (scrutinyref13_Deep r20.1 50) fun r68 =>
letv (decide (45 ≤ r68)) fun b74 =>
letv (b66 || b74) fun b76 =>
callG (!b76) default (scrutinyref13_Deep r28.1 50) fun r78 =>
letv (decide (45 ≤ r78)) fun b84 =>
letv (b76 || b84) fun b86 =>
letv (decide (60 < (List.length r36.1 : Int))) fun b88 =>
letv (b86 || b88) fun b90 =>
letv (decide (60 < (List.length r41.1 : Int))) fun b92 =>
letv (b90 || b92) fun b94 =>
bif b94 then (
some r3)
else (
chk (catB [40, 32] a) <|
chk (catB ([40, 32] ++ a) [32, 41]) <|
(scrutinylaw13_parsed (([40, 32] ++ a) ++ [32, 41])).bind fun r103 =>
chk (catB [40] a) <|
chk (catB ([40] ++ a) [41]) <|
(idx ([[60, 45, 62], [45, 62], [124], [38], [85], [82], [61, 61], [60], [43], [42]] : List Str) (Int.tmod (IntKind.i64.wrap k) 10)).bind fun e113 =>
chk (catB (([40] ++ a) ++ [41]) e113) <|
chk (catB ((([40] ++ a) ++ [41]) ++ e113) [40]) <|
chk (catB (((([40] ++ a) ++ [41]) ++ e113) ++ [40]) b) <|
chk (catB ((((([40] ++ a) ++ [41]) ++ e113) ++ [40]) ++ b) [41]) <|
(scrutinylaw13_parsed (((((([40] ++ a) ++ [41]) ++ e113) ++ [40]) ++ b) ++ [41])).bind fun r119 =>
letv (r103.2.2.1 == 9) fun b127 =>
letv (r119.2.2.1 == 9) fun b129 =>
letv (b127 || b129) fun b131 =>
bif b131 then (
some r3)
else (
letv (r103.2.2.1 == 0) fun b136 =>
letv (r3 && b136) fun b138 =>
callG b138 default (scrutinyref13_Same r103.1 r20.1) fun r140 =>
letv (b138 && r140) fun b146 =>
letv (r119.2.2.1 == 0) fun b148 =>
letv (b146 && b148) fun b150 =>
callG b150 0 (idx ([19, 18, 17, 16, 23, 24, 7, 9, 3, 5] : List Int) (Int.tmod (IntKind.i64.wrap k) 10)) fun e152 =>
callG b150 default (scrutinyref13_Same r119.1 (Ex.mk e152 0 0 ([r20.1, r28.1] : List Ex))) fun r156 =>
letv (b150 && r156) fun b162 =>
some b162)))

def scrutinylaw13_ExprBrackets (a : Str) (b : Str) (k : Int) : Option Bool :=
(scrutinylaw13_shown).bind fun r3 =>
letv (decide (200 < (List.length a : Int))) fun b6 =>
letv (decide (200 < (List.length b : Int))) fun b8 =>
letv (b6 || b8) fun b10 =>
bif b10 then (
some r3)
else (
fixN (scrutinylaw13_ExprBrackets_L1 a b k r3) FUEL 0)

def scrutinylaw13_ExprTypes_K2 (r5 : Bool) (r37 : (Int × Int × Int)) (r46 : (Int × Int × Int)) (wantA92 : Int) (wantB94 : Int) : Option Bool :=
letv (r37.2.1 == 0) fun b95 =>
letv (r5 && b95) fun b97 =>
letv (r46.2.1 == 0) fun b99 =>
letv (b97 && b99) fun b101 =>
letv (r37.1 == wantA92) fun b103 =>
letv (b101 && b103) fun b105 =>
letv (r46.1 == wantB94) fun b107 =>
letv (b105 && b107) fun b109 =>
some b109

def scrutinylaw13_ExprTypes_K1 (k : Int) (r5 : Bool) (r24 : (Int × Int × Int)) (r37 : (Int × Int × Int)) (r46 : (Int × Int × Int)) (wantA92 : Int) : Option Bool :=
bif (decide ((Int.tmod (IntKind.i64.wrap k) 6) < 4)) then (
scrutinylaw13_ExprTypes_K2 r5 r37 r46 wantA92 r24.1)
else (
scrutinylaw13_ExprTypes_K2 r5 r37 r46 wantA92 3)

def scrutinylaw13_ExprTypes (e : Ex) (k : Int) : Option Bool :=
(scrutinylaw13_shown).bind fun r5 =>
(scrutinyref13_Few e).bind fun r8 =>
letv (!r8) fun b11 =>
callG (!b11) default (scrutinyref13_May e 3) fun r13 =>
letv (!r13) fun b19 =>
letv (b11 || b19) fun b21 =>
bif b21 then (
some r5)
else (
(expr_Type e).bind fun r24 =>
(idx ([15, 20, 21, 22] : List Int) (Int.tmod (IntKind.i64.wrap k) 4)).bind fun e33 =>
(expr_Type (Ex.mk e33 0 7 ([e] : List Ex))).bind fun r37 =>
(idx ([16, 17, 18, 19, 23, 24] : List Int) (Int.tmod (IntKind.i64.wrap k) 6)).bind fun e42 =>
(expr_Type (Ex.mk e42 0 8 ([e, e] : List Ex))).bind fun r46 =>
bif (r24.2.1 != 0) then (
letv (r37.2.1 == r24.2.1) fun b50 =>
letv (r5 && b50) fun b52 =>
letv (r37.2.2 == r24.2.2) fun b54 =>
letv (b52 && b54) fun b56 =>
letv (r46.2.1 == r24.2.1) fun b58 =>
letv (b56 && b58) fun b60 =>
letv (r46.2.2 == r24.2.2) fun b62 =>
letv (b60 && b62) fun b64 =>
letv (r37.1 == 0) fun b66 =>
letv (b64 && b66) fun b68 =>
letv (r46.1 == 0) fun b70 =>
letv (b68 && b70) fun b72 =>
some b72)
else (
bif (r24.1 == 1) then (
letv (r37.2.1 == 4) fun b75 =>
letv (r5 && b75) fun b77 =>
letv (r37.2.2 == 7) fun b79 =>
letv (b77 && b79) fun b81 =>
letv (r46.2.1 == 4) fun b83 =>
letv (b81 && b83) fun b85 =>
letv (r46.2.2 == 8) fun b87 =>
letv (b85 && b87) fun b89 =>
some b89)
else (
bif ((Int.tmod (IntKind.i64.wrap k) 4) == 0) then (
scrutinylaw13_ExprTypes_K1 k r5 r24 r37 r46 r24.1)
else (
scrutinylaw13_ExprTypes_K1 k r5 r24 r37 r46 3))))

def scrutinylaw13_ExprNames_L1 (e : Ex) (r5 : Bool) (r29 : ((List (Int × Str × Int × Int)) × Int × Int)) (r41 : (Ex × Int × Int × Int)) (r53 : (Ex × Int × Int × Int)) (again64 : (Int × Int) → Option Bool) : Int × Int → Option Bool := fun ⟨first62, i63⟩ =>
bif (decide (i63 < (List.length r29.1 : Int))) then (
(idx r29.1 i63).bind fun e66 =>
letv (e66.1 == 1) fun b68 =>
callG b68 (0, [], 0, 0) (idx r29.1 i63) fun e70 =>
callG b68 default (scrutinyref13_Key e70.2.1) fun r72 =>
letv (!r72) fun b78 =>
letv (b68 && b78) fun b80 =>
letv (decide (first62 < 0)) fun b82 =>
letv (b80 && b82) fun b84 =>
bif b84 then (
(idx r29.1 i63).bind fun e87 =>
again64 (e87.2.2.2, (IntKind.i64.wrap (i63 + 1))))
else (
again64 (first62, (IntKind.i64.wrap (i63 + 1)))))
else (
letv (r41.2.2.1 == 0) fun b89 =>
letv (r5 && b89) fun b91 =>
callG b91 default (scrutinyref13_Same r41.1 e) fun r93 =>
letv (b91 && r93) fun b99 =>
letv (r53.2.2.1 == 3) fun b101 =>
letv (decide (0 ≤ first62)) fun b103 =>
letv (b101 == b103) fun b105 =>
letv (b99 && b105) fun b107 =>
letv (decide (first62 < 0)) fun b109 =>
letv (r53.2.2.2 == first62) fun b111 =>
letv (b109 || b111) fun b113 =>
letv (b107 && b113) fun b115 =>
some b115)

def scrutinylaw13_ExprNames (e : Ex) : Option Bool :=
(scrutinylaw13_shown).bind fun r5 =>
(scrutinyref13_Few e).bind fun r8 =>
letv (!r8) fun b11 =>
callG (!b11) default (scrutinyref13_May e 3) fun r13 =>
letv (!r13) fun b19 =>
letv (b11 || b19) fun b21 =>
bif b21 then (
some r5)
else (
(expr_Show e ([[108, 111, 110, 103, 95, 110, 97, 109, 101], [81], [95]] : List Str)).bind fun r26 =>
(scrutinyref12_Tokens r26).bind fun r29 =>
letv (r29.2.1 != 0) fun b34 =>
letv ((List.length r29.1 : Int) == 0) fun b36 =>
letv (b34 || b36) fun b38 =>
bif b38 then (
some false)
else (
(expr_Parse r29.1 0 ([[108, 111, 110, 103, 95, 110, 97, 109, 101], [81], [95]] : List Str)).bind fun r41 =>
chk (cutB 0 0 (List.length ([[108, 111, 110, 103, 95, 110, 97, 109, 101], [81], [95]] : List Str))) <|
(expr_Parse r29.1 0 (cutL ([[108, 111, 110, 103, 95, 110, 97, 109, 101], [81], [95]] : List Str) 0 0)).bind fun r53 =>
fixN (scrutinylaw13_ExprNames_L1 e r5 r29 r41 r53) FUEL ((-1), 0)))
end Go.Proofs.YtmeombbmhpcacaaDoor
