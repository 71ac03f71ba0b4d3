/- Printed by a program: the pure models. -/
import Derived.Test.YtiambejbilkgmaaLift6
namespace Go.Proofs.Ytiambejbilkgmaa

def eqT34 (x0 : Int) (x1 : Str) (x2 : Int) (x3 : Int) (y0 : Int) (y1 : Str) (y2 : Int) (y3 : Int) : Bool := x0 == y0 && x1 == y1 && x2 == y2 && x3 == y3

def lex_blank (c0 : Int) : Option Bool :=
letv (c0 == 32) fun b1 =>
letv (c0 == 9) fun b3 =>
letv (b1 || b3) fun b5 =>
letv (c0 == 10) fun b7 =>
letv (b5 || b7) fun b9 =>
letv (c0 == 13) fun b11 =>
letv (b9 || b11) fun b13 =>
some b13

def lex_Tokens_c1 (c0 : Int) : Option Bool :=
some (c0 != 10)

def lex_run__lex_Tokens_c1_L1 (text0 : Str) (again3 : Int → Option Str) (t1 : Int) : Option Str :=
bif (decide (t1 < (List.length text0 : Int))) then (
chk (inB t1 (List.length text0)) <|
(lex_Tokens_c1 (byteAt text0 t1)).bind fun r6 =>
bif (!r6) then (
chk (cutB 0 t1 (List.length text0)) <|
some (cut text0 0 t1))
else (
again3 (IntKind.i64.wrap (t1 + 1))))
else (
some text0)

def lex_run__lex_Tokens_c1 (text0 : Str) : Option Str :=
fixN (lex_run__lex_Tokens_c1_L1 text0) FUEL 0

def lex_letter (c0 : Int) : Option Bool :=
letv (decide (97 ≤ c0)) fun b1 =>
letv (decide (c0 ≤ 122)) fun b3 =>
letv (b1 && b3) fun b5 =>
letv (decide (65 ≤ c0)) fun b7 =>
letv (decide (c0 ≤ 90)) fun b9 =>
letv (b7 && b9) fun b11 =>
letv (b5 || b11) fun b13 =>
letv (c0 == 95) fun b15 =>
letv (b13 || b15) fun b17 =>
some b17

def lex_digit (c0 : Int) : Option Bool :=
letv (decide (48 ≤ c0)) fun b1 =>
letv (decide (c0 ≤ 57)) fun b3 =>
letv (b1 && b3) fun b5 =>
some b5

def lex_either (c0 : Int) : Option Bool :=
(lex_letter c0).bind fun r1 =>
callG (!r1) false (lex_digit c0) fun r5 =>
letv (r1 || r5) fun b12 =>
some b12

def lex_run__lex_either_L1 (text0 : Str) (again3 : Int → Option Str) (t1 : Int) : Option Str :=
bif (decide (t1 < (List.length text0 : Int))) then (
chk (inB t1 (List.length text0)) <|
(lex_either (byteAt text0 t1)).bind fun r6 =>
bif (!r6) then (
chk (cutB 0 t1 (List.length text0)) <|
some (cut text0 0 t1))
else (
again3 (IntKind.i64.wrap (t1 + 1))))
else (
some text0)

def lex_run__lex_either (text0 : Str) : Option Str :=
fixN (lex_run__lex_either_L1 text0) FUEL 0

def lex_run__lex_digit_L1 (text0 : Str) (again3 : Int → Option Str) (t1 : Int) : Option Str :=
bif (decide (t1 < (List.length text0 : Int))) then (
chk (inB t1 (List.length text0)) <|
(lex_digit (byteAt text0 t1)).bind fun r6 =>
bif (!r6) then (
chk (cutB 0 t1 (List.length text0)) <|
some (cut text0 0 t1))
else (
again3 (IntKind.i64.wrap (t1 + 1))))
else (
some text0)

def lex_run__lex_digit (text0 : Str) : Option Str :=
fixN (lex_run__lex_digit_L1 text0) FUEL 0

def lex_value_L1 (s0 : Str) (again12 : Int × Nat → Option (Int × Bool)) : Int × Nat → Option (Int × Bool) := fun ⟨n8, p9⟩ =>
bif decide (p9 < List.length s0) then (
bif (decide (1073741824 < (IntKind.i64.wrap ((IntKind.i64.wrap (10 * n8)) + (IntKind.i64.wrap (IntKind.i32.wrap ((runeAt s0 p9) - 48))))))) then (
some (0, false))
else (
again12 ((IntKind.i64.wrap ((IntKind.i64.wrap (10 * n8)) + (IntKind.i64.wrap (IntKind.i32.wrap ((runeAt s0 p9) - 48))))), (runePos s0 p9))))
else (
some (n8, true))

def lex_value (s0 : Str) : Option (Int × Bool) :=
fixN (lex_value_L1 s0) FUEL (0, 0)

def lex_Signs : Option (List Str) :=
some ([[60, 45, 62], [45, 62], [61, 61], [33, 61], [60, 61], [62, 61], [60], [62], [61], [43], [45], [42], [40], [41], [123], [125], [59], [44], [58], [38], [124], [33]] : List Str)

def internal_stringslite_HasPrefix (s0 : Str) (prefix1 : Str) : Option Bool :=
letv (decide ((List.length prefix1 : Int) ≤ (List.length s0 : Int))) fun b1 =>
chkG b1 (cutB 0 (List.length prefix1 : Int) (List.length s0)) <|
letv ((cut s0 0 (List.length prefix1 : Int)) == prefix1) fun b4 =>
letv (b1 && b4) fun b6 =>
some b6

def strings_HasPrefix (s0 : Str) (prefix1 : Str) : Option Bool :=
(internal_stringslite_HasPrefix s0 prefix1).bind fun r1 =>
some r1

def lex_sign_L1 (text0 : Str) (r1 : (List Str)) (again9 : Int → Option Str) (t7 : Int) : Option Str :=
bif (decide (t7 < (List.length r1 : Int))) then (
(idx r1 t7).bind fun e11 =>
(strings_HasPrefix text0 e11).bind fun r18 =>
bif r18 then (
some e11)
else (
again9 (IntKind.i64.wrap (t7 + 1))))
else (
some ([]))

def lex_sign (text0 : Str) : Option Str :=
(lex_Signs).bind fun r1 =>
fixN (lex_sign_L1 text0 r1) FUEL 0

def lex_token (text0 : Str) : Option ((Int × Str × Int × Int) × Int) :=
chk (inB 0 (List.length text0)) <|
(lex_letter (byteAt text0 0)).bind fun r9 =>
bif r9 then (
(lex_run__lex_either text0).bind fun r14 =>
bif (decide (32 < (List.length r14 : Int))) then (
some ((0, [], 0, 0), 9))
else (
some ((1, r14, 0, 0), 0)))
else (
(lex_digit (byteAt text0 0)).bind fun r29 =>
bif r29 then (
(lex_run__lex_digit text0).bind fun r34 =>
(lex_value r34).bind fun r38 =>
bif (!r38.2) then (
some ((0, [], 0, 0), 9))
else (
some ((2, r34, r38.1, 0), 0)))
else (
(lex_sign text0).bind fun r53 =>
bif (r53 == []) then (
some ((0, [], 0, 0), 2))
else (
some ((3, r53, 0, 0), 0))))

def lex_Tokens_G1 (text0 : Str) (again7 : (List (Int × Str × Int × Int)) × Int → Option ((List (Int × Str × Int × Int)) × Int × Int)) : (List (Int × Str × Int × Int)) × Int → Option ((List (Int × Str × Int × Int)) × Int × Int) := fun ⟨out2, at5⟩ =>
letv (decide (at5 < (List.length text0 : Int))) fun b8 =>
chkG b8 (inB at5 (List.length text0)) <|
callG b8 false (lex_blank (byteAt text0 at5)) fun r11 =>
letv (b8 && r11) fun b18 =>
bif b18 then (
again7 (out2, (IntKind.i64.wrap (at5 + 1))))
else (
letv (decide (at5 < (List.length text0 : Int))) fun b21 =>
chkG b21 (inB at5 (List.length text0)) <|
letv ((byteAt text0 at5) == 35) fun b24 =>
letv (b21 && b24) fun b26 =>
bif b26 then (
chk (cutB at5 ((List.length text0) : Int) (List.length text0)) <|
(lex_run__lex_Tokens_c1 (cut text0 at5 ((List.length text0) : Int))).bind fun r30 =>
again7 (out2, (IntKind.i64.wrap (at5 + (List.length r30 : Int)))))
else (
bif (decide (at5 < (List.length text0 : Int))) then (
chk (cutB at5 ((List.length text0) : Int) (List.length text0)) <|
(lex_token (cut text0 at5 ((List.length text0) : Int))).bind fun r36 =>
bif (r36.2 != 0) then (
some ([], r36.2, at5))
else (
chk (roomB (List.length out2 + List.length ([(r36.1.1, r36.1.2.1, r36.1.2.2.1, at5)] : List (Int × Str × Int × Int))) 40) <|
again7 ((out2 ++ ([(r36.1.1, r36.1.2.1, r36.1.2.2.1, at5)] : List (Int × Str × Int × Int))), (IntKind.i64.wrap (at5 + (List.length r36.1.2.1 : Int))))))
else (
chk (roomB (List.length out2 + List.length ([(4, [], 0, at5)] : List (Int × Str × Int × Int))) 40) <|
some ((out2 ++ ([(4, [], 0, at5)] : List (Int × Str × Int × Int))), 0, 0))))

def lex_Tokens (text0 : Str) : Option ((List (Int × Str × Int × Int)) × Int × Int) :=
bif (decide (65536 < (List.length text0 : Int))) then (
some ([], 9, 0))
else (
fixN (lex_Tokens_G1 text0) FUEL ([], 0))

def scrutinylaw12_shown : Option Bool :=
(lex_Tokens ([120, 49, 32, 60, 61, 32, 49, 48, 32, 35, 32, 101, 110, 100])).bind fun r1 =>
(lex_Tokens ([97, 98, 32, 36])).bind fun r7 =>
(lex_Tokens ([49, 48, 55, 51, 55, 52, 49, 56, 50, 53])).bind fun r13 =>
bif ((List.length r1.1 : Int) != 4) then (
some false)
else (
letv (r1.2.1 == 0) fun b20 =>
callG b20 (0, [], 0, 0) (idx r1.1 0) fun e22 =>
letv (eqT34 e22.1 e22.2.1 e22.2.2.1 e22.2.2.2 1 ([120, 49]) 0 0) fun b29 =>
letv (b20 && b29) fun b31 =>
callG b31 (0, [], 0, 0) (idx r1.1 1) fun e33 =>
letv (eqT34 e33.1 e33.2.1 e33.2.2.1 e33.2.2.2 3 ([60, 61]) 0 3) fun b40 =>
letv (b31 && b40) fun b42 =>
callG b42 (0, [], 0, 0) (idx r1.1 2) fun e44 =>
letv (eqT34 e44.1 e44.2.1 e44.2.2.1 e44.2.2.2 2 ([49, 48]) 10 6) fun b51 =>
letv (b42 && b51) fun b53 =>
callG b53 (0, [], 0, 0) (idx r1.1 3) fun e55 =>
letv (eqT34 e55.1 e55.2.1 e55.2.2.1 e55.2.2.2 4 ([]) 0 14) fun b62 =>
letv (b53 && b62) fun b64 =>
letv (r7.2.1 == 2) fun b66 =>
letv (b64 && b66) fun b68 =>
letv (r7.2.2 == 3) fun b70 =>
letv (b68 && b70) fun b72 =>
letv (r13.2.1 == 9) fun b74 =>
letv (b72 && b74) fun b76 =>
letv (r13.2.2 == 0) fun b78 =>
letv (b76 && b78) fun b80 =>
callG b80 ([]) (lex_Signs) fun r82 =>
letv ((List.length r82 : Int) == 22) fun b91 =>
letv (b80 && b91) fun b93 =>
callG b93 ([]) (lex_Signs) fun r95 =>
callG b93 ([]) (idx r95 0) fun e104 =>
letv (e104 == [60, 45, 62]) fun b111 =>
letv (b93 && b111) fun b113 =>
some b113)

def scrutinyref12_kind (c0 : Int) : Option Int :=
letv (c0 == 9) fun b1 =>
letv (c0 == 10) fun b3 =>
letv (b1 || b3) fun b5 =>
letv (c0 == 13) fun b7 =>
letv (b5 || b7) fun b9 =>
letv (c0 == 32) fun b11 =>
letv (b9 || b11) fun b13 =>
bif b13 then (
some 0)
else (
letv (decide (97 ≤ c0)) fun b16 =>
letv (decide (c0 ≤ 122)) fun b18 =>
letv (b16 && b18) fun b20 =>
letv (decide (65 ≤ c0)) fun b22 =>
letv (decide (c0 ≤ 90)) fun b24 =>
letv (b22 && b24) fun b26 =>
letv (b20 || b26) fun b28 =>
letv (c0 == 95) fun b30 =>
letv (b28 || b30) fun b32 =>
bif b32 then (
some 1)
else (
letv (decide (48 ≤ c0)) fun b35 =>
letv (decide (c0 ≤ 57)) fun b37 =>
letv (b35 && b37) fun b39 =>
bif b39 then (
some 2)
else (
some 3)))

def scrutinyref12_Signs : Option (List Str) :=
some ([[60, 45, 62], [45, 62], [61, 61], [33, 61], [60, 61], [62, 61], [60], [62], [61], [43], [45], [42], [40], [41], [123], [125], [59], [44], [58], [38], [124], [33]] : List Str)

def scrutinyref12_Tokens_L2 (text0 : Str) (out2 : (List (Int × Str × Int × Int))) (again7 : ((List (Int × Str × Int × Int)) × Int) → Option ((List (Int × Str × Int × Int)) × Int × Int)) (again19 : Int → Option ((List (Int × Str × Int × Int)) × Int × Int)) (i17 : Int) : Option ((List (Int × Str × Int × Int)) × Int × Int) :=
letv (decide (i17 < (List.length text0 : Int))) fun b20 =>
chkG b20 (inB i17 (List.length text0)) <|
letv ((byteAt text0 i17) != 10) fun b23 =>
letv (b20 && b23) fun b25 =>
bif b25 then (
again19 (IntKind.i64.wrap (i17 + 1)))
else (
again7 (out2, i17))

def scrutinyref12_Tokens_L3 (text0 : Str) (out2 : (List (Int × Str × Int × Int))) (i5 : Int) (again7 : ((List (Int × Str × Int × Int)) × Int) → Option ((List (Int × Str × Int × Int)) × Int × Int)) (again31 : Int → Option ((List (Int × Str × Int × Int)) × Int × Int)) (i29 : Int) : Option ((List (Int × Str × Int × Int)) × Int × Int) :=
letv (decide (i29 < (List.length text0 : Int))) fun b32 =>
chkG b32 (inB i29 (List.length text0)) <|
callG b32 0 (scrutinyref12_kind (byteAt text0 i29)) fun r35 =>
letv (r35 == 1) fun b42 =>
chkG (b32 && !b42) (inB i29 (List.length text0)) <|
callG (b32 && !b42) 0 (scrutinyref12_kind (byteAt text0 i29)) fun r45 =>
letv (r45 == 2) fun b52 =>
letv (b42 || b52) fun b54 =>
letv (b32 && b54) fun b56 =>
bif b56 then (
again31 (IntKind.i64.wrap (i29 + 1)))
else (
bif (decide (32 < (IntKind.i64.wrap (i29 - i5)))) then (
some ([], 9, i5))
else (
chk (cutB i5 i29 (List.length text0)) <|
chk (roomB (List.length out2 + List.length ([(1, (cut text0 i5 i29), 0, i5)] : List (Int × Str × Int × Int))) 40) <|
again7 ((out2 ++ ([(1, (cut text0 i5 i29), 0, i5)] : List (Int × Str × Int × Int))), i29)))

def scrutinyref12_Tokens_L4 (text0 : Str) (out2 : (List (Int × Str × Int × Int))) (i5 : Int) (again7 : ((List (Int × Str × Int × Int)) × Int) → Option ((List (Int × Str × Int × Int)) × Int × Int)) (again79 : Int × Int → Option ((List (Int × Str × Int × Int)) × Int × Int)) : Int × Int → Option ((List (Int × Str × Int × Int)) × Int × Int) := fun ⟨i76, n77⟩ =>
letv (decide (i76 < (List.length text0 : Int))) fun b80 =>
chkG b80 (inB i76 (List.length text0)) <|
callG b80 0 (scrutinyref12_kind (byteAt text0 i76)) fun r83 =>
letv (r83 == 2) fun b90 =>
letv (b80 && b90) fun b92 =>
bif b92 then (
bif (decide (n77 ≤ 1073741824)) then (
chk (inB i76 (List.length text0)) <|
again79 ((IntKind.i64.wrap (i76 + 1)), (IntKind.i64.wrap ((IntKind.i64.wrap ((IntKind.i64.wrap (10 * n77)) + (IntKind.i64.wrap (byteAt text0 i76)))) - 48))))
else (
again79 ((IntKind.i64.wrap (i76 + 1)), n77)))
else (
bif (decide (1073741824 < n77)) then (
some ([], 9, i5))
else (
chk (cutB i5 i76 (List.length text0)) <|
chk (roomB (List.length out2 + List.length ([(2, (cut text0 i5 i76), n77, i5)] : List (Int × Str × Int × Int))) 40) <|
again7 ((out2 ++ ([(2, (cut text0 i5 i76), n77, i5)] : List (Int × Str × Int × Int))), i76)))

def scrutinyref12_Tokens_L5 (text0 : Str) (out2 : (List (Int × Str × Int × Int))) (i5 : Int) (again7 : ((List (Int × Str × Int × Int)) × Int) → Option ((List (Int × Str × Int × Int)) × Int × Int)) (r113 : (List Str)) (again122 : Str × Int → Option ((List (Int × Str × Int × Int)) × Int × Int)) : Str × Int → Option ((List (Int × Str × Int × Int)) × Int × Int) := fun ⟨s119, j120⟩ =>
letv (decide (j120 < (List.length r113 : Int))) fun b123 =>
letv (s119 == []) fun b125 =>
letv (b123 && b125) fun b127 =>
bif b127 then (
(idx r113 j120).bind fun e130 =>
letv (decide ((List.length e130 : Int) ≤ (IntKind.i64.wrap ((List.length text0 : Int) - i5)))) fun b137 =>
callG b137 ([]) (idx r113 j120) fun e139 =>
chkG b137 (cutB i5 (IntKind.i64.wrap (i5 + (List.length e139 : Int))) (List.length text0)) <|
callG b137 ([]) (idx r113 j120) fun e147 =>
letv ((cut text0 i5 (IntKind.i64.wrap (i5 + (List.length e139 : Int)))) == e147) fun b154 =>
letv (b137 && b154) fun b156 =>
bif b156 then (
(idx r113 j120).bind fun e161 =>
again122 (e161, (IntKind.i64.wrap (j120 + 1))))
else (
again122 (s119, (IntKind.i64.wrap (j120 + 1)))))
else (
bif (s119 == []) then (
some ([], 2, i5))
else (
chk (roomB (List.length out2 + List.length ([(3, s119, 0, i5)] : List (Int × Str × Int × Int))) 40) <|
again7 ((out2 ++ ([(3, s119, 0, i5)] : List (Int × Str × Int × Int))), (IntKind.i64.wrap (i5 + (List.length s119 : Int))))))

def scrutinyref12_Tokens_L1 (text0 : Str) (again7 : (List (Int × Str × Int × Int)) × Int → Option ((List (Int × Str × Int × Int)) × Int × Int)) : (List (Int × Str × Int × Int)) × Int → Option ((List (Int × Str × Int × Int)) × Int × Int) := fun ⟨out2, i5⟩ =>
bif (decide (i5 < (List.length text0 : Int))) then (
chk (inB i5 (List.length text0)) <|
(scrutinyref12_kind (byteAt text0 i5)).bind fun r10 =>
bif (r10 == 0) then (
again7 (out2, (IntKind.i64.wrap (i5 + 1))))
else (
chk (inB i5 (List.length text0)) <|
bif ((byteAt text0 i5) == 35) then (
fixN (scrutinyref12_Tokens_L2 text0 out2 again7) FUEL i5)
else (
bif (r10 == 1) then (
fixN (scrutinyref12_Tokens_L3 text0 out2 i5 again7) FUEL i5)
else (
bif (r10 == 2) then (
fixN (scrutinyref12_Tokens_L4 text0 out2 i5 again7) FUEL (i5, 0))
else (
(scrutinyref12_Signs).bind fun r113 =>
fixN (scrutinyref12_Tokens_L5 text0 out2 i5 again7 r113) FUEL ([], 0))))))
else (
chk (roomB (List.length out2 + List.length ([(4, [], 0, (List.length text0 : Int))] : List (Int × Str × Int × Int))) 40) <|
some ((out2 ++ ([(4, [], 0, (List.length text0 : Int))] : List (Int × Str × Int × Int))), 0, 0))

def scrutinyref12_Tokens (text0 : Str) : Option ((List (Int × Str × Int × Int)) × Int × Int) :=
bif (decide (65536 < (List.length text0 : Int))) then (
some ([], 9, 0))
else (
fixN (scrutinyref12_Tokens_L1 text0) FUEL ([], 0))

def scrutinyref12_Same_L1 (a0 : (List (Int × Str × Int × Int))) (b1 : (List (Int × Str × Int × Int))) (again8 : Int → Option Bool) (i6 : Int) : Option Bool :=
bif (decide (i6 < (List.length a0 : Int))) then (
(idx a0 i6).bind fun e10 =>
(idx b1 i6).bind fun e17 =>
bif (!(eqT34 e10.1 e10.2.1 e10.2.2.1 e10.2.2.2 e17.1 e17.2.1 e17.2.2.1 e17.2.2.2)) then (
some false)
else (
again8 (IntKind.i64.wrap (i6 + 1))))
else (
some true)

def scrutinyref12_Same (a0 : (List (Int × Str × Int × Int))) (b1 : (List (Int × Str × Int × Int))) : Option Bool :=
bif ((List.length a0 : Int) != (List.length b1 : Int)) then (
some false)
else (
fixN (scrutinyref12_Same_L1 a0 b1) FUEL 0)

def scrutinylaw12_LexTells_L1 (r1 : Bool) (r6 : ((List (Int × Str × Int × Int)) × Int × Int)) (r12 : ((List (Int × Str × Int × Int)) × Int × Int)) (r18 : (List Str)) (r24 : (List Str)) (again33 : Int → Option Bool) (i31 : Int) : Option Bool :=
bif (decide (i31 < (List.length r18 : Int))) then (
(idx r18 i31).bind fun e35 =>
(idx r24 i31).bind fun e42 =>
bif (e35 != e42) then (
some false)
else (
again33 (IntKind.i64.wrap (i31 + 1))))
else (
callG r1 false (scrutinyref12_Same r6.1 r12.1) fun r52 =>
letv (r1 && r52) fun b59 =>
letv (r6.2.1 == r12.2.1) fun b61 =>
letv (b59 && b61) fun b63 =>
letv (r6.2.2 == r12.2.2) fun b65 =>
letv (b63 && b65) fun b67 =>
some b67)

def scrutinylaw12_LexTells (text0 : Str) : Option Bool :=
(scrutinylaw12_shown).bind fun r1 =>
bif (decide (3000 < (List.length text0 : Int))) then (
some r1)
else (
(lex_Tokens text0).bind fun r6 =>
(scrutinyref12_Tokens text0).bind fun r12 =>
(lex_Signs).bind fun r18 =>
(scrutinyref12_Signs).bind fun r24 =>
bif ((List.length r18 : Int) != (List.length r24 : Int)) then (
some false)
else (
fixN (scrutinylaw12_LexTells_L1 r1 r6 r12 r18 r24) FUEL 0))

def scrutinyref12_Alike_L1 (a0 : (List (Int × Str × Int × Int))) (b1 : (List (Int × Str × Int × Int))) (again8 : Int → Option Bool) (i6 : Int) : Option Bool :=
bif (decide (i6 < (List.length a0 : Int))) then (
(idx a0 i6).bind fun e10 =>
(idx b1 i6).bind fun e17 =>
letv (e10.1 != e17.1) fun b24 =>
callG (!b24) (0, [], 0, 0) (idx a0 i6) fun e26 =>
callG (!b24) (0, [], 0, 0) (idx b1 i6) fun e33 =>
letv (e26.2.1 != e33.2.1) fun b40 =>
letv (b24 || b40) fun b42 =>
callG (!b42) (0, [], 0, 0) (idx a0 i6) fun e44 =>
callG (!b42) (0, [], 0, 0) (idx b1 i6) fun e51 =>
letv (e44.2.2.1 != e51.2.2.1) fun b58 =>
letv (b42 || b58) fun b60 =>
bif b60 then (
some false)
else (
again8 (IntKind.i64.wrap (i6 + 1))))
else (
some true)

def scrutinyref12_Alike (a0 : (List (Int × Str × Int × Int))) (b1 : (List (Int × Str × Int × Int))) : Option Bool :=
bif ((List.length a0 : Int) != (List.length b1 : Int)) then (
some false)
else (
fixN (scrutinyref12_Alike_L1 a0 b1) FUEL 0)

def scrutinylaw12_LexBlanks_L1 (r1 : Bool) (r6 : ((List (Int × Str × Int × Int)) × Int × Int)) (e25 : Str) (again35 : Str × Int → Option Bool) : Str × Int → Option Bool := fun ⟨s32, i33⟩ =>
bif (decide (i33 < (IntKind.i64.wrap ((List.length r6.1 : Int) - 1)))) then (
(idx r6.1 i33).bind fun e37 =>
chk (catB s32 e37.2.1) <|
chk (catB (s32 ++ e37.2.1) e25) <|
again35 (((s32 ++ e37.2.1) ++ e25), (IntKind.i64.wrap (i33 + 1))))
else (
chk (catB e25 s32) <|
(lex_Tokens (e25 ++ s32)).bind fun r47 =>
letv (r47.2.1 == 0) fun b53 =>
letv (r1 && b53) fun b55 =>
callG b55 false (scrutinyref12_Alike r6.1 r47.1) fun r57 =>
letv (b55 && r57) fun b64 =>
some b64)

def scrutinylaw12_LexBlanks (text0 : Str) (gap1 : Int) : Option Bool :=
(scrutinylaw12_shown).bind fun r1 =>
bif (decide (2000 < (List.length text0 : Int))) then (
some r1)
else (
(lex_Tokens text0).bind fun r6 =>
bif (r6.2.1 != 0) then (
letv ((List.length r6.1 : Int) == 0) fun b13 =>
letv (r1 && b13) fun b15 =>
some b15)
else (
bif (decide ((List.length r6.1 : Int) < 1)) then (
some false)
else (
(idx ([[32], [9], [10], [13], [32, 35, 32, 97, 32, 60, 45, 62, 32, 98, 10], [35, 10]] : List Str) (Int.tmod gap1 6)).bind fun e25 =>
fixN (scrutinylaw12_LexBlanks_L1 r1 r6 e25) FUEL ([], 0))))

def scrutinylaw12_LexPlaces_K4 (text0 : Str) (k92 : Int) (again95 : (Bool × Int) → Option Bool) (comment100 : Bool) : Option Bool :=
letv (!comment100) fun b103 =>
chkG b103 (inB k92 (List.length text0)) <|
letv ((byteAt text0 k92) != 32) fun b106 =>
letv (b103 && b106) fun b108 =>
chkG b108 (inB k92 (List.length text0)) <|
letv ((byteAt text0 k92) != 9) fun b111 =>
letv (b108 && b111) fun b113 =>
chkG b113 (inB k92 (List.length text0)) <|
letv ((byteAt text0 k92) != 10) fun b116 =>
letv (b113 && b116) fun b118 =>
chkG b118 (inB k92 (List.length text0)) <|
letv ((byteAt text0 k92) != 13) fun b121 =>
letv (b118 && b121) fun b123 =>
bif b123 then (
some false)
else (
again95 (comment100, (IntKind.i64.wrap (k92 + 1))))

def scrutinylaw12_LexPlaces_K3 (text0 : Str) (k92 : Int) (again95 : (Bool × Int) → Option Bool) (comment97 : Bool) : Option Bool :=
chk (inB k92 (List.length text0)) <|
bif ((byteAt text0 k92) == 10) then (
scrutinylaw12_LexPlaces_K4 text0 k92 again95 false)
else (
scrutinylaw12_LexPlaces_K4 text0 k92 again95 comment97)

def scrutinylaw12_LexPlaces_L2 (text0 : Str) (i30 : Int) (again32 : (Int × Int) → Option Bool) (e34 : (Int × Str × Int × Int)) (again95 : Bool × Int → Option Bool) : Bool × Int → Option Bool := fun ⟨comment91, k92⟩ =>
bif (decide (k92 < e34.2.2.2)) then (
chk (inB k92 (List.length text0)) <|
bif ((byteAt text0 k92) == 35) then (
scrutinylaw12_LexPlaces_K3 text0 k92 again95 true)
else (
scrutinylaw12_LexPlaces_K3 text0 k92 again95 comment91))
else (
again32 ((IntKind.i64.wrap (e34.2.2.2 + (List.length e34.2.1 : Int))), (IntKind.i64.wrap (i30 + 1))))

def scrutinylaw12_LexPlaces_L1 (text0 : Str) (r1 : Bool) (r6 : ((List (Int × Str × Int × Int)) × Int × Int)) (again32 : Int × Int → Option Bool) : Int × Int → Option Bool := fun ⟨end29, i30⟩ =>
bif (decide (i30 < (List.length r6.1 : Int))) then (
(idx r6.1 i30).bind fun e34 =>
letv (decide (e34.2.2.2 < end29)) fun b53 =>
letv (decide ((IntKind.i64.wrap ((List.length text0 : Int) - (List.length e34.2.1 : Int))) < e34.2.2.2)) fun b55 =>
letv (b53 || b55) fun b57 =>
chkG (!b57) (cutB e34.2.2.2 (IntKind.i64.wrap (e34.2.2.2 + (List.length e34.2.1 : Int))) (List.length text0)) <|
letv ((cut text0 e34.2.2.2 (IntKind.i64.wrap (e34.2.2.2 + (List.length e34.2.1 : Int)))) != e34.2.1) fun b60 =>
letv (b57 || b60) fun b62 =>
letv ((List.length e34.2.1 : Int) == 0) fun b64 =>
letv (i30 == (IntKind.i64.wrap ((List.length r6.1 : Int) - 1))) fun b66 =>
letv (b64 != b66) fun b68 =>
letv (b62 || b68) fun b70 =>
letv (e34.1 == 4) fun b72 =>
letv (i30 == (IntKind.i64.wrap ((List.length r6.1 : Int) - 1))) fun b74 =>
letv (b72 != b74) fun b76 =>
letv (b70 || b76) fun b78 =>
letv (e34.1 != 2) fun b80 =>
letv (e34.2.2.1 != 0) fun b82 =>
letv (b80 && b82) fun b84 =>
letv (b78 || b84) fun b86 =>
bif b86 then (
some false)
else (
fixN (scrutinylaw12_LexPlaces_L2 text0 i30 again32 e34) FUEL (false, end29)))
else (
letv (end29 == (List.length text0 : Int)) fun b131 =>
letv (r1 && b131) fun b133 =>
letv (decide (1 ≤ (List.length r6.1 : Int))) fun b135 =>
letv (b133 && b135) fun b137 =>
some b137)

def scrutinylaw12_LexPlaces (text0 : Str) : Option Bool :=
(scrutinylaw12_shown).bind fun r1 =>
bif (decide (2000 < (List.length text0 : Int))) then (
some r1)
else (
(lex_Tokens text0).bind fun r6 =>
bif (r6.2.1 != 0) then (
letv (decide (0 ≤ r6.2.2)) fun b13 =>
letv (r1 && b13) fun b15 =>
letv (decide (r6.2.2 < (List.length text0 : Int))) fun b17 =>
letv (b15 && b17) fun b19 =>
letv (r6.2.1 == 2) fun b21 =>
letv (r6.2.1 == 9) fun b23 =>
letv (b21 || b23) fun b25 =>
letv (b19 && b25) fun b27 =>
some b27)
else (
fixN (scrutinylaw12_LexPlaces_L1 text0 r1 r6) FUEL (0, 0)))

def scrutinylaw12_LexNumbers_L3 (n0 : Int) (long2 : Int) (r1 : Bool) (s24 : Str) (r30 : ((List (Int × Str × Int × Int)) × Int × Int)) (again39 : Str × Int → Option Bool) : Str × Int → Option Bool := fun ⟨name36, i37⟩ =>
bif (decide (i37 ≤ (Int.tmod (IntKind.i64.wrap long2) 60))) then (
chk (catB name36 ([97])) <|
again39 ((name36 ++ [97]), (IntKind.i64.wrap (i37 + 1))))
else (
chk (catB ([32]) name36) <|
chk (catB ([32] ++ name36) ([40])) <|
(lex_Tokens (([32] ++ name36) ++ [40])).bind fun r44 =>
letv (r44.2.1 == 0) fun b50 =>
letv (decide ((List.length name36 : Int) ≤ 32)) fun b52 =>
letv (b50 != b52) fun b54 =>
letv (r44.2.1 != 0) fun b56 =>
letv (r44.2.1 != 9) fun b58 =>
letv (r44.2.2 != 1) fun b60 =>
letv (b58 || b60) fun b62 =>
letv (b56 && b62) fun b64 =>
letv (b54 || b64) fun b66 =>
letv (r44.2.1 == 0) fun b68 =>
letv ((List.length r44.1 : Int) != 3) fun b70 =>
callG (((!b66) && b68) && !b70) (0, [], 0, 0) (idx r44.1 0) fun e72 =>
letv (e72.2.1 != name36) fun b79 =>
letv (b70 || b79) fun b81 =>
letv (b68 && b81) fun b83 =>
letv (b66 || b83) fun b85 =>
bif b85 then (
some false)
else (
bif (decide (1073741824 < (IntKind.i64.wrap n0))) then (
letv (r30.2.1 == 9) fun b89 =>
letv (r1 && b89) fun b91 =>
letv (r30.2.2 == 0) fun b93 =>
letv (b91 && b93) fun b95 =>
some b95)
else (
letv (r30.2.1 == 0) fun b97 =>
letv (r1 && b97) fun b99 =>
letv ((List.length r30.1 : Int) == 2) fun b101 =>
letv (b99 && b101) fun b103 =>
callG b103 (0, [], 0, 0) (idx r30.1 0) fun e105 =>
letv (e105.2.2.1 == (IntKind.i64.wrap n0)) fun b112 =>
letv (b103 && b112) fun b114 =>
callG b114 (0, [], 0, 0) (idx r30.1 0) fun e116 =>
letv (e116.2.1 == s24) fun b123 =>
letv (b114 && b123) fun b125 =>
callG b125 (0, [], 0, 0) (idx r30.1 0) fun e127 =>
letv (e127.1 == 2) fun b134 =>
letv (b125 && b134) fun b136 =>
some b136)))

def scrutinylaw12_LexNumbers_L2 (n0 : Int) (noughts1 : Int) (long2 : Int) (r1 : Bool) (again27 : Str × Int → Option Bool) : Str × Int → Option Bool := fun ⟨s24, i25⟩ =>
bif (decide (i25 < (Int.tmod (IntKind.i64.wrap noughts1) 20))) then (
chk (catB ([48]) s24) <|
again27 (([48] ++ s24), (IntKind.i64.wrap (i25 + 1))))
else (
(lex_Tokens s24).bind fun r30 =>
fixN (scrutinylaw12_LexNumbers_L3 n0 long2 r1 s24 r30) FUEL ([], 0))

def scrutinylaw12_LexNumbers_L1 (n0 : Int) (noughts1 : Int) (long2 : Int) (r1 : Bool) (again8 : Str × Int → Option Bool) : Str × Int → Option Bool := fun ⟨s5, v6⟩ =>
letv (decide (0 < v6)) fun b9 =>
letv (s5 == []) fun b11 =>
letv (b9 || b11) fun b13 =>
bif b13 then (
chk (catB (strOf ([(IntKind.u8.wrap (IntKind.i64.wrap (48 + (Int.tmod v6 10))))] : List Int)) s5) <|
again8 (((strOf ([(IntKind.u8.wrap (IntKind.i64.wrap (48 + (Int.tmod v6 10))))] : List Int)) ++ s5), (IntKind.i64.wrap (Int.tdiv v6 10))))
else (
fixN (scrutinylaw12_LexNumbers_L2 n0 noughts1 long2 r1) FUEL (s5, 0))

def scrutinylaw12_LexNumbers (n0 : Int) (noughts1 : Int) (long2 : Int) : Option Bool :=
(scrutinylaw12_shown).bind fun r1 =>
fixN (scrutinylaw12_LexNumbers_L1 n0 noughts1 long2 r1) FUEL ([], (IntKind.i64.wrap n0))

def scrutinylaw12_LexJoins_K2 (r26 : ((List (Int × Str × Int × Int)) × Int × Int)) (i69 : Int) (again71 : Int → Option Bool) (c85 : Int) (c86 : Str) (c87 : Int) (c88 : Int) : Option Bool :=
(idx r26.1 i69).bind fun e91 =>
bif (!(eqT34 e91.1 e91.2.1 e91.2.2.1 e91.2.2.2 c85 c86 c87 c88)) then (
some false)
else (
again71 (IntKind.i64.wrap (i69 + 1)))

def scrutinylaw12_LexJoins_L1 (a0 : Str) (r1 : Bool) (r12 : ((List (Int × Str × Int × Int)) × Int × Int)) (r18 : ((List (Int × Str × Int × Int)) × Int × Int)) (r26 : ((List (Int × Str × Int × Int)) × Int × Int)) (again71 : Int → Option Bool) (i69 : Int) : Option Bool :=
bif (decide (i69 < (List.length r26.1 : Int))) then (
bif (decide (i69 < (IntKind.i64.wrap ((List.length r12.1 : Int) - 1)))) then (
(idx r12.1 i69).bind fun e103 =>
scrutinylaw12_LexJoins_K2 r26 i69 again71 e103.1 e103.2.1 e103.2.2.1 e103.2.2.2)
else (
(idx r18.1 (IntKind.i64.wrap ((IntKind.i64.wrap (i69 - (List.length r12.1 : Int))) + 1))).bind fun e115 =>
scrutinylaw12_LexJoins_K2 r26 i69 again71 e115.1 e115.2.1 e115.2.2.1 (IntKind.i64.wrap ((IntKind.i64.wrap (e115.2.2.2 + (List.length a0 : Int))) + 1))))
else (
some r1)

def scrutinylaw12_LexJoins (a0 : Str) (b1 : Str) : Option Bool :=
(scrutinylaw12_shown).bind fun r1 =>
letv (decide (1000 < (List.length a0 : Int))) fun b5 =>
letv (decide (1000 < (List.length b1 : Int))) fun b7 =>
letv (b5 || b7) fun b9 =>
bif b9 then (
some r1)
else (
(lex_Tokens a0).bind fun r12 =>
(lex_Tokens b1).bind fun r18 =>
chk (catB a0 ([10])) <|
chk (catB (a0 ++ [10]) b1) <|
(lex_Tokens ((a0 ++ [10]) ++ b1)).bind fun r26 =>
bif (r12.2.1 != 0) then (
letv (r26.2.1 == r12.2.1) fun b33 =>
letv (r1 && b33) fun b35 =>
letv (r26.2.2 == r12.2.2) fun b37 =>
letv (b35 && b37) fun b39 =>
letv ((List.length r26.1 : Int) == 0) fun b41 =>
letv (b39 && b41) fun b43 =>
some b43)
else (
bif (r18.2.1 != 0) then (
letv (r26.2.1 == r18.2.1) fun b46 =>
letv (r1 && b46) fun b48 =>
letv (r26.2.2 == (IntKind.i64.wrap ((IntKind.i64.wrap ((List.length a0 : Int) + 1)) + r18.2.2))) fun b50 =>
letv (b48 && b50) fun b52 =>
letv ((List.length r26.1 : Int) == 0) fun b54 =>
letv (b52 && b54) fun b56 =>
some b56)
else (
letv (r26.2.1 != 0) fun b58 =>
letv (decide ((List.length r12.1 : Int) < 1)) fun b60 =>
letv (b58 || b60) fun b62 =>
letv ((List.length r26.1 : Int) != (IntKind.i64.wrap ((IntKind.i64.wrap ((List.length r12.1 : Int) - 1)) + (List.length r18.1 : Int)))) fun b64 =>
letv (b62 || b64) fun b66 =>
bif b66 then (
some false)
else (
fixN (scrutinylaw12_LexJoins_L1 a0 r1 r12 r18 r26) FUEL 0))))

def scrutinylaw12_LexSigns_L2 (r5 : (List Str)) (e12 : Str) (e19 : Str) (r33 : ((List (Int × Str × Int × Int)) × Int × Int)) (text68 : Str) (k69 : Int) (again71 : (Str × Int) → Option Bool) (e73 : (Int × Str × Int × Int)) (again83 : Int → Option Bool) (n81 : Int) : Option Bool :=
letv (decide (n81 < 22)) fun b84 =>
callG b84 (0, [], 0, 0) (idx r33.1 k69) fun e86 =>
letv (e86.1 == 3) fun b93 =>
letv (b84 && b93) fun b95 =>
bif b95 then (
chk (catB e12 e19) <|
(idx r33.1 k69).bind fun e99 =>
chk (cutB e99.2.2.2 ((List.length (e12 ++ e19)) : Int) (List.length (e12 ++ e19))) <|
(idx r5 n81).bind fun e107 =>
(idx r33.1 k69).bind fun e114 =>
letv (decide ((List.length e114.2.1 : Int) < (List.length e107 : Int))) fun b121 =>
callG b121 ([]) (idx r5 n81) fun e123 =>
letv (decide ((List.length e123 : Int) ≤ (List.length (cut (e12 ++ e19) e99.2.2.2 ((List.length (e12 ++ e19)) : Int)) : Int))) fun b130 =>
letv (b121 && b130) fun b132 =>
callG b132 ([]) (idx r5 n81) fun e134 =>
chkG b132 (cutB 0 (List.length e134 : Int) (List.length (cut (e12 ++ e19) e99.2.2.2 ((List.length (e12 ++ e19)) : Int)))) <|
callG b132 ([]) (idx r5 n81) fun e142 =>
letv ((cut (cut (e12 ++ e19) e99.2.2.2 ((List.length (e12 ++ e19)) : Int)) 0 (List.length e134 : Int)) == e142) fun b149 =>
letv (b132 && b149) fun b151 =>
bif b151 then (
some false)
else (
again83 (IntKind.i64.wrap (n81 + 1))))
else (
again71 ((text68 ++ e73.2.1), (IntKind.i64.wrap (k69 + 1))))

def scrutinylaw12_LexSigns_L1 (r1 : Bool) (r5 : (List Str)) (e12 : Str) (e19 : Str) (r33 : ((List (Int × Str × Int × Int)) × Int × Int)) (again71 : Str × Int → Option Bool) : Str × Int → Option Bool := fun ⟨text68, k69⟩ =>
bif (decide (k69 < (List.length r33.1 : Int))) then (
(idx r33.1 k69).bind fun e73 =>
chk (catB text68 e73.2.1) <|
fixN (scrutinylaw12_LexSigns_L2 r5 e12 e19 r33 text68 k69 again71 e73) FUEL 0)
else (
letv (r33.2.1 != 0) fun b156 =>
chkG (r1 && !b156) (catB e12 e19) <|
letv (text68 == (e12 ++ e19)) fun b159 =>
letv (decide (2 ≤ (List.length r33.1 : Int))) fun b161 =>
letv (b159 && b161) fun b163 =>
letv (b156 || b163) fun b165 =>
letv (r1 && b165) fun b167 =>
some b167)

def scrutinylaw12_LexSigns (i0 : Int) (j1 : Int) : Option Bool :=
(scrutinylaw12_shown).bind fun r1 =>
(lex_Signs).bind fun r5 =>
bif ((List.length r5 : Int) != 22) then (
some false)
else (
(idx r5 (Int.tmod (IntKind.i64.wrap i0) 22)).bind fun e12 =>
(idx r5 (Int.tmod (IntKind.i64.wrap j1) 22)).bind fun e19 =>
(lex_Tokens e12).bind fun r26 =>
chk (catB e12 e19) <|
(lex_Tokens (e12 ++ e19)).bind fun r33 =>
letv (r26.2.1 != 0) fun b39 =>
letv ((List.length r26.1 : Int) != 2) fun b41 =>
letv (b39 || b41) fun b43 =>
callG (!b43) (0, [], 0, 0) (idx r26.1 0) fun e45 =>
letv (e45.2.1 != e12) fun b52 =>
letv (b43 || b52) fun b54 =>
callG (!b54) (0, [], 0, 0) (idx r26.1 0) fun e56 =>
letv (e56.1 != 3) fun b63 =>
letv (b54 || b63) fun b65 =>
bif b65 then (
some false)
else (
fixN (scrutinylaw12_LexSigns_L1 r1 r5 e12 e19 r33) FUEL ([], 0)))

def scrutinylaw12_LexComments_K3 (comment1 : Str) (r27 : ((List (Int × Str × Int × Int)) × Int × Int)) (r35 : ((List (Int × Str × Int × Int)) × Int × Int)) (i81 : Int) (again83 : Int → Option Bool) (e85 : (Int × Str × Int × Int)) (c129 : Int) (c130 : Str) (c131 : Int) (c132 : Int) : Option Bool :=
(idx r27.1 i81).bind fun e135 =>
letv (!(eqT34 e135.1 e135.2.1 e135.2.2.1 e135.2.2.2 e85.1 e85.2.1 e85.2.2.1 (IntKind.i64.wrap (e85.2.2.2 + (IntKind.i64.wrap ((List.length comment1 : Int) + 2)))))) fun b142 =>
callG (!b142) (0, [], 0, 0) (idx r35.1 i81) fun e144 =>
letv (!(eqT34 e144.1 e144.2.1 e144.2.2.1 e144.2.2.2 c129 c130 c131 c132)) fun b151 =>
letv (b142 || b151) fun b153 =>
bif b153 then (
some false)
else (
again83 (IntKind.i64.wrap (i81 + 1)))

def scrutinylaw12_LexComments_L2 (comment1 : Str) (r1 : Bool) (r18 : ((List (Int × Str × Int × Int)) × Int × Int)) (r27 : ((List (Int × Str × Int × Int)) × Int × Int)) (r35 : ((List (Int × Str × Int × Int)) × Int × Int)) (again83 : Int → Option Bool) (i81 : Int) : Option Bool :=
bif (decide (i81 < (List.length r18.1 : Int))) then (
(idx r18.1 i81).bind fun e85 =>
(idx r18.1 i81).bind fun e109 =>
bif (i81 == (IntKind.i64.wrap ((List.length r18.1 : Int) - 1))) then (
scrutinylaw12_LexComments_K3 comment1 r27 r35 i81 again83 e85 e109.1 e109.2.1 e109.2.2.1 (IntKind.i64.wrap (e109.2.2.2 + (IntKind.i64.wrap ((List.length comment1 : Int) + 2)))))
else (
scrutinylaw12_LexComments_K3 comment1 r27 r35 i81 again83 e85 e109.1 e109.2.1 e109.2.2.1 e109.2.2.2))
else (
some r1)

def scrutinylaw12_LexComments_L1 (text0 : Str) (comment1 : Str) (r1 : Bool) (again14 : Int → Option Bool) (i12 : Int) : Option Bool :=
bif (decide (i12 < (List.length comment1 : Int))) then (
chk (inB i12 (List.length comment1)) <|
bif ((byteAt comment1 i12) == 10) then (
some r1)
else (
again14 (IntKind.i64.wrap (i12 + 1))))
else (
(lex_Tokens text0).bind fun r18 =>
chk (catB ([35]) comment1) <|
chk (catB ([35] ++ comment1) ([10])) <|
chk (catB (([35] ++ comment1) ++ [10]) text0) <|
(lex_Tokens ((([35] ++ comment1) ++ [10]) ++ text0)).bind fun r27 =>
chk (catB text0 ([10, 35])) <|
chk (catB (text0 ++ [10, 35]) comment1) <|
(lex_Tokens ((text0 ++ [10, 35]) ++ comment1)).bind fun r35 =>
bif (r18.2.1 != 0) then (
letv (r27.2.1 == r18.2.1) fun b42 =>
letv (r1 && b42) fun b44 =>
letv (r35.2.1 == r18.2.1) fun b46 =>
letv (b44 && b46) fun b48 =>
letv (r27.2.2 == (IntKind.i64.wrap (r18.2.2 + (IntKind.i64.wrap ((List.length comment1 : Int) + 2))))) fun b50 =>
letv (b48 && b50) fun b52 =>
letv (r35.2.2 == r18.2.2) fun b54 =>
letv (b52 && b54) fun b56 =>
letv ((List.length r27.1 : Int) == 0) fun b58 =>
letv (b56 && b58) fun b60 =>
letv ((List.length r35.1 : Int) == 0) fun b62 =>
letv (b60 && b62) fun b64 =>
some b64)
else (
letv (r27.2.1 != 0) fun b66 =>
letv (r35.2.1 != 0) fun b68 =>
letv (b66 || b68) fun b70 =>
letv ((List.length r18.1 : Int) != (List.length r27.1 : Int)) fun b72 =>
letv (b70 || b72) fun b74 =>
letv ((List.length r18.1 : Int) != (List.length r35.1 : Int)) fun b76 =>
letv (b74 || b76) fun b78 =>
bif b78 then (
some false)
else (
fixN (scrutinylaw12_LexComments_L2 comment1 r1 r18 r27 r35) FUEL 0)))

def scrutinylaw12_LexComments (text0 : Str) (comment1 : Str) : Option Bool :=
(scrutinylaw12_shown).bind fun r1 =>
letv (decide (500 < (List.length text0 : Int))) fun b5 =>
letv (decide (500 < (List.length comment1 : Int))) fun b7 =>
letv (b5 || b7) fun b9 =>
bif b9 then (
some r1)
else (
fixN (scrutinylaw12_LexComments_L1 text0 comment1 r1) FUEL 0)
end Go.Proofs.Ytiambejbilkgmaa
