/- Printed by a program: the pure models. -/
import Derived.Test.YtjappdgehmjomaaK12
namespace Go.Proofs.Ytjappdgehmjomaa

def eqT69 (x0 : Int) (x1 : Int) (y0 : Int) (y1 : Int) : Bool := x0 == y0 && x1 == y1

def dfa_New (wide : Int) : Option ((Int × (List ((List (Int × Int)) × Int)) × Int × Int × (List Int)) × Int) :=
letv (decide (wide < 1)) fun b10 =>
letv (decide (64 < wide)) fun b12 =>
letv (b10 || b12) fun b14 =>
bif b14 then (
some ((0, [], 0, 0, []), 1))
else (
some ((wide, [], (-1), 0, []), 0))

def cmp_isNaN_byte (x : Int) : Option Bool :=
some (x != x)

def cmp_Compare_byte (x : Int) (y : Int) : Option Int :=
(cmp_isNaN_byte x).bind fun r3 =>
(cmp_isNaN_byte y).bind fun r6 =>
bif r3 then (
bif r6 then (
some 0)
else (
some (-1)))
else (
bif r6 then (
some 1)
else (
bif (decide (x < y)) then (
some (-1))
else (
bif (decide (y < x)) then (
some 1)
else (
some 0))))

def dfa_to_c1 (e : (Int × Int)) (by_ : Int) : Option Int :=
(cmp_Compare_byte e.1 by_).bind fun r5 =>
some r5

def slices_BinarySearchFunc_api_Edge_api_Edge_byte_L1 (x : (List (Int × Int))) (target : Int) (again7 : (Int × Int) → Option (Int × Bool)) : Int × Int → Option (Int × Bool) := fun ⟨i5, j6⟩ =>
bif (decide (i5 < j6)) then (
(idx x (IntKind.i64.wrap (shrI .u64 (IntKind.u64.wrap (IntKind.i64.wrap (i5 + j6))) 1))).bind fun e9 =>
(dfa_to_c1 e9 target).bind fun r11 =>
bif (decide (r11 < 0)) then (
again7 ((IntKind.i64.wrap ((IntKind.i64.wrap (shrI .u64 (IntKind.u64.wrap (IntKind.i64.wrap (i5 + j6))) 1)) + 1)), j6))
else (
again7 (i5, (IntKind.i64.wrap (shrI .u64 (IntKind.u64.wrap (IntKind.i64.wrap (i5 + j6))) 1)))))
else (
letv (decide (i5 < (List.length x : Int))) fun b15 =>
callG b15 (0, 0) (idx x i5) fun e17 =>
callG b15 default (dfa_to_c1 e17 target) fun r19 =>
letv (r19 == 0) fun b25 =>
letv (b15 && b25) fun b27 =>
some (i5, b27))

def slices_BinarySearchFunc_api_Edge_api_Edge_byte (x : (List (Int × Int))) (target : Int) : Option (Int × Bool) :=
fixN (slices_BinarySearchFunc_api_Edge_api_Edge_byte_L1 x target) FUEL (0, (List.length x : Int))

def dfa_to (d : (Int × (List ((List (Int × Int)) × Int)) × Int × Int × (List Int))) (at_ : Int) (by_ : Int) : Option Int :=
bif (at_ == (-1)) then (
some (-1))
else (
(idx d.2.1 at_).bind fun e6 =>
(slices_BinarySearchFunc_api_Edge_api_Edge_byte e6.1 by_).bind fun r12 =>
bif (!r12.2) then (
some (-1))
else (
(idx d.2.1 at_).bind fun e16 =>
(idx e16.1 r12.1).bind fun e22 =>
some e22.2))

def dfa_Has_L1 (d : (Int × (List ((List (Int × Int)) × Int)) × Int × Int × (List Int))) (w5 : (List Int)) (again9 : (Int × Int) → Option Bool) : Int × Int → Option Bool := fun ⟨at7, t8⟩ =>
bif (decide (t8 < (List.length w5 : Int))) then (
(idx w5 t8).bind fun e11 =>
(dfa_to d at7 e11).bind fun r13 =>
again9 (r13, (IntKind.i64.wrap (t8 + 1))))
else (
letv ((List.length w5 : Int) == d.1) fun b16 =>
letv (decide (0 < d.1)) fun b18 =>
letv (b16 && b18) fun b20 =>
letv (at7 != (-1)) fun b22 =>
letv (b20 && b22) fun b24 =>
some b24)

def dfa_Has (d : (Int × (List ((List (Int × Int)) × Int)) × Int × Int × (List Int))) (w5 : (List Int)) : Option Bool :=
fixN (dfa_Has_L1 d w5) FUEL (d.2.2.1, 0)

def slices_Clone_api_Node_api_Node (s : (List ((List (Int × Int)) × Int))) : Option (List ((List (Int × Int)) × Int)) :=
chk (roomB (List.length ([] : List ((List (Int × Int)) × Int)) + List.length s) 32) <|
some (([] : List ((List (Int × Int)) × Int)) ++ s)

def slices_Clone_int_int (s : (List Int)) : Option (List Int) :=
chk (roomB (List.length ([] : List Int) + List.length s) 8) <|
some (([] : List Int) ++ s)

def slices_Equal_api_Edge_api_Edge_L1 (s1 : (List (Int × Int))) (s2 : (List (Int × Int))) (again6 : Int → Option Bool) (t5 : Int) : Option Bool :=
bif (decide (t5 < (List.length s1 : Int))) then (
(idx s1 t5).bind fun e10 =>
(idx s2 t5).bind fun e12 =>
bif (!(eqT69 e10.1 e10.2 e12.1 e12.2)) then (
some false)
else (
again6 (IntKind.i64.wrap (t5 + 1))))
else (
some true)

def slices_Equal_api_Edge_api_Edge (s1 : (List (Int × Int))) (s2 : (List (Int × Int))) : Option Bool :=
bif ((List.length s1 : Int) != (List.length s2 : Int)) then (
some false)
else (
fixN (slices_Equal_api_Edge_api_Edge_L1 s1 s2) FUEL 0)

def dfa_work_same_L1 (next_ : (List (Int × Int))) (Node : (List ((List (Int × Int)) × Int))) (young : (Option (List (Int × Bool)))) (again6 : Int → Option (Int × Bool)) (t5 : Int) : Option (Int × Bool) :=
bif (decide (t5 < (List.length Node : Int))) then (
(idx Node t5).bind fun e8 =>
letv (decide (0 < e8.2)) fun b17 =>
letv (mgetD young t5 false) fun b19 =>
letv (b17 || b19) fun b21 =>
callG b21 default (slices_Equal_api_Edge_api_Edge e8.1 next_) fun r23 =>
letv (b21 && r23) fun b29 =>
bif b29 then (
some (t5, true))
else (
again6 (IntKind.i64.wrap (t5 + 1))))
else (
some ((-1), false))

def dfa_work_same (next_ : (List (Int × Int))) (_Wide : Int) (Node : (List ((List (Int × Int)) × Int))) (_Root : Int) (_Many : Int) (_Free : (List Int)) (young : (Option (List (Int × Bool)))) : Option (Int × Bool) :=
fixN (dfa_work_same_L1 next_ Node young) FUEL 0

def dfa_numbers_Len_s2 (h : (List Int)) : Option Int :=
some (List.length h : Int)

def dfa_numbers_Swap_s2 (h : (List Int)) (i : Int) (j : Int) : Option (List Int) :=
(idx h j).bind fun e5 =>
(idx h i).bind fun e7 =>
(idx h i).bind fun e9 =>
(idx (List.set h (Int.toNat i) e5) j).bind fun e12 =>
some (List.set (List.set h (Int.toNat i) e5) (Int.toNat j) e7)

def dfa_numbers_Less_s2 (h : (List Int)) (i : Int) (j : Int) : Option Bool :=
(idx h i).bind fun e5 =>
(idx h j).bind fun e7 =>
some (decide (e5 < e7))

def container_heap_down_K2 (i0 : Int) (l5 : (List Int)) (i6 : Int) (again7 : ((List Int) × Int) → Option (Bool × (List Int))) (j16 : Int) : Option (Bool × (List Int)) :=
(dfa_numbers_Less_s2 l5 j16 i6).bind fun r17 =>
bif (!r17) then (
some ((decide (i0 < i6)), l5))
else (
(dfa_numbers_Swap_s2 l5 i6 j16).bind fun r21 =>
again7 (r21, j16))

def container_heap_down_L1 (i0 : Int) (n : Int) (again7 : ((List Int) × Int) → Option (Bool × (List Int))) : (List Int) × Int → Option (Bool × (List Int)) := fun ⟨l5, i6⟩ =>
letv (decide (n ≤ (IntKind.i64.wrap ((IntKind.i64.wrap (2 * i6)) + 1)))) fun b8 =>
letv (decide ((IntKind.i64.wrap ((IntKind.i64.wrap (2 * i6)) + 1)) < 0)) fun b10 =>
letv (b8 || b10) fun b12 =>
bif b12 then (
some ((decide (i0 < i6)), l5))
else (
letv (decide ((IntKind.i64.wrap ((IntKind.i64.wrap ((IntKind.i64.wrap (2 * i6)) + 1)) + 1)) < n)) fun b24 =>
callG b24 default (dfa_numbers_Less_s2 l5 (IntKind.i64.wrap ((IntKind.i64.wrap ((IntKind.i64.wrap (2 * i6)) + 1)) + 1)) (IntKind.i64.wrap ((IntKind.i64.wrap (2 * i6)) + 1))) fun r26 =>
letv (b24 && r26) fun b32 =>
bif b32 then (
container_heap_down_K2 i0 l5 i6 again7 (IntKind.i64.wrap ((IntKind.i64.wrap ((IntKind.i64.wrap (2 * i6)) + 1)) + 1)))
else (
container_heap_down_K2 i0 l5 i6 again7 (IntKind.i64.wrap ((IntKind.i64.wrap (2 * i6)) + 1))))

def container_heap_down (i0 : Int) (n : Int) (h : (List Int)) : Option (Bool × (List Int)) :=
fixN (container_heap_down_L1 i0 n) FUEL (h, i0)

def dfa_numbers_Pop (h : (List Int)) : Option (Int × (List Int)) :=
(idx h (IntKind.i64.wrap ((List.length h : Int) - 1))).bind fun e1 =>
chk (cutB 0 (IntKind.i64.wrap ((List.length h : Int) - 1)) (List.length h)) <|
some (e1, (cutL h 0 (IntKind.i64.wrap ((List.length h : Int) - 1))))

def container_heap_Pop (h : (List Int)) : Option (Int × (List Int)) :=
(dfa_numbers_Len_s2 h).bind fun r1 =>
(dfa_numbers_Swap_s2 h 0 (IntKind.i64.wrap (r1 - 1))).bind fun r4 =>
(container_heap_down 0 (IntKind.i64.wrap (r1 - 1)) r4).bind fun r7 =>
(dfa_numbers_Pop r7.2).bind fun r10 =>
some (r10.1, r10.2)

def dfa_work_fresh (_Wide : Int) (Node : (List ((List (Int × Int)) × Int))) (_Root : Int) (_Many : Int) (Free : (List Int)) (_young : (Option (List (Int × Bool)))) : Option (Int × (List ((List (Int × Int)) × Int)) × (List Int)) :=
bif ((List.length Free : Int) == 0) then (
chk (roomB (List.length Node + List.length ([([], 0)] : List ((List (Int × Int)) × Int))) 32) <|
some ((IntKind.i64.wrap ((List.length (Node ++ ([([], 0)] : List ((List (Int × Int)) × Int))) : Int) - 1)), (Node ++ ([([], 0)] : List ((List (Int × Int)) × Int))), Free))
else (
(container_heap_Pop Free).bind fun r21 =>
some (r21.1, Node, r21.2))

def dfa_work_node_L1 (next_ : (List (Int × Int))) (r15 : (Int × (List ((List (Int × Int)) × Int)) × (List Int))) (m29 : (List (Int × Bool))) (again35 : ((List ((List (Int × Int)) × Int)) × Int) → Option (Int × (List ((List (Int × Int)) × Int)) × (List Int) × (Option (List (Int × Bool))))) : (List ((List (Int × Int)) × Int)) × Int → Option (Int × (List ((List (Int × Int)) × Int)) × (List Int) × (Option (List (Int × Bool)))) := fun ⟨l33, t34⟩ =>
bif (decide (t34 < (List.length next_ : Int))) then (
(idx next_ t34).bind fun e37 =>
(idx l33 e37.2).bind fun e44 =>
(idx l33 e37.2).bind fun e50 =>
again35 ((List.set l33 (Int.toNat e37.2) (e50.1, (IntKind.i64.wrap (e44.2 + 1)))), (IntKind.i64.wrap (t34 + 1))))
else (
some (r15.1, l33, r15.2.2, (some (mset m29 r15.1 true))))

def dfa_work_node (next_ : (List (Int × Int))) (Wide : Int) (Node : (List ((List (Int × Int)) × Int))) (Root : Int) (Many : Int) (Free : (List Int)) (young : (Option (List (Int × Bool)))) : Option (Int × (List ((List (Int × Int)) × Int)) × (List Int) × (Option (List (Int × Bool)))) :=
(dfa_work_same next_ Wide Node Root Many Free young).bind fun r11 =>
bif r11.2 then (
some (r11.1, Node, Free, young))
else (
(dfa_work_fresh Wide Node Root Many Free young).bind fun r15 =>
(idx r15.2.1 r15.1).bind fun e22 =>
(young).bind fun m29 =>
fixN (dfa_work_node_L1 next_ r15 m29) FUEL ((List.set r15.2.1 (Int.toNat r15.1) (next_, 0)), 0))

def dfa_to_s3 (d : (Int × (List ((List (Int × Int)) × Int)) × Int × Int × (List Int))) (at_ : Int) (by_ : Int) : Option Int :=
bif (at_ == (-1)) then (
some (-1))
else (
(idx d.2.1 at_).bind fun e6 =>
(slices_BinarySearchFunc_api_Edge_api_Edge_byte e6.1 by_).bind fun r12 =>
bif (!r12.2) then (
some (-1))
else (
(idx d.2.1 at_).bind fun e16 =>
(idx e16.1 r12.1).bind fun e22 =>
some e22.2))

def dfa_work_put_c1 (e : (Int × Int)) (by_ : Int) : Option Int :=
(cmp_Compare_byte e.1 by_).bind fun r5 =>
some r5

def slices_BinarySearchFunc_api_Edge_api_Edge_byte_s3_L1 (x : (List (Int × Int))) (target : Int) (again7 : (Int × Int) → Option (Int × Bool)) : Int × Int → Option (Int × Bool) := fun ⟨i5, j6⟩ =>
bif (decide (i5 < j6)) then (
(idx x (IntKind.i64.wrap (shrI .u64 (IntKind.u64.wrap (IntKind.i64.wrap (i5 + j6))) 1))).bind fun e9 =>
(dfa_work_put_c1 e9 target).bind fun r11 =>
bif (decide (r11 < 0)) then (
again7 ((IntKind.i64.wrap ((IntKind.i64.wrap (shrI .u64 (IntKind.u64.wrap (IntKind.i64.wrap (i5 + j6))) 1)) + 1)), j6))
else (
again7 (i5, (IntKind.i64.wrap (shrI .u64 (IntKind.u64.wrap (IntKind.i64.wrap (i5 + j6))) 1)))))
else (
letv (decide (i5 < (List.length x : Int))) fun b15 =>
callG b15 (0, 0) (idx x i5) fun e17 =>
callG b15 default (dfa_work_put_c1 e17 target) fun r19 =>
letv (r19 == 0) fun b25 =>
letv (b15 && b25) fun b27 =>
some (i5, b27))

def slices_BinarySearchFunc_api_Edge_api_Edge_byte_s3 (x : (List (Int × Int))) (target : Int) : Option (Int × Bool) :=
fixN (slices_BinarySearchFunc_api_Edge_api_Edge_byte_s3_L1 x target) FUEL (0, (List.length x : Int))

def slices_Clone_api_Edge_api_Edge (s : (List (Int × Int))) : Option (List (Int × Int)) :=
chk (roomB (List.length ([] : List (Int × Int)) + List.length s) 16) <|
some (([] : List (Int × Int)) ++ s)

def dfa_work_put_K2 (Wide : Int) (Root : Int) (Many : Int) (r36 : (Int × (List ((List (Int × Int)) × Int)) × (List Int) × (Option (List (Int × Bool))))) (next50 : (List (Int × Int))) : Option (Int × (List ((List (Int × Int)) × Int)) × (List Int) × (Option (List (Int × Bool)))) :=
(dfa_work_node next50 Wide r36.2.1 Root Many r36.2.2.1 r36.2.2.2).bind fun r53 =>
some (r53.1, r53.2.1, r53.2.2.1, r53.2.2.2)

def dfa_work_put_K1 (k_dfa_work_put : (Int × (List Int) × Int × (List ((List (Int × Int)) × Int)) × Int × Int × (List Int) × (Option (List (Int × Bool)))) → Option (Int × (List ((List (Int × Int)) × Int)) × (List Int) × (Option (List (Int × Bool))))) (at_ : Int) (word : (List Int)) (Wide : Int) (Node : (List ((List (Int × Int)) × Int))) (Root : Int) (Many : Int) (Free : (List Int)) (young : (Option (List (Int × Bool)))) (next20 : (List (Int × Int))) : Option (Int × (List ((List (Int × Int)) × Int)) × (List Int) × (Option (List (Int × Bool)))) :=
(idx word 0).bind fun e25 =>
(idx word 0).bind fun e27 =>
chk (cutB 1 ((List.length word) : Int) (List.length word)) <|
(dfa_to_s3 (Wide, Node, Root, Many, Free) at_ e27).bind fun r33 =>
(k_dfa_work_put (r33, (cutL word 1 ((List.length word) : Int)), Wide, (Wide, Node, Root, Many, Free).2.1, Root, Many, (Wide, Node, Root, Many, Free).2.2.2.2, young)).bind fun r36 =>
(slices_BinarySearchFunc_api_Edge_api_Edge_byte_s3 next20 e25).bind fun r46 =>
bif r46.2 then (
(idx next20 r46.1).bind fun e61 =>
dfa_work_put_K2 Wide Root Many r36 (List.set next20 (Int.toNat r46.1) (e25, r36.1)))
else (
chk (insB r46.1 (List.length next20)) <|
chk (roomB (List.length next20 + List.length ([(e25, r36.1)] : List (Int × Int))) 16) <|
dfa_work_put_K2 Wide Root Many r36 (insL next20 r46.1 ([(e25, r36.1)] : List (Int × Int))))

def dfa_work_put_F (k_dfa_work_put : (Int × (List Int) × Int × (List ((List (Int × Int)) × Int)) × Int × Int × (List Int) × (Option (List (Int × Bool)))) → Option (Int × (List ((List (Int × Int)) × Int)) × (List Int) × (Option (List (Int × Bool))))) (at_ : Int) (word : (List Int)) (Wide : Int) (Node : (List ((List (Int × Int)) × Int))) (Root : Int) (Many : Int) (Free : (List Int)) (young : (Option (List (Int × Bool)))) : Option (Int × (List ((List (Int × Int)) × Int)) × (List Int) × (Option (List (Int × Bool)))) :=
bif ((List.length word : Int) == 0) then (
(dfa_work_node [] Wide Node Root Many Free young).bind fun r12 =>
some (r12.1, r12.2.1, r12.2.2.1, r12.2.2.2))
else (
bif (at_ != (-1)) then (
(idx Node at_).bind fun e145 =>
(slices_Clone_api_Edge_api_Edge e145.1).bind fun r151 =>
dfa_work_put_K1 k_dfa_work_put at_ word Wide Node Root Many Free young r151)
else (
dfa_work_put_K1 k_dfa_work_put at_ word Wide Node Root Many Free young []))

def dfa_work_put (at_ : Int) (word : (List Int)) (Wide : Int) (Node : (List ((List (Int × Int)) × Int))) (Root : Int) (Many : Int) (Free : (List Int)) (young : (Option (List (Int × Bool)))) : Option (Int × (List ((List (Int × Int)) × Int)) × (List Int) × (Option (List (Int × Bool)))) :=
  fixN (fun k (s : (Int × (List Int) × Int × (List ((List (Int × Int)) × Int)) × Int × Int × (List Int) × (Option (List (Int × Bool))))) => dfa_work_put_F k s.1 s.2.1 s.2.2.1 s.2.2.2.1 s.2.2.2.2.1 s.2.2.2.2.2.1 s.2.2.2.2.2.2.1 s.2.2.2.2.2.2.2) FUEL (at_, word, Wide, Node, Root, Many, Free, young)

def dfa_numbers_Push (x : Int) (h : (List Int)) : Option (List Int) :=
chk (roomB (List.length h + List.length ([x] : List Int)) 8) <|
some (h ++ ([x] : List Int))

def container_heap_up_s2_L1 (again6 : ((List Int) × Int) → Option (List Int)) : (List Int) × Int → Option (List Int) := fun ⟨l4, j5⟩ =>
letv ((IntKind.i64.wrap (Int.tdiv (IntKind.i64.wrap (j5 - 1)) 2)) == j5) fun b7 =>
callG (!b7) default (dfa_numbers_Less_s2 l4 j5 (IntKind.i64.wrap (Int.tdiv (IntKind.i64.wrap (j5 - 1)) 2))) fun r9 =>
letv (!r9) fun b15 =>
letv (b7 || b15) fun b17 =>
bif b17 then (
some l4)
else (
(dfa_numbers_Swap_s2 l4 (IntKind.i64.wrap (Int.tdiv (IntKind.i64.wrap (j5 - 1)) 2)) j5).bind fun r20 =>
again6 (r20, (IntKind.i64.wrap (Int.tdiv (IntKind.i64.wrap (j5 - 1)) 2))))

def container_heap_up_s2 (j : Int) (h : (List Int)) : Option (List Int) :=
fixN container_heap_up_s2_L1 FUEL (h, j)

def container_heap_Push (x : Int) (h : (List Int)) : Option (List Int) :=
(dfa_numbers_Push x h).bind fun r5 =>
(dfa_numbers_Len_s2 r5).bind fun r10 =>
(container_heap_up_s2 (IntKind.i64.wrap (r10 - 1)) r5).bind fun r13 =>
some r13

def dfa_work_leave_L1 (k_dfa_work_leave : (Int × Int × (List ((List (Int × Int)) × Int)) × Int × Int × (List Int) × (Option (List (Int × Bool)))) → Option ((List ((List (Int × Int)) × Int)) × (List Int))) (i : Int) (Wide : Int) (Root : Int) (Many : Int) (young : (Option (List (Int × Bool)))) (e27 : ((List (Int × Int)) × Int)) (again39 : ((List ((List (Int × Int)) × Int)) × (List Int) × Int) → Option ((List ((List (Int × Int)) × Int)) × (List Int))) : (List ((List (Int × Int)) × Int)) × (List Int) × Int → Option ((List ((List (Int × Int)) × Int)) × (List Int)) := fun ⟨l34, c35, t38⟩ =>
bif (decide (t38 < (List.length e27.1 : Int))) then (
(idx e27.1 t38).bind fun e41 =>
(k_dfa_work_leave (e41.2, Wide, l34, Root, Many, c35, young)).bind fun r46 =>
again39 (r46.1, r46.2, (IntKind.i64.wrap (t38 + 1))))
else (
(idx l34 i).bind fun e51 =>
(container_heap_Push i c35).bind fun r61 =>
some ((List.set l34 (Int.toNat i) ([], 0)), r61))

def dfa_work_leave_F (k_dfa_work_leave : (Int × Int × (List ((List (Int × Int)) × Int)) × Int × Int × (List Int) × (Option (List (Int × Bool)))) → Option ((List ((List (Int × Int)) × Int)) × (List Int))) (i : Int) (Wide : Int) (Node : (List ((List (Int × Int)) × Int))) (Root : Int) (Many : Int) (Free : (List Int)) (young : (Option (List (Int × Bool)))) : Option ((List ((List (Int × Int)) × Int)) × (List Int)) :=
(idx Node i).bind fun e7 =>
(idx Node i).bind fun e13 =>
(idx (List.set Node (Int.toNat i) (e13.1, (IntKind.i64.wrap (e7.2 - 1)))) i).bind fun e20 =>
bif (decide (0 < e20.2)) then (
some ((List.set Node (Int.toNat i) (e13.1, (IntKind.i64.wrap (e7.2 - 1)))), Free))
else (
(idx (List.set Node (Int.toNat i) (e13.1, (IntKind.i64.wrap (e7.2 - 1)))) i).bind fun e27 =>
fixN (dfa_work_leave_L1 k_dfa_work_leave i Wide Root Many young e27) FUEL ((List.set Node (Int.toNat i) (e13.1, (IntKind.i64.wrap (e7.2 - 1)))), Free, 0))

def dfa_work_leave (i : Int) (Wide : Int) (Node : (List ((List (Int × Int)) × Int))) (Root : Int) (Many : Int) (Free : (List Int)) (young : (Option (List (Int × Bool)))) : Option ((List ((List (Int × Int)) × Int)) × (List Int)) :=
  fixN (fun k (s : (Int × Int × (List ((List (Int × Int)) × Int)) × Int × Int × (List Int) × (Option (List (Int × Bool))))) => dfa_work_leave_F k s.1 s.2.1 s.2.2.1 s.2.2.2.1 s.2.2.2.2.1 s.2.2.2.2.2.1 s.2.2.2.2.2.2) FUEL (i, Wide, Node, Root, Many, Free, young)

def dfa_Insert_K1 (d : (Int × (List ((List (Int × Int)) × Int)) × Int × Int × (List Int))) (r44 : (Int × (List ((List (Int × Int)) × Int)) × (List Int) × (Option (List (Int × Bool))))) (l68 : (List ((List (Int × Int)) × Int))) (c69 : (List Int)) : Option ((Int × (List ((List (Int × Int)) × Int)) × Int × Int × (List Int)) × Bool × Int) :=
some ((d.1, l68, r44.1, (IntKind.i64.wrap (d.2.2.2.1 + 1)), c69), true, 0)

def dfa_Insert (d : (Int × (List ((List (Int × Int)) × Int)) × Int × Int × (List Int))) (word : (List Int)) : Option ((Int × (List ((List (Int × Int)) × Int)) × Int × Int × (List Int)) × Bool × Int) :=
letv ((List.length word : Int) != d.1) fun b13 =>
letv (d.1 == 0) fun b15 =>
letv (b13 || b15) fun b17 =>
bif b17 then (
some (d, false, 1))
else (
(dfa_Has d word).bind fun r21 =>
bif r21 then (
some (d, false, 0))
else (
(slices_Clone_api_Node_api_Node d.2.1).bind fun r32 =>
(slices_Clone_int_int d.2.2.2.2).bind fun r37 =>
(dfa_work_put d.2.2.1 word d.1 r32 d.2.2.1 d.2.2.2.1 r37 (some [] : (Option (List (Int × Bool))))).bind fun r44 =>
(idx r44.2.1 r44.1).bind fun e54 =>
(idx r44.2.1 r44.1).bind fun e60 =>
bif (d.2.2.1 != (-1)) then (
(dfa_work_leave d.2.2.1 d.1 (List.set r44.2.1 (Int.toNat r44.1) (e60.1, (IntKind.i64.wrap (e54.2 + 1)))) r44.1 d.2.2.2.1 r44.2.2.1 r44.2.2.2).bind fun r75 =>
dfa_Insert_K1 d r44 r75.1 r75.2)
else (
dfa_Insert_K1 d r44 (List.set r44.2.1 (Int.toNat r44.1) (e60.1, (IntKind.i64.wrap (e54.2 + 1)))) r44.2.2.1)))

def dfa_Size (d : (Int × (List ((List (Int × Int)) × Int)) × Int × Int × (List Int))) : Option Int :=
some (IntKind.i64.wrap ((List.length d.2.1 : Int) - (List.length d.2.2.2.2 : Int)))

def dfa_Many (d : (Int × (List ((List (Int × Int)) × Int)) × Int × Int × (List Int))) : Option Int :=
some d.2.2.2.1

def slices_Clip_byte_byte (s : (List Int)) : Option (List Int) :=
chk (cut3B 0 (List.length s : Int) (List.length s : Int) (List.length s)) <|
some (cutL s 0 (List.length s : Int))

def slices_Clone_byte_byte (s : (List Int)) : Option (List Int) :=
chk (roomB (List.length ([] : List Int) + List.length s) 1) <|
some (([] : List Int) ++ s)

def dfa_Words_c1_L2 (k_dfa_Words_c1 : (Int × (List Int) × Int × (List ((List (Int × Int)) × Int)) × Int × Int × (List Int) × (List (List Int))) → Option (List (List Int))) (begun : (List Int)) (Wide : Int) (Node : (List ((List (Int × Int)) × Int))) (Root : Int) (Many : Int) (Free : (List Int)) (e9 : ((List (Int × Int)) × Int)) (again20 : ((List (List Int)) × Int) → Option (List (List Int))) : (List (List Int)) × Int → Option (List (List Int)) := fun ⟨c16, t19⟩ =>
bif (decide (t19 < (List.length e9.1 : Int))) then (
(idx e9.1 t19).bind fun e22 =>
(slices_Clip_byte_byte begun).bind fun r29 =>
chk (roomB (List.length r29 + List.length ([e22.1] : List Int)) 1) <|
(k_dfa_Words_c1 (e22.2, (r29 ++ ([e22.1] : List Int)), Wide, Node, Root, Many, Free, c16)).bind fun r39 =>
again20 (r39, (IntKind.i64.wrap (t19 + 1))))
else (
some c16)

def dfa_Words_c1_K1 (k_dfa_Words_c1 : (Int × (List Int) × Int × (List ((List (Int × Int)) × Int)) × Int × Int × (List Int) × (List (List Int))) → Option (List (List Int))) (at_ : Int) (begun : (List Int)) (Wide : Int) (Node : (List ((List (Int × Int)) × Int))) (Root : Int) (Many : Int) (Free : (List Int)) (c6 : (List (List Int))) : Option (List (List Int)) :=
(idx Node at_).bind fun e9 =>
fixN (dfa_Words_c1_L2 k_dfa_Words_c1 begun Wide Node Root Many Free e9) FUEL (c6, 0)

def dfa_Words_c1_F (k_dfa_Words_c1 : (Int × (List Int) × Int × (List ((List (Int × Int)) × Int)) × Int × Int × (List Int) × (List (List Int))) → Option (List (List Int))) (at_ : Int) (begun : (List Int)) (Wide : Int) (Node : (List ((List (Int × Int)) × Int))) (Root : Int) (Many : Int) (Free : (List Int)) (x : (List (List Int))) : Option (List (List Int)) :=
bif ((List.length begun : Int) == Wide) then (
(slices_Clone_byte_byte begun).bind fun r62 =>
chk (roomB (List.length x + List.length ([r62] : List (List Int))) 24) <|
dfa_Words_c1_K1 k_dfa_Words_c1 at_ begun Wide Node Root Many Free (x ++ ([r62] : List (List Int))))
else (
dfa_Words_c1_K1 k_dfa_Words_c1 at_ begun Wide Node Root Many Free x)

def dfa_Words_c1 (at_ : Int) (begun : (List Int)) (Wide : Int) (Node : (List ((List (Int × Int)) × Int))) (Root : Int) (Many : Int) (Free : (List Int)) (x : (List (List Int))) : Option (List (List Int)) :=
  fixN (fun k (s : (Int × (List Int) × Int × (List ((List (Int × Int)) × Int)) × Int × Int × (List Int) × (List (List Int)))) => dfa_Words_c1_F k s.1 s.2.1 s.2.2.1 s.2.2.2.1 s.2.2.2.2.1 s.2.2.2.2.2.1 s.2.2.2.2.2.2.1 s.2.2.2.2.2.2.2) FUEL (at_, begun, Wide, Node, Root, Many, Free, x)

def dfa_Words (d : (Int × (List ((List (Int × Int)) × Int)) × Int × Int × (List Int))) : Option (List (List Int)) :=
letv (d.2.2.1 == (-1)) fun b8 =>
letv (d.1 == 0) fun b10 =>
letv (b8 || b10) fun b12 =>
bif b12 then (
some [])
else (
(dfa_Words_c1 d.2.2.1 [] d.1 d.2.1 d.2.2.1 d.2.2.2.1 d.2.2.2.2 []).bind fun r20 =>
some r20)

def scrutinyref04_Rows_L1 (a : (List (List Int))) (b : (List (List Int))) (again6 : Int → Option Bool) (i5 : Int) : Option Bool :=
bif (decide (i5 < (List.length a : Int))) then (
(idx a i5).bind fun e10 =>
(idx b i5).bind fun e16 =>
bif ((strOf e10) != (strOf e16)) then (
some false)
else (
again6 (IntKind.i64.wrap (i5 + 1))))
else (
some true)

def scrutinyref04_Rows (a : (List (List Int))) (b : (List (List Int))) : Option Bool :=
bif ((List.length a : Int) != (List.length b : Int)) then (
some false)
else (
fixN (scrutinyref04_Rows_L1 a b) FUEL 0)

def scrutinylaw09_shown : Option Bool :=
(dfa_New 2).bind fun r3 =>
(dfa_Insert r3.1 ([97, 98] : List Int)).bind fun r16 =>
(dfa_Insert r16.1 ([99, 98] : List Int)).bind fun r27 =>
(dfa_Insert r27.1 ([99, 100] : List Int)).bind fun r38 =>
(dfa_Insert r38.1 ([97, 98] : List Int)).bind fun r49 =>
(dfa_Insert r38.1 ([97] : List Int)).bind fun r60 =>
(dfa_New 0).bind fun r68 =>
letv (r3.2 == 0) fun b78 =>
letv (b78 && r16.2.1) fun b80 =>
letv (r16.2.2 == 0) fun b82 =>
letv (b80 && b82) fun b84 =>
letv (b84 && r27.2.1) fun b86 =>
letv (r27.2.2 == 0) fun b88 =>
letv (b86 && b88) fun b90 =>
letv (b90 && r38.2.1) fun b92 =>
letv (r38.2.2 == 0) fun b94 =>
letv (b92 && b94) fun b96 =>
letv (!r49.2.1) fun b98 =>
letv (b96 && b98) fun b100 =>
letv (r49.2.2 == 0) fun b102 =>
letv (b100 && b102) fun b104 =>
letv (r60.2.2 == 1) fun b106 =>
letv (b104 && b106) fun b108 =>
letv (r68.2 == 1) fun b110 =>
letv (b108 && b110) fun b112 =>
callG b112 default (dfa_Size r3.1) fun r114 =>
letv (r114 == 0) fun b120 =>
letv (b112 && b120) fun b122 =>
callG b122 default (dfa_Size r16.1) fun r124 =>
letv (r124 == 3) fun b130 =>
letv (b122 && b130) fun b132 =>
callG b132 default (dfa_Size r27.1) fun r134 =>
letv (r134 == 3) fun b140 =>
letv (b132 && b140) fun b142 =>
callG b142 default (dfa_Size r38.1) fun r144 =>
letv (r144 == 4) fun b150 =>
letv (b142 && b150) fun b152 =>
callG b152 default (dfa_Many r38.1) fun r154 =>
letv (r154 == 3) fun b160 =>
letv (b152 && b160) fun b162 =>
callG b162 default (dfa_Has r38.1 ([99, 100] : List Int)) fun r166 =>
letv (b162 && r166) fun b172 =>
callG b172 default (dfa_Has r38.1 ([97, 100] : List Int)) fun r176 =>
letv (!r176) fun b182 =>
letv (b172 && b182) fun b184 =>
callG b184 default (dfa_Has r38.1 ([99] : List Int)) fun r188 =>
letv (!r188) fun b194 =>
letv (b184 && b194) fun b196 =>
callG b196 default (dfa_Words r38.1) fun r198 =>
callG b196 default (scrutinyref04_Rows r198 ([([97, 98] : List Int), ([99, 98] : List Int), ([99, 100] : List Int)] : List (List Int))) fun r215 =>
letv (b196 && r215) fun b221 =>
some b221

def scrutinyref09_Few_L1 (l : (List (List Int))) (again6 : Int → Option Bool) (i5 : Int) : Option Bool :=
bif (decide (i5 < (List.length l : Int))) then (
(idx l i5).bind fun e8 =>
bif (decide (70 < (List.length e8 : Int))) then (
some false)
else (
again6 (IntKind.i64.wrap (i5 + 1))))
else (
some true)

def scrutinyref09_Few (l : (List (List Int))) (most : Int) : Option Bool :=
bif (decide (most < (List.length l : Int))) then (
some false)
else (
fixN (scrutinyref09_Few_L1 l) FUEL 0)

def scrutinyref09_New (wide : Int) : Option ((Int × (List (List Int))) × Int) :=
letv (decide (wide < 1)) fun b8 =>
letv (decide (64 < wide)) fun b10 =>
letv (b8 || b10) fun b12 =>
bif b12 then (
some ((0, []), 1))
else (
some ((wide, []), 0))

def scrutinyref09_Has_L1 (s : (Int × (List (List Int)))) (w3 : (List Int)) (again7 : Int → Option Bool) (i6 : Int) : Option Bool :=
bif (decide (i6 < (List.length s.2 : Int))) then (
(idx s.2 i6).bind fun e11 =>
bif ((strOf e11) == (strOf w3)) then (
some true)
else (
again7 (IntKind.i64.wrap (i6 + 1))))
else (
some false)

def scrutinyref09_Has (s : (Int × (List (List Int)))) (w3 : (List Int)) : Option Bool :=
fixN (scrutinyref09_Has_L1 s w3) FUEL 0

def scrutinyref09_Insert_K2 (s : (Int × (List (List Int)))) (i22 : Int) (again23 : ((List (List Int)) × Bool × Int) → Option ((Int × (List (List Int))) × Bool × Int)) (l26 : (List (List Int))) (laid29 : Bool) : Option ((Int × (List (List Int))) × Bool × Int) :=
(idx s.2 i22).bind fun e30 =>
chk (roomB (List.length l26 + List.length ([e30] : List (List Int))) 24) <|
again23 ((l26 ++ ([e30] : List (List Int))), laid29, (IntKind.i64.wrap (i22 + 1)))

def scrutinyref09_Insert_K3 (s : (Int × (List (List Int)))) (l70 : (List (List Int))) : Option ((Int × (List (List Int))) × Bool × Int) :=
some ((s.1, l70), true, 0)

def scrutinyref09_Insert_L1 (s : (Int × (List (List Int)))) (w3 : (List Int)) (again23 : ((List (List Int)) × Bool × Int) → Option ((Int × (List (List Int))) × Bool × Int)) : (List (List Int)) × Bool × Int → Option ((Int × (List (List Int))) × Bool × Int) := fun ⟨l18, laid21, i22⟩ =>
bif (decide (i22 < (List.length s.2 : Int))) then (
letv (!laid21) fun b44 =>
callG b44 [] (idx s.2 i22) fun e46 =>
letv (ltS (strOf w3) (strOf e46)) fun b52 =>
letv (b44 && b52) fun b54 =>
bif b54 then (
chk (roomB (List.length ([] : List Int) + List.length w3) 1) <|
chk (roomB (List.length l18 + List.length ([(([] : List Int) ++ w3)] : List (List Int))) 24) <|
scrutinyref09_Insert_K2 s i22 again23 (l18 ++ ([(([] : List Int) ++ w3)] : List (List Int))) true)
else (
scrutinyref09_Insert_K2 s i22 again23 l18 laid21))
else (
bif (!laid21) then (
chk (roomB (List.length ([] : List Int) + List.length w3) 1) <|
chk (roomB (List.length l18 + List.length ([(([] : List Int) ++ w3)] : List (List Int))) 24) <|
scrutinyref09_Insert_K3 s (l18 ++ ([(([] : List Int) ++ w3)] : List (List Int))))
else (
scrutinyref09_Insert_K3 s l18))

def scrutinyref09_Insert (s : (Int × (List (List Int)))) (w3 : (List Int)) : Option ((Int × (List (List Int))) × Bool × Int) :=
bif ((List.length w3 : Int) != s.1) then (
some (s, false, 1))
else (
(scrutinyref09_Has s w3).bind fun r12 =>
bif r12 then (
some (s, false, 0))
else (
fixN (scrutinyref09_Insert_L1 s w3) FUEL ([], false, 0)))

def scrutinyref09_left_L1 (s : (Int × (List (List Int)))) (w3 : (List Int)) (n : Int) (again8 : (Str × Int) → Option Str) : Str × Int → Option Str := fun ⟨out6, i7⟩ =>
bif (decide (i7 < (List.length s.2 : Int))) then (
(idx s.2 i7).bind fun e12 =>
chk (cutB 0 n (List.length e12)) <|
chk (cutB 0 n (List.length w3)) <|
bif ((strOf (cutL e12 0 n)) == (strOf (cutL w3 0 n))) then (
(idx s.2 i7).bind fun e27 =>
chk (cutB n ((List.length e27) : Int) (List.length e27)) <|
chk (catB out6 (strOf (cutL e27 n ((List.length e27) : Int)))) <|
again8 ((out6 ++ (strOf (cutL e27 n ((List.length e27) : Int)))), (IntKind.i64.wrap (i7 + 1))))
else (
again8 (out6, (IntKind.i64.wrap (i7 + 1)))))
else (
some out6)

def scrutinyref09_left (s : (Int × (List (List Int)))) (w3 : (List Int)) (n : Int) : Option Str :=
fixN (scrutinyref09_left_L1 s w3 n) FUEL ([], 0)

def scrutinyref09_Size_L3 (seen11 : (List Str)) (i14 : Int) (again15 : ((List Str) × Int) → Option Int) (r25 : Str) (again31 : (Bool × Int) → Option Int) : Bool × Int → Option Int := fun ⟨is29, j30⟩ =>
bif (decide (j30 < (List.length seen11 : Int))) then (
callG (!is29) [] (idx seen11 j30) fun e33 =>
letv (e33 == r25) fun b35 =>
letv (is29 || b35) fun b37 =>
again31 (b37, (IntKind.i64.wrap (j30 + 1))))
else (
bif (!is29) then (
chk (roomB (List.length seen11 + List.length ([r25] : List Str)) 16) <|
again15 ((seen11 ++ ([r25] : List Str)), (IntKind.i64.wrap (i14 + 1))))
else (
again15 (seen11, (IntKind.i64.wrap (i14 + 1)))))

def scrutinyref09_Size_L2 (s : (Int × (List (List Int)))) (n6 : Int) (k7 : Int) (again8 : (Int × Int) → Option Int) (again15 : ((List Str) × Int) → Option Int) : (List Str) × Int → Option Int := fun ⟨seen11, i14⟩ =>
bif (decide (i14 < (List.length s.2 : Int))) then (
(idx s.2 i14).bind fun e19 =>
(scrutinyref09_left s e19 k7).bind fun r25 =>
fixN (scrutinyref09_Size_L3 seen11 i14 again15 r25) FUEL (false, 0))
else (
again8 ((IntKind.i64.wrap (n6 + (List.length seen11 : Int))), (IntKind.i64.wrap (k7 + 1))))

def scrutinyref09_Size_L1 (s : (Int × (List (List Int)))) (again8 : (Int × Int) → Option Int) : Int × Int → Option Int := fun ⟨n6, k7⟩ =>
bif (decide (k7 ≤ s.1)) then (
fixN (scrutinyref09_Size_L2 s n6 k7 again8) FUEL ([], 0))
else (
some n6)

def scrutinyref09_Size (s : (Int × (List (List Int)))) : Option Int :=
fixN (scrutinyref09_Size_L1 s) FUEL (0, 0)

def scrutinylaw09_DfaTells_L1 (l : (List (List Int))) (w3 : (List Int)) (r3 : Bool) (again48 : (Int × (List ((List (Int × Int)) × Int)) × Int × Int × (List Int) × Int × (List (List Int)) × Int) → Option Bool) : Int × (List ((List (Int × Int)) × Int)) × Int × Int × (List Int) × Int × (List (List Int)) × Int → Option Bool := fun ⟨c37, c38, c40, c41, c42, c44, c45, i47⟩ =>
bif (decide (i47 < (List.length l : Int))) then (
(idx l i47).bind fun e52 =>
(dfa_Insert (c37, c38, c40, c41, c42) e52).bind fun r58 =>
(idx l i47).bind fun e68 =>
(scrutinyref09_Insert (c44, c45) e68).bind fun r74 =>
letv (r58.2.1 != r74.2.1) fun b83 =>
letv (r58.2.2 != r74.2.2) fun b85 =>
letv (b83 || b85) fun b87 =>
callG (!b87) default (dfa_Many r58.1) fun r89 =>
letv (r89 != (List.length r74.1.2 : Int)) fun b95 =>
letv (b87 || b95) fun b97 =>
callG (!b97) default (dfa_Size r58.1) fun r99 =>
callG (!b97) default (scrutinyref09_Size r74.1) fun r105 =>
letv (r99 != r105) fun b111 =>
letv (b97 || b111) fun b113 =>
bif b113 then (
some false)
else (
again48 (r58.1.1, r58.1.2.1, r58.1.2.2.1, r58.1.2.2.2.1, r58.1.2.2.2.2, r74.1.1, r74.1.2, (IntKind.i64.wrap (i47 + 1)))))
else (
callG r3 default (dfa_Words (c37, c38, c40, c41, c42)) fun r268 =>
callG r3 default (scrutinyref04_Rows r268 c45) fun r277 =>
letv (r3 && r277) fun b283 =>
callG b283 default (dfa_Has (c37, c38, c40, c41, c42) w3) fun r285 =>
callG b283 default (scrutinyref09_Has (c44, c45) w3) fun r291 =>
letv (r285 == r291) fun b297 =>
letv (b283 && b297) fun b299 =>
some b299)

def scrutinylaw09_DfaTells (wide : Int) (l : (List (List Int))) (w3 : (List Int)) : Option Bool :=
(scrutinylaw09_shown).bind fun r3 =>
(scrutinyref09_Few l 40).bind fun r6 =>
letv (!r6) fun b9 =>
letv (decide (70 < (List.length w3 : Int))) fun b11 =>
letv (b9 || b11) fun b13 =>
bif b13 then (
some r3)
else (
(dfa_New wide).bind fun r16 =>
(scrutinyref09_New wide).bind fun r26 =>
bif (r16.2 != r26.2) then (
some false)
else (
bif (r26.2 != 0) then (
some r3)
else (
fixN (scrutinylaw09_DfaTells_L1 l w3 r3) FUEL (r16.1.1, r16.1.2.1, r16.1.2.2.1, r16.1.2.2.2.1, r16.1.2.2.2.2, r26.1.1, r26.1.2, 0))))

def scrutinylaw09_DfaOrder_L3 (l : (List (List Int))) (r3 : Bool) (r41 : ((Int × (List ((List (Int × Int)) × Int)) × Int × Int × (List Int)) × Int)) (l68 : (List (List Int))) (again120 : (Int × (List ((List (Int × Int)) × Int)) × Int × Int × (List Int) × Int × (List ((List (Int × Int)) × Int)) × Int × Int × (List Int) × Int) → Option Bool) : Int × (List ((List (Int × Int)) × Int)) × Int × Int × (List Int) × Int × (List ((List (Int × Int)) × Int)) × Int × Int × (List Int) × Int → Option Bool := fun ⟨c105, c106, c108, c109, c110, c112, c113, c115, c116, c117, i119⟩ =>
bif (decide (i119 < (List.length l : Int))) then (
(idx l i119).bind fun e124 =>
(dfa_Insert (c105, c106, c108, c109, c110) e124).bind fun r130 =>
(idx l68 i119).bind fun e140 =>
(dfa_Insert (c112, c113, c115, c116, c117) e140).bind fun r146 =>
letv (r130.2.2 != 0) fun b154 =>
letv (r146.2.2 != 0) fun b156 =>
letv (b154 || b156) fun b158 =>
bif b158 then (
some false)
else (
again120 (r130.1.1, r130.1.2.1, r130.1.2.2.1, r130.1.2.2.2.1, r130.1.2.2.2.2, r146.1.1, r146.1.2.1, r146.1.2.2.1, r146.1.2.2.2.1, r146.1.2.2.2.2, (IntKind.i64.wrap (i119 + 1)))))
else (
letv (r41.2 == 0) fun b232 =>
letv (r3 && b232) fun b234 =>
callG b234 default (dfa_Words (c105, c106, c108, c109, c110)) fun r236 =>
callG b234 default (dfa_Words (c112, c113, c115, c116, c117)) fun r245 =>
callG b234 default (scrutinyref04_Rows r236 r245) fun r254 =>
letv (b234 && r254) fun b260 =>
callG b260 default (dfa_Many (c105, c106, c108, c109, c110)) fun r262 =>
callG b260 default (dfa_Many (c112, c113, c115, c116, c117)) fun r268 =>
letv (r262 == r268) fun b274 =>
letv (b260 && b274) fun b276 =>
callG b276 default (dfa_Size (c105, c106, c108, c109, c110)) fun r278 =>
callG b276 default (dfa_Size (c112, c113, c115, c116, c117)) fun r284 =>
letv (r278 == r284) fun b290 =>
letv (b276 && b290) fun b292 =>
callG b292 default (dfa_Many (c105, c106, c108, c109, c110)) fun r294 =>
callG b292 default (dfa_Words (c105, c106, c108, c109, c110)) fun r300 =>
letv (r294 == (List.length r300 : Int)) fun b309 =>
letv (b292 && b309) fun b311 =>
some b311)

def scrutinylaw09_DfaOrder_L2 (l : (List (List Int))) (swaps : (List Int)) (r3 : Bool) (r41 : ((Int × (List ((List (Int × Int)) × Int)) × Int × Int × (List Int)) × Int)) (r51 : ((Int × (List ((List (Int × Int)) × Int)) × Int × Int × (List Int)) × Int)) (again70 : ((List (List Int)) × Int) → Option Bool) : (List (List Int)) × Int → Option Bool := fun ⟨l68, i69⟩ =>
bif (decide (i69 < (List.length swaps : Int))) then (
(idx swaps i69).bind fun e72 =>
chk ((List.length l68 : Int) != 0) <|
chk ((List.length l68 : Int) != 0) <|
(idx l68 (Int.tmod i69 (List.length l68 : Int))).bind fun e78 =>
(idx l68 (Int.tmod (IntKind.i64.wrap e72) (List.length l68 : Int))).bind fun e84 =>
(idx l68 (Int.tmod (IntKind.i64.wrap e72) (List.length l68 : Int))).bind fun e90 =>
(idx (List.set l68 (Int.toNat (Int.tmod (IntKind.i64.wrap e72) (List.length l68 : Int))) e78) (Int.tmod i69 (List.length l68 : Int))).bind fun e97 =>
again70 ((List.set (List.set l68 (Int.toNat (Int.tmod (IntKind.i64.wrap e72) (List.length l68 : Int))) e78) (Int.toNat (Int.tmod i69 (List.length l68 : Int))) e84), (IntKind.i64.wrap (i69 + 1))))
else (
fixN (scrutinylaw09_DfaOrder_L3 l r3 r41 l68) FUEL (r41.1.1, r41.1.2.1, r41.1.2.2.1, r41.1.2.2.2.1, r41.1.2.2.2.2, r51.1.1, r51.1.2.1, r51.1.2.2.1, r51.1.2.2.2.1, r51.1.2.2.2.2, 0))

def scrutinylaw09_DfaOrder_L1 (l : (List (List Int))) (swaps : (List Int)) (r3 : Bool) (e17 : (List Int)) (again25 : Int → Option Bool) (i24 : Int) : Option Bool :=
bif (decide (i24 < (List.length l : Int))) then (
(idx l i24).bind fun e27 =>
bif ((List.length e27 : Int) != (List.length e17 : Int)) then (
some r3)
else (
again25 (IntKind.i64.wrap (i24 + 1))))
else (
letv (decide ((List.length e17 : Int) < 1)) fun b34 =>
letv (decide (8 < (List.length e17 : Int))) fun b36 =>
letv (b34 || b36) fun b38 =>
bif b38 then (
some r3)
else (
(dfa_New (List.length e17 : Int)).bind fun r41 =>
(dfa_New (List.length e17 : Int)).bind fun r51 =>
chk (roomB (List.length ([] : List (List Int)) + List.length l) 24) <|
fixN (scrutinylaw09_DfaOrder_L2 l swaps r3 r41 r51) FUEL ((([] : List (List Int)) ++ l), 0)))

def scrutinylaw09_DfaOrder (l : (List (List Int))) (swaps : (List Int)) : Option Bool :=
(scrutinylaw09_shown).bind fun r3 =>
letv (decide ((List.length l : Int) < 1)) fun b6 =>
letv (decide (40 < (List.length l : Int))) fun b8 =>
letv (b6 || b8) fun b10 =>
letv (decide (80 < (List.length swaps : Int))) fun b12 =>
letv (b10 || b12) fun b14 =>
bif b14 then (
some r3)
else (
(idx l 0).bind fun e17 =>
fixN (scrutinylaw09_DfaOrder_L1 l swaps r3 e17) FUEL 0)

def scrutinylaw09_flag (is_ : Bool) : Option Int :=
bif is_ then (
some 1)
else (
some 0)

def scrutinylaw09_DfaOld_L1 (l : (List (List Int))) (w3 : (List Int)) (other : (List Int)) (r3 : Bool) (r21 : ((Int × (List ((List (Int × Int)) × Int)) × Int × Int × (List Int)) × Int)) (again40 : (Int × (List ((List (Int × Int)) × Int)) × Int × Int × (List Int) × Int) → Option Bool) : Int × (List ((List (Int × Int)) × Int)) × Int × Int × (List Int) × Int → Option Bool := fun ⟨c32, c33, c35, c36, c37, i39⟩ =>
bif (decide (i39 < (List.length l : Int))) then (
(idx l i39).bind fun e42 =>
bif ((List.length e42 : Int) != (List.length w3 : Int)) then (
some r3)
else (
(idx l i39).bind fun e51 =>
(dfa_Insert (c32, c33, c35, c36, c37) e51).bind fun r57 =>
bif (r57.2.2 != 0) then (
some false)
else (
again40 (r57.1.1, r57.1.2.1, r57.1.2.2.1, r57.1.2.2.2.1, r57.1.2.2.2.2, (IntKind.i64.wrap (i39 + 1))))))
else (
(dfa_Words (c32, c33, c35, c36, c37)).bind fun r77 =>
(dfa_Size (c32, c33, c35, c36, c37)).bind fun r82 =>
(dfa_Has (c32, c33, c35, c36, c37) w3).bind fun r85 =>
(dfa_Has (c32, c33, c35, c36, c37) other).bind fun r88 =>
(dfa_Insert (c32, c33, c35, c36, c37) w3).bind fun r91 =>
letv (r21.2 == 0) fun b99 =>
letv (r3 && b99) fun b101 =>
letv (r91.2.2 == 0) fun b103 =>
letv (b101 && b103) fun b105 =>
letv (!r85) fun b107 =>
letv (r91.2.1 == b107) fun b109 =>
letv (b105 && b109) fun b111 =>
callG b111 default (dfa_Words (c32, c33, c35, c36, c37)) fun r113 =>
callG b111 default (scrutinyref04_Rows r113 r77) fun r122 =>
letv (b111 && r122) fun b128 =>
callG b128 default (dfa_Size (c32, c33, c35, c36, c37)) fun r130 =>
letv (r130 == r82) fun b136 =>
letv (b128 && b136) fun b138 =>
callG b138 default (dfa_Has (c32, c33, c35, c36, c37) w3) fun r140 =>
letv (r140 == r85) fun b146 =>
letv (b138 && b146) fun b148 =>
callG b148 default (dfa_Has r91.1 w3) fun r150 =>
letv (b148 && r150) fun b156 =>
callG b156 default (dfa_Has r91.1 other) fun r158 =>
letv ((strOf other) == (strOf w3)) fun b164 =>
letv (r88 || b164) fun b166 =>
letv (r158 == b166) fun b168 =>
letv (b156 && b168) fun b170 =>
callG b170 default (dfa_Words r91.1) fun r172 =>
callG b170 default (scrutinylaw09_flag r91.2.1) fun r181 =>
letv ((List.length r172 : Int) == (IntKind.i64.wrap ((List.length r77 : Int) + r181))) fun b187 =>
letv (b170 && b187) fun b189 =>
some b189)

def scrutinylaw09_DfaOld (l : (List (List Int))) (w3 : (List Int)) (other : (List Int)) : Option Bool :=
(scrutinylaw09_shown).bind fun r3 =>
letv (decide (30 < (List.length l : Int))) fun b6 =>
letv (decide ((List.length w3 : Int) < 1)) fun b8 =>
letv (b6 || b8) fun b10 =>
letv (decide (8 < (List.length w3 : Int))) fun b12 =>
letv (b10 || b12) fun b14 =>
letv (decide (70 < (List.length other : Int))) fun b16 =>
letv (b14 || b16) fun b18 =>
bif b18 then (
some r3)
else (
(dfa_New (List.length w3 : Int)).bind fun r21 =>
fixN (scrutinylaw09_DfaOld_L1 l w3 other r3 r21) FUEL (r21.1.1, r21.1.2.1, r21.1.2.2.1, r21.1.2.2.2.1, r21.1.2.2.2.2, 0))

def scrutinylaw09_DfaAll_L4 (signs : Int) (wide : Int) (total17 : Int) (c23 : Int) (c24 : (List ((List (Int × Int)) × Int))) (c26 : Int) (c27 : Int) (c28 : (List Int)) (c30 : Int) (again31 : (Int × (List ((List (Int × Int)) × Int)) × Int × Int × (List Int) × Int) → Option Bool) (again43 : ((List Int) × Int × Int) → Option Bool) : (List Int) × Int × Int → Option Bool := fun ⟨l40, v41, j42⟩ =>
bif (decide (j42 < (IntKind.i64.wrap (1 + (Int.tmod (IntKind.i64.wrap wide) 4))))) then (
chk ((IntKind.i64.wrap (2 + (Int.tmod (IntKind.i64.wrap signs) 3))) != 0) <|
(idx l40 j42).bind fun e46 =>
chk ((IntKind.i64.wrap (2 + (Int.tmod (IntKind.i64.wrap signs) 3))) != 0) <|
again43 ((List.set l40 (Int.toNat j42) (IntKind.u8.wrap (Int.tmod v41 (IntKind.i64.wrap (2 + (Int.tmod (IntKind.i64.wrap signs) 3)))))), (IntKind.i64.wrap (Int.tdiv v41 (IntKind.i64.wrap (2 + (Int.tmod (IntKind.i64.wrap signs) 3))))), (IntKind.i64.wrap (j42 + 1))))
else (
letv (c30 == (IntKind.i64.wrap (total17 - 1))) fun b50 =>
callG b50 default (dfa_Size (c23, c24, c26, c27, c28)) fun r52 =>
letv (r52 != (IntKind.i64.wrap (2 * (IntKind.i64.wrap (1 + (Int.tmod (IntKind.i64.wrap wide) 4)))))) fun b58 =>
letv (b50 && b58) fun b60 =>
letv (decide (1 < (IntKind.i64.wrap (1 + (Int.tmod (IntKind.i64.wrap wide) 4))))) fun b62 =>
letv (b60 && b62) fun b64 =>
bif b64 then (
some false)
else (
(dfa_Insert (c23, c24, c26, c27, c28) l40).bind fun r67 =>
letv (!r67.2.1) fun b75 =>
letv (r67.2.2 != 0) fun b77 =>
letv (b75 || b77) fun b79 =>
bif b79 then (
some false)
else (
again31 (r67.1.1, r67.1.2.1, r67.1.2.2.1, r67.1.2.2.2.1, r67.1.2.2.2.2, (IntKind.i64.wrap (c30 + 1))))))

def scrutinylaw09_DfaAll_K3 (signs : Int) (wide : Int) (total17 : Int) (c23 : Int) (c24 : (List ((List (Int × Int)) × Int))) (c26 : Int) (c27 : Int) (c28 : (List Int)) (c30 : Int) (again31 : (Int × (List ((List (Int × Int)) × Int)) × Int × Int × (List Int) × Int) → Option Bool) (i34 : Int) : Option Bool :=
chk (decide (0 ≤ (IntKind.i64.wrap (1 + (Int.tmod (IntKind.i64.wrap wide) 4))))) <|
chk (roomB (Int.toNat (IntKind.i64.wrap (1 + (Int.tmod (IntKind.i64.wrap wide) 4)))) 1) <|
fixN (scrutinylaw09_DfaAll_L4 signs wide total17 c23 c24 c26 c27 c28 c30 again31) FUEL ((List.replicate (Int.toNat (IntKind.i64.wrap (1 + (Int.tmod (IntKind.i64.wrap wide) 4)))) 0), i34, 0)

def scrutinylaw09_DfaAll_L2 (signs : Int) (wide : Int) (last : Int) (r3 : Bool) (r6 : ((Int × (List ((List (Int × Int)) × Int)) × Int × Int × (List Int)) × Int)) (total17 : Int) (again31 : (Int × (List ((List (Int × Int)) × Int)) × Int × Int × (List Int) × Int) → Option Bool) : Int × (List ((List (Int × Int)) × Int)) × Int × Int × (List Int) × Int → Option Bool := fun ⟨c23, c24, c26, c27, c28, c30⟩ =>
bif (decide (c30 < total17)) then (
bif (c30 == (IntKind.i64.wrap (total17 - 1))) then (
scrutinylaw09_DfaAll_K3 signs wide total17 c23 c24 c26 c27 c28 c30 again31 (Int.tmod (IntKind.i64.wrap last) total17))
else (
bif (decide ((Int.tmod (IntKind.i64.wrap last) total17) ≤ c30)) then (
scrutinylaw09_DfaAll_K3 signs wide total17 c23 c24 c26 c27 c28 c30 again31 (IntKind.i64.wrap (c30 + 1)))
else (
scrutinylaw09_DfaAll_K3 signs wide total17 c23 c24 c26 c27 c28 c30 again31 c30)))
else (
letv (r6.2 == 0) fun b85 =>
letv (r3 && b85) fun b87 =>
callG b87 default (dfa_Size (c23, c24, c26, c27, c28)) fun r89 =>
letv (r89 == (IntKind.i64.wrap ((IntKind.i64.wrap (1 + (Int.tmod (IntKind.i64.wrap wide) 4))) + 1))) fun b95 =>
letv (b87 && b95) fun b97 =>
callG b97 default (dfa_Many (c23, c24, c26, c27, c28)) fun r99 =>
letv (r99 == total17) fun b105 =>
letv (b97 && b105) fun b107 =>
some b107)

def scrutinylaw09_DfaAll_L1 (signs : Int) (wide : Int) (last : Int) (r3 : Bool) (r6 : ((Int × (List ((List (Int × Int)) × Int)) × Int × Int × (List Int)) × Int)) (again19 : (Int × Int) → Option Bool) : Int × Int → Option Bool := fun ⟨total17, i18⟩ =>
bif (decide (i18 < (IntKind.i64.wrap (1 + (Int.tmod (IntKind.i64.wrap wide) 4))))) then (
again19 ((IntKind.i64.wrap (total17 * (IntKind.i64.wrap (2 + (Int.tmod (IntKind.i64.wrap signs) 3))))), (IntKind.i64.wrap (i18 + 1))))
else (
chk (total17 != 0) <|
fixN (scrutinylaw09_DfaAll_L2 signs wide last r3 r6 total17) FUEL (r6.1.1, r6.1.2.1, r6.1.2.2.1, r6.1.2.2.2.1, r6.1.2.2.2.2, 0))

def scrutinylaw09_DfaAll (signs : Int) (wide : Int) (last : Int) : Option Bool :=
(scrutinylaw09_shown).bind fun r3 =>
(dfa_New (IntKind.i64.wrap (1 + (Int.tmod (IntKind.i64.wrap wide) 4)))).bind fun r6 =>
fixN (scrutinylaw09_DfaAll_L1 signs wide last r3 r6) FUEL (1, 0)

def scrutinylaw09_DfaTails_L4 (a : (List (List Int))) (b : (List (List Int))) (i158 : Int) (again159 : (Int × (List ((List (Int × Int)) × Int)) × Int × Int × (List Int) × Int) → Option Bool) (again170 : (Int × (List ((List (Int × Int)) × Int)) × Int × Int × (List Int) × Int) → Option Bool) : Int × (List ((List (Int × Int)) × Int)) × Int × Int × (List Int) × Int → Option Bool := fun ⟨c162, c163, c165, c166, c167, k169⟩ =>
bif (decide (k169 < (List.length b : Int))) then (
(idx a i158).bind fun e174 =>
(idx b k169).bind fun e180 =>
chk (roomB (List.length ([] : List Int) + List.length e174) 1) <|
chk (roomB (List.length (([] : List Int) ++ e174) + List.length e180) 1) <|
(dfa_Insert (c162, c163, c165, c166, c167) ((([] : List Int) ++ e174) ++ e180)).bind fun r196 =>
bif (r196.2.2 != 0) then (
some false)
else (
again170 (r196.1.1, r196.1.2.1, r196.1.2.2.1, r196.1.2.2.2.1, r196.1.2.2.2.2, (IntKind.i64.wrap (k169 + 1)))))
else (
again159 (c162, c163, c165, c166, c167, (IntKind.i64.wrap (i158 + 1))))

def scrutinylaw09_DfaTails_L3 (a : (List (List Int))) (b : (List (List Int))) (r3 : Bool) (r64 : ((Int × (List ((List (Int × Int)) × Int)) × Int × Int × (List Int)) × Int)) (c75 : Int) (c76 : (List (List Int))) (c113 : Int) (c114 : (List (List Int))) (again159 : (Int × (List ((List (Int × Int)) × Int)) × Int × Int × (List Int) × Int) → Option Bool) : Int × (List ((List (Int × Int)) × Int)) × Int × Int × (List Int) × Int → Option Bool := fun ⟨c151, c152, c154, c155, c156, i158⟩ =>
bif (decide (i158 < (List.length a : Int))) then (
fixN (scrutinylaw09_DfaTails_L4 a b i158 again159) FUEL (c151, c152, c154, c155, c156, 0))
else (
letv (r64.2 == 0) fun b270 =>
letv (r3 && b270) fun b272 =>
callG b272 default (dfa_Many (c151, c152, c154, c155, c156)) fun r274 =>
letv (r274 == (IntKind.i64.wrap ((List.length c76 : Int) * (List.length c114 : Int)))) fun b280 =>
letv (b272 && b280) fun b282 =>
callG b282 default (dfa_Size (c151, c152, c154, c155, c156)) fun r284 =>
callG b282 default (scrutinyref09_Size (c75, c76)) fun r290 =>
callG b282 default (scrutinyref09_Size (c113, c114)) fun r296 =>
letv (r284 == (IntKind.i64.wrap ((IntKind.i64.wrap (r290 + r296)) - 1))) fun b302 =>
letv (b282 && b302) fun b304 =>
some b304)

def scrutinylaw09_DfaTails_L2 (a : (List (List Int))) (b : (List (List Int))) (r3 : Bool) (e27 : (List Int)) (r64 : ((Int × (List ((List (Int × Int)) × Int)) × Int × Int × (List Int)) × Int)) (c75 : Int) (c76 : (List (List Int))) (again117 : (Int × (List (List Int)) × Int) → Option Bool) : Int × (List (List Int)) × Int → Option Bool := fun ⟨c113, c114, i116⟩ =>
bif (decide (i116 < (List.length b : Int))) then (
(idx b i116).bind fun e119 =>
bif ((List.length e119 : Int) != (List.length e27 : Int)) then (
some r3)
else (
(idx b i116).bind fun e128 =>
(scrutinyref09_Insert (c113, c114) e128).bind fun r134 =>
again117 (r134.1.1, r134.1.2, (IntKind.i64.wrap (i116 + 1)))))
else (
fixN (scrutinylaw09_DfaTails_L3 a b r3 r64 c75 c76 c113 c114) FUEL (r64.1.1, r64.1.2.1, r64.1.2.2.1, r64.1.2.2.2.1, r64.1.2.2.2.2, 0))

def scrutinylaw09_DfaTails_L1 (a : (List (List Int))) (b : (List (List Int))) (r3 : Bool) (e21 : (List Int)) (e27 : (List Int)) (r56 : ((Int × (List (List Int))) × Int)) (r64 : ((Int × (List ((List (Int × Int)) × Int)) × Int × Int × (List Int)) × Int)) (again79 : (Int × (List (List Int)) × Int) → Option Bool) : Int × (List (List Int)) × Int → Option Bool := fun ⟨c75, c76, i78⟩ =>
bif (decide (i78 < (List.length a : Int))) then (
(idx a i78).bind fun e81 =>
bif ((List.length e81 : Int) != (List.length e21 : Int)) then (
some r3)
else (
(idx a i78).bind fun e90 =>
(scrutinyref09_Insert (c75, c76) e90).bind fun r96 =>
again79 (r96.1.1, r96.1.2, (IntKind.i64.wrap (i78 + 1)))))
else (
fixN (scrutinylaw09_DfaTails_L2 a b r3 e27 r64 c75 c76) FUEL (r56.1.1, r56.1.2, 0))

def scrutinylaw09_DfaTails (a : (List (List Int))) (b : (List (List Int))) : Option Bool :=
(scrutinylaw09_shown).bind fun r3 =>
letv (decide ((List.length a : Int) < 1)) fun b6 =>
letv (decide (8 < (List.length a : Int))) fun b8 =>
letv (b6 || b8) fun b10 =>
letv (decide ((List.length b : Int) < 1)) fun b12 =>
letv (b10 || b12) fun b14 =>
letv (decide (8 < (List.length b : Int))) fun b16 =>
letv (b14 || b16) fun b18 =>
bif b18 then (
some r3)
else (
(idx a 0).bind fun e21 =>
(idx b 0).bind fun e27 =>
letv (decide ((List.length e21 : Int) < 1)) fun b33 =>
letv (decide (4 < (List.length e21 : Int))) fun b35 =>
letv (b33 || b35) fun b37 =>
letv (decide ((List.length e27 : Int) < 1)) fun b39 =>
letv (b37 || b39) fun b41 =>
letv (decide (4 < (List.length e27 : Int))) fun b43 =>
letv (b41 || b43) fun b45 =>
bif b45 then (
some r3)
else (
(scrutinyref09_New (List.length e21 : Int)).bind fun r48 =>
(scrutinyref09_New (List.length e27 : Int)).bind fun r56 =>
(dfa_New (IntKind.i64.wrap ((List.length e21 : Int) + (List.length e27 : Int)))).bind fun r64 =>
fixN (scrutinylaw09_DfaTails_L1 a b r3 e21 e27 r56 r64) FUEL (r48.1.1, r48.1.2, 0)))

def scrutinylaw09_DfaRising_L3 (c : Int) (e13 : (List Int)) (c37 : Int) (c38 : (List ((List (Int × Int)) × Int))) (c40 : Int) (c41 : Int) (c42 : (List Int)) (r82 : (List (List Int))) (i92 : Int) (again93 : Int → Option Bool) (e144 : (List Int)) (again160 : (Bool × Int) → Option Bool) : Bool × Int → Option Bool := fun ⟨told158, k159⟩ =>
bif (decide (k159 < (List.length r82 : Int))) then (
callG (!told158) [] (idx r82 k159) fun e164 =>
letv ((strOf e164) == (strOf (List.set (([] : List Int) ++ e144) (Int.toNat (IntKind.i64.wrap ((List.length e13 : Int) - 1))) c))) fun b170 =>
letv (told158 || b170) fun b172 =>
again160 (b172, (IntKind.i64.wrap (k159 + 1))))
else (
(dfa_Has (c37, c38, c40, c41, c42) (List.set (([] : List Int) ++ e144) (Int.toNat (IntKind.i64.wrap ((List.length e13 : Int) - 1))) c)).bind fun r174 =>
bif (r174 != told158) then (
some false)
else (
again93 (IntKind.i64.wrap (i92 + 1))))

def scrutinylaw09_DfaRising_L2 (c : Int) (r3 : Bool) (e13 : (List Int)) (c37 : Int) (c38 : (List ((List (Int × Int)) × Int))) (c40 : Int) (c41 : Int) (c42 : (List Int)) (r82 : (List (List Int))) (again93 : Int → Option Bool) (i92 : Int) : Option Bool :=
bif (decide (i92 < (List.length r82 : Int))) then (
(idx r82 i92).bind fun e97 =>
letv ((List.length e97 : Int) != (List.length e13 : Int)) fun b103 =>
letv (decide (0 < i92)) fun b105 =>
callG ((!b103) && b105) [] (idx r82 i92) fun e107 =>
callG ((!b103) && b105) [] (idx r82 (IntKind.i64.wrap (i92 - 1))) fun e113 =>
letv (ltS (strOf e107) (strOf e113) || (strOf e107) == (strOf e113)) fun b119 =>
letv (b105 && b119) fun b121 =>
letv (b103 || b121) fun b123 =>
callG (!b123) [] (idx r82 i92) fun e125 =>
callG (!b123) default (dfa_Has (c37, c38, c40, c41, c42) e125) fun r131 =>
letv (!r131) fun b137 =>
letv (b123 || b137) fun b139 =>
bif b139 then (
some false)
else (
(idx r82 i92).bind fun e144 =>
chk (roomB (List.length ([] : List Int) + List.length e144) 1) <|
(idx (([] : List Int) ++ e144) (IntKind.i64.wrap ((List.length e13 : Int) - 1))).bind fun e154 =>
fixN (scrutinylaw09_DfaRising_L3 c e13 c37 c38 c40 c41 c42 r82 i92 again93 e144) FUEL (false, 0)))
else (
some r3)

def scrutinylaw09_DfaRising_L1 (l : (List (List Int))) (c : Int) (r3 : Bool) (e13 : (List Int)) (again45 : (Int × (List ((List (Int × Int)) × Int)) × Int × Int × (List Int) × Int) → Option Bool) : Int × (List ((List (Int × Int)) × Int)) × Int × Int × (List Int) × Int → Option Bool := fun ⟨c37, c38, c40, c41, c42, i44⟩ =>
bif (decide (i44 < (List.length l : Int))) then (
(idx l i44).bind fun e47 =>
bif ((List.length e47 : Int) != (List.length e13 : Int)) then (
some r3)
else (
(idx l i44).bind fun e56 =>
(dfa_Insert (c37, c38, c40, c41, c42) e56).bind fun r62 =>
bif (r62.2.2 != 0) then (
some false)
else (
again45 (r62.1.1, r62.1.2.1, r62.1.2.2.1, r62.1.2.2.2.1, r62.1.2.2.2.2, (IntKind.i64.wrap (i44 + 1))))))
else (
(dfa_Words (c37, c38, c40, c41, c42)).bind fun r82 =>
(dfa_Many (c37, c38, c40, c41, c42)).bind fun r87 =>
bif ((List.length r82 : Int) != r87) then (
some false)
else (
fixN (scrutinylaw09_DfaRising_L2 c r3 e13 c37 c38 c40 c41 c42 r82) FUEL 0))

def scrutinylaw09_DfaRising (l : (List (List Int))) (c : Int) : Option Bool :=
(scrutinylaw09_shown).bind fun r3 =>
letv (decide ((List.length l : Int) < 1)) fun b6 =>
letv (decide (40 < (List.length l : Int))) fun b8 =>
letv (b6 || b8) fun b10 =>
bif b10 then (
some r3)
else (
(idx l 0).bind fun e13 =>
letv (decide ((List.length e13 : Int) < 1)) fun b19 =>
letv (decide (8 < (List.length e13 : Int))) fun b21 =>
letv (b19 || b21) fun b23 =>
bif b23 then (
some r3)
else (
(dfa_New (List.length e13 : Int)).bind fun r26 =>
fixN (scrutinylaw09_DfaRising_L1 l c r3 e13) FUEL (r26.1.1, r26.1.2.1, r26.1.2.2.1, r26.1.2.2.2.1, r26.1.2.2.2.2, 0)))
end Go.Proofs.Ytjappdgehmjomaa
