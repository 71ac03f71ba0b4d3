/-
  Own texts for the statement ModelTells, cut down to what it needs: Den, BrgModelTells, ExprLex. (cut and joined by a program)
-/
import Derived.Test.YtdhgpnejphlfpaaGreatDoorModelTellsA
import Derived.Test.YtdhgpnejphlfpaaGreatDoorModelTellsB
import Derived.Test.YtdhgpnejphlfpaaGreatDoorModelTellsC
import Derived.Test.YtdhgpnejphlfpaaGreatDoorModelTellsD
import Derived.Test.YtdhgpnejphlfpaaGreatDoorProg
namespace Go.Proofs.YtdhgpnejphlfpaaGreatDoor
open Go.Proofs
noncomputable section
set_option maxRecDepth 100000
def X0 : Cx := ⟨Tryz.prog, [(2, (.i .i64)), (3, (.i .i64)), (4, .bo), (5, (.i .u8)), (6, (.i .u8)), (7, (.p (.i .i64) (.p (.i .i64) (.p .bo (.i .u8))))), (8, (.p (.i .i64) (.p (.i .i64) (.p .bo (.i .u8))))), (9, .s), (10, .s), (11, .s), (12, (.i .u64)), (13, (.p .s (.i .u64))), (14, (.p .s (.i .u64))), (21, (.i .i32)), (23, (.l .s)), (24, (.l (.p (.i .i64) (.i .i64)))), (25, (.l (.i .i64))), (26, (.l (.p (.i .i64) (.p .ex (.l (.p (.i .i64) .ex)))))), (27, (.p (.l .s) (.p (.l (.p (.i .i64) (.i .i64))) (.p (.l (.i .i64)) (.p (.l .s) (.l (.p (.i .i64) (.p .ex (.l (.p (.i .i64) .ex)))))))))), (28, (.p (.l .s) (.p (.l (.p (.i .i64) (.i .i64))) (.p (.l (.i .i64)) (.p (.l .s) (.l (.p (.i .i64) (.p .ex (.l (.p (.i .i64) .ex)))))))))), (29, (.i .i64)), (36, (.l .ex)), (37, (.p (.i .i64) (.p (.i .i64) (.p (.i .i64) (.l .ex))))), (38, .ex), (39, (.l (.p (.i .i64) .ex))), (40, (.p (.i .i64) (.p .ex (.l (.p (.i .i64) .ex))))), (41, (.p (.i .i64) (.p .ex (.l (.p (.i .i64) .ex))))), (42, (.p (.i .i64) (.i .i64))), (43, (.p (.i .i64) (.i .i64))), (44, (.p (.i .i64) .ex)), (45, (.p (.i .i64) .ex)), (46, (.l (.p (.i .i64) (.p .s (.p (.i .i64) (.i .i64)))))), (49, (.p (.i .i64) (.i .i64))), (50, (.p (.i .i64) (.i .i64))), (53, (.p (.l (.p (.i .i64) (.p .s (.p (.i .i64) (.i .i64))))) (.p (.i .i64) (.p (.l .s) (.p (.l (.p (.i .i64) (.i .i64))) (.p (.l (.i .i64)) (.p (.l .s) (.l (.p (.i .i64) (.p .ex (.l (.p (.i .i64) .ex)))))))))))), (54, (.p (.l (.p (.i .i64) (.p .s (.p (.i .i64) (.i .i64))))) (.p (.i .i64) (.p (.l .s) (.p (.l (.p (.i .i64) (.i .i64))) (.p (.l (.i .i64)) (.p (.l .s) (.l (.p (.i .i64) (.p .ex (.l (.p (.i .i64) .ex)))))))))))), (57, (.p (.l (.p (.i .i64) (.p .s (.p (.i .i64) (.i .i64))))) (.p (.i .i64) (.p (.p (.l .s) (.p (.l (.p (.i .i64) (.i .i64))) (.p (.l (.i .i64)) (.p (.l .s) (.l (.p (.i .i64) (.p .ex (.l (.p (.i .i64) .ex))))))))) (.p (.i .i64) (.i .i64)))))), (58, (.p (.l (.p (.i .i64) (.p .s (.p (.i .i64) (.i .i64))))) (.p (.i .i64) (.p (.p (.l .s) (.p (.l (.p (.i .i64) (.i .i64))) (.p (.l (.i .i64)) (.p (.l .s) (.l (.p (.i .i64) (.p .ex (.l (.p (.i .i64) .ex))))))))) (.p (.i .i64) (.i .i64)))))), (59, (.p (.i .i64) (.p .s (.p (.i .i64) (.i .i64))))), (60, (.p (.i .i64) (.p .s (.p (.i .i64) (.i .i64))))), (99, (.l .bo)), (102, (.p (.i .i64) (.i .i64))), (105, (.p (.l (.p (.i .i64) (.p .s (.p (.i .i64) (.i .i64))))) (.p (.i .i64) (.p (.l .s) (.p (.i .i64) (.i .i64)))))), (106, (.p (.l (.p (.i .i64) (.p .s (.p (.i .i64) (.i .i64))))) (.p (.i .i64) (.p (.l .s) (.p (.i .i64) (.i .i64)))))), (109, (.p .s (.p .s (.p .s (.p .s (.p .s (.p .s (.p .s (.p .s .s))))))))), (120, (.p (.l (.p (.i .i64) (.p .s (.p (.i .i64) (.i .i64))))) (.p (.i .i64) (.p (.l .s) (.p (.i .i64) (.p (.i .i64) (.i .i64))))))), (121, (.p (.l (.p (.i .i64) (.p .s (.p (.i .i64) (.i .i64))))) (.p (.i .i64) (.p (.l .s) (.p (.i .i64) (.p (.i .i64) (.i .i64))))))), (130, (.p .s (.p .s (.p .s (.p .s (.p .s (.p .s (.p .s (.p .s (.p .s (.p .s (.p .s (.p .s (.p .s (.p .s (.p .s (.p .s (.p .s (.p .s (.p .s (.p .s (.p .s (.p .s (.p .s (.p .s .s))))))))))))))))))))))))), (135, .un), (136, .un), (137, .un), (138, (.i .u32)), (139, (.i .u8)), (140, (.i .u8)), (143, (.i .i32)), (144, (.i .i32))], [(0, 0, ⟨.l .s, vN⟩), (1, 0, ⟨.l .s, mZ⟩)]⟩
def bX (x : Ex) : Ex := Ex.mk x.op x.n x.at_ x.l
theorem aB : bX = id := funext fun x => by cases x; rfl
def duE (R : Type) (a : Option R) : Option R := both a a
theorem aL : duE = fun _ a => a := funext fun _ => funext fun a => by unfold duE both; simp
abbrev TK0 := Q4 → Option Q3
def gF (k : TK0) : Ent := ⟨86, [(.bx 121 0 true [(.own (.p (.i .i64) (.p .s (.p (.i .i64) (.i .i64)))) 60 false), (.int .i64), (.own .s 9 false), (.int .i64), (.int .i64), (.int .i64)]), (.fn 107 [] [])], (.dat .ex [some 77]), [(true, 0, (.bx 121 0 true [.same, (.int .i64), .same, (.int .i64), (.int .i64), (.int .i64)]))], fun s => k (s.1, s.2.1, s.2.2.1, s.2.2.2.1, s.2.2.2.2.1, s.2.2.2.2.2)⟩
abbrev OK0 (k : TK0) : Prop := (gF k).Ok X0.P X0.Γ
abbrev TK1 := Q4 → Option Q3
def gD (k : TK1) : Ent := ⟨86, [(.bx 121 0 true [(.own (.p (.i .i64) (.p .s (.p (.i .i64) (.i .i64)))) 60 false), (.int .i64), (.own .s 9 false), (.int .i64), (.int .i64), (.int .i64)]), (.fn 101 [] [])], (.dat .ex [some 77]), [(true, 0, (.bx 121 0 true [.same, (.int .i64), .same, (.int .i64), (.int .i64), (.int .i64)]))], fun s => k (s.1, s.2.1, s.2.2.1, s.2.2.2.1, s.2.2.2.2.1, s.2.2.2.2.2)⟩
abbrev OK1 (k : TK1) : Prop := (gD k).Ok X0.P X0.Γ
abbrev TK2 := Q4 → Option Q3
def gr (k : TK2) : Ent := ⟨86, [(.bx 121 0 true [(.own (.p (.i .i64) (.p .s (.p (.i .i64) (.i .i64)))) 60 false), (.int .i64), (.own .s 9 false), (.int .i64), (.int .i64), (.int .i64)]), (.fn 99 [] [])], (.dat .ex [some 77]), [(true, 0, (.bx 121 0 true [.same, (.int .i64), .same, (.int .i64), (.int .i64), (.int .i64)]))], fun s => k (s.1, s.2.1, s.2.2.1, s.2.2.2.1, s.2.2.2.2.1, s.2.2.2.2.2)⟩
abbrev OK2 (k : TK2) : Prop := (gr k).Ok X0.P X0.Γ
abbrev TK3 := Q4 → Option Q3
def gE (k : TK3) : Ent := ⟨86, [(.bx 121 0 true [(.own (.p (.i .i64) (.p .s (.p (.i .i64) (.i .i64)))) 60 false), (.int .i64), (.own .s 9 false), (.int .i64), (.int .i64), (.int .i64)]), (.fn 94 [] [])], (.dat .ex [some 77]), [(true, 0, (.bx 121 0 true [.same, (.int .i64), .same, (.int .i64), (.int .i64), (.int .i64)]))], fun s => k (s.1, s.2.1, s.2.2.1, s.2.2.2.1, s.2.2.2.2.1, s.2.2.2.2.2)⟩
abbrev OK3 (k : TK3) : Prop := (gE k).Ok X0.P X0.Γ
abbrev TK4 := Q4 → Option Q3
def gC (k : TK4) : Ent := ⟨86, [(.bx 121 0 true [(.own (.p (.i .i64) (.p .s (.p (.i .i64) (.i .i64)))) 60 false), (.int .i64), (.own .s 9 false), (.int .i64), (.int .i64), (.int .i64)]), (.fn 87 [] [])], (.dat .ex [some 77]), [(true, 0, (.bx 121 0 true [.same, (.int .i64), .same, (.int .i64), (.int .i64), (.int .i64)]))], fun s => k (s.1, s.2.1, s.2.2.1, s.2.2.2.1, s.2.2.2.2.1, s.2.2.2.2.2)⟩
abbrev OK4 (k : TK4) : Prop := (gC k).Ok X0.P X0.Γ
abbrev TK5 := Ex → Option Q9
def oX (k : TK5) : Ent := ⟨78, [(.dat .ex [none])], (.tup [(.int .i64), (.int .i64), (.int .i64)]), [], fun s => k s⟩
abbrev OK5 (k : TK5) : Prop := (oX k).Ok X0.P X0.Γ
abbrev TK6 := (Ex × Ex) → Option Bool
def oH (k : TK6) : Ent := ⟨26, [(.dat .ex [none]), (.dat .ex [none])], .bool, [], fun s => k (s.1, s.2)⟩
abbrev OK6 (k : TK6) : Prop := (oH k).Ok X0.P X0.Γ
abbrev TK7 := Q13 → Option Q8
def dT (k : TK7) : Ent := ⟨73, [(.bx 106 0 true [(.own (.p (.i .i64) (.p .s (.p (.i .i64) (.i .i64)))) 60 false), (.int .i64), (.own .s 9 false), (.int .i64), (.int .i64)]), (.int .i64), (.int .i64)], (.dat .ex [some 77]), [(true, 0, (.bx 106 0 true [.same, (.int .i64), .same, (.int .i64), (.int .i64)]))], fun s => k (s.2.2.2.2.2.1, s.2.2.2.2.2.2, s.1, s.2.1, s.2.2.1, s.2.2.2.1, s.2.2.2.2.1)⟩
abbrev OK7 (k : TK7) : Prop := (dT k).Ok X0.P X0.Γ
abbrev TK8 := Ex → Option Q9
def gY (k : TK8) : Ent := ⟨62, [(.dat .ex [none])], (.tup [(.int .i64), (.int .i64), (.int .i64)]), [], fun s => k s⟩
abbrev OK8 (k : TK8) : Prop := (gY k).Ok X0.P X0.Γ
abbrev TK9 := (Ex × Ex) → Option Bool
def g9 (k : TK9) : Ent := ⟨23, [(.dat .ex [none]), (.dat .ex [none])], .bool, [], fun s => k (s.1, s.2)⟩
abbrev OK9 (k : TK9) : Prop := (g9 k).Ok X0.P X0.Γ
abbrev El := (Ex × Ex) → Option Bool
def fS (k : El) : Ent := ⟨24, [(.dat .ex [none]), (.dat .ex [none])], .bool, [], fun s => k (s.1, s.2)⟩
abbrev O0 (k : El) : Prop := (fS k).Ok X0.P X0.Γ
def Ff : Ent := ⟨33, [(.int .u8)], .bool, [], fun s => xL s⟩
theorem A5 : (Ff).Ok X0.P X0.Γ :=
 az .o Tryz.call33 Tryz.func33 ok0 ok0 ok0 fun _ => by kernel_rfl
def Ao : Ent := ⟨35, [(.int .u8)], .bool, [], fun s => qu s⟩
theorem xp : (Ao).Ok X0.P X0.Γ :=
 az .o Tryz.call35 Tryz.func35 ok0 ok0 ok0 fun _ => by kernel_rfl
def It : Ent := ⟨34, [.str, (.fn 35 [] [])], .str, [], fun s => Bk s⟩
theorem Ez : (It).Ok X0.P X0.Γ :=
 az (.l ⟨[(false, 8, (.int .i64))], []⟩ .o) Tryz.call34 Tryz.func34 (ok1 xp ok0) ok0 ok0 fun _ => by kernel_rfl
def Dy : Ent := ⟨50, [(.int .u8)], .bool, [], fun s => ra s⟩
theorem tL : (Dy).Ok X0.P X0.Γ :=
 az .o Tryz.call50 Tryz.func50 ok0 ok0 ok0 fun _ => by kernel_rfl
def Fc : Ent := ⟨52, [(.int .u8)], .bool, [], fun s => qe s⟩
theorem pD : (Fc).Ok X0.P X0.Γ :=
 az .o Tryz.call52 Tryz.func52 ok0 ok0 ok0 fun _ => by kernel_rfl
def Ek : Ent := ⟨51, [(.int .u8)], .bool, [], fun s => q6 s⟩
theorem Ae : (Ek).Ok X0.P X0.Γ :=
 az .o Tryz.call51 Tryz.func51 (ok1 tL (ok1 pD ok0)) ok0 ok0 fun _ => by kernel_rfl
def Ef : Ent := ⟨34, [.str, (.fn 51 [] [])], .str, [], fun s => wI s⟩
theorem zT : (Ef).Ok X0.P X0.Γ :=
 az (.l ⟨[(false, 8, (.int .i64))], []⟩ .o) Tryz.call34 Tryz.func34 (ok1 Ae ok0) ok0 ok0 fun _ => by kernel_rfl
def D6 : Ent := ⟨34, [.str, (.fn 52 [] [])], .str, [], fun s => wm s⟩
theorem z6 : (D6).Ok X0.P X0.Γ :=
 az (.l ⟨[(false, 8, (.int .i64))], []⟩ .o) Tryz.call34 Tryz.func34 (ok1 pD ok0) ok0 ok0 fun _ => by kernel_rfl
def ES : Ent := ⟨53, [.str], (.tup [(.int .i64), .bool]), [], fun s => xi s⟩
def pS (again9 : (Int × Str × Nat) → Option Q29) : Int × Str × Nat → Option Q29 := fun ⟨n7, s, p8⟩ =>
bif decide (p8 < List.length s) then (
bif (decide (1073741824 < (IntKind.i64.wrap ((IntKind.i64.wrap (10 * n7)) + (IntKind.i64.wrap (IntKind.i32.wrap ((mT s p8) - 48))))))) then (
some (0, false))
else (
again9 ((IntKind.i64.wrap ((IntKind.i64.wrap (10 * n7)) + (IntKind.i64.wrap (IntKind.i32.wrap ((mT s p8) - 48))))), s, (jk s p8))))
else (
some (n7, true))
theorem zc (s : Str) : ∀ (N : Nat) (n : Int) (p : Nat), aj pS N (n, s, p) = aj (o8 s) N (n, p)
 | 0, _, _ => rfl
 | N + 1, n, p => by
  rw [ar, ar]
  simp only [pS, o8, zc s N]
theorem BA : (ES).Ok X0.P X0.Γ :=
 az (.l ⟨[(false, 4, (.int .i64)), (true, 8, .it)], []⟩ .o) Tryz.call53 Tryz.func53 ok0 ok0 ok0 fun s => (show _ = aj pS al (0, s, 0) from by kernel_rfl).trans (zc s al 0 0)
def EP : Ent := ⟨63, [], (.own .s 9 true), [], fun _ => yd⟩
theorem A0 : (EP).Ok X0.P X0.Γ :=
 az .o Tryz.call63 Tryz.func63 ok0 ok0 ok0 fun _ => by kernel_rfl
def ny : Ent := ⟨74, [.str, .str], .bool, [], fun s => cL s.1 s.2⟩
theorem mC : (ny).Ok X0.P X0.Γ :=
 az .o Tryz.call74 Tryz.func74 ok0 ok0 ok0 fun _ => by kernel_rfl
def wO : Ent := ⟨64, [.str, .str], .bool, [], fun s => mH s.1 s.2⟩
theorem uq : (wO).Ok X0.P X0.Γ :=
 az .o Tryz.call64 Tryz.func64 (ok1 mC ok0) ok0 ok0 fun _ => by kernel_rfl
def Gs : Ent := ⟨54, [.str], .str, [], fun s => vI s⟩
theorem Cn : (Gs).Ok X0.P X0.Γ :=
 az (.l ⟨[(false, 7, (.int .i64))], []⟩ .o) Tryz.call54 Tryz.func54 (ok1 A0 (ok1 uq ok0)) ok0 ok0 fun _ => by kernel_rfl
def Fb : Ent := ⟨36, [.str], (.tup [(.dat (.p (.i .i64) (.p .s (.p (.i .i64) (.i .i64)))) []), (.int .i64)]), [], fun s => tU s⟩
theorem Bc : (Fb).Ok X0.P X0.Γ :=
 az .o Tryz.call36 Tryz.func36 (ok1 tL (ok1 zT (ok1 pD (ok1 z6 (ok1 BA (ok1 Cn ok0)))))) ok0 ok0 fun _ => by kernel_rfl
def D9 : Ent := ⟨10, [.str], (.tup [(.own (.p (.i .i64) (.p .s (.p (.i .i64) (.i .i64)))) 60 true), (.int .i64), (.int .i64)]), [], fun s => qZ s⟩
theorem AG : (D9).Ok X0.P X0.Γ :=
 az (.n 0 (.j ⟨[(false, 5, (.own (.p (.i .i64) (.p .s (.p (.i .i64) (.i .i64)))) 60 true)), (false, 6, (.int .i64))], []⟩ .o .o)) Tryz.call10 Tryz.func10 (ok1 A5 (ok1 Ez (ok1 Bc ok0))) ok0 ok0 fun _ => by kernel_rfl
def yI : Ent := ⟨39, [(.bx 54 0 false [(.own (.p (.i .i64) (.p .s (.p (.i .i64) (.i .i64)))) 60 false), (.int .i64), (.own .s 9 false), (.own (.p (.i .i64) (.i .i64)) 43 false), (.own (.i .i64) 3 false), (.own .s 9 false), (.own (.p (.i .i64) (.p .ex (.l (.p (.i .i64) .ex)))) 41 false)])], (.dat (.p (.i .i64) (.p .s (.p (.i .i64) (.i .i64)))) []), [], fun s => cD s.1 s.2.1 s.2.2.1 s.2.2.2.1 s.2.2.2.2.1 s.2.2.2.2.2.1 s.2.2.2.2.2.2⟩
theorem dA : (yI).Ok X0.P X0.Γ :=
 az (.r [2] .o) Tryz.call39 Tryz.func39 ok0 ok0 ok0 fun _ => by kernel_rfl
def AQ : Ent := ⟨40, [(.bx 54 0 false [(.own (.p (.i .i64) (.p .s (.p (.i .i64) (.i .i64)))) 60 false), (.int .i64), (.own .s 9 false), (.own (.p (.i .i64) (.i .i64)) 43 false), (.own (.i .i64) 3 false), (.own .s 9 false), (.own (.p (.i .i64) (.p .ex (.l (.p (.i .i64) .ex)))) 41 false)]), (.int .i64), .str], .bool, [], fun s => dY s.2.2.2.2.2.2.2.1 s.2.2.2.2.2.2.2.2 s.1 s.2.1 s.2.2.1 s.2.2.2.1 s.2.2.2.2.1 s.2.2.2.2.2.1 s.2.2.2.2.2.2.1⟩
theorem gK : (AQ).Ok X0.P X0.Γ :=
 az .o Tryz.call40 Tryz.func40 (ok1 dA ok0) ok0 ok0 fun _ => by kernel_rfl
def yH : bK := ⟨41, [(.bx 54 0 false [(.own (.p (.i .i64) (.p .s (.p (.i .i64) (.i .i64)))) 60 false), (.int .i64), (.own .s 9 false), (.own (.p (.i .i64) (.i .i64)) 43 false), (.own (.i .i64) 3 false), (.own .s 9 false), (.own (.p (.i .i64) (.p .ex (.l (.p (.i .i64) .ex)))) 41 false)]), (.int .i64)], (.ifc 50 (.agg [(.int .i64), (.int .i64)])), true, (.tup []), [], fun s => aY s.2.2.2.2.2.2.2 s.1 s.2.1 s.2.2.1 s.2.2.2.1 s.2.2.2.2.1 s.2.2.2.2.2.1 s.2.2.2.2.2.2.1⟩
theorem eo : (yH).Ok X0.P X0.Γ :=
 ug .o Tryz.call41 Tryz.func41 (ok1 dA ok0) ok0 ok0 fun _ => by kernel_rfl
def pt : Ent := ⟨79, [(.sli .s), .str], (.int .i64), [], fun s => hY s.1 s.2⟩
theorem n5 : (pt).Ok X0.P X0.Γ :=
 az (.l ⟨[(false, 8, (.int .i64))], []⟩ .o) Tryz.call79 Tryz.func79 ok0 ok0 ok0 fun _ => by kernel_rfl
def n9 : Ent := ⟨75, [(.sli .s), .str], .bool, [], fun s => dR s.1 s.2⟩
theorem mJ : (n9).Ok X0.P X0.Γ :=
 az .o Tryz.call75 Tryz.func75 (ok1 n5 ok0) ok0 ok0 fun _ => by kernel_rfl
def GN : Ent := ⟨65, [.str], .bool, [], fun s => nn s⟩
theorem qz : (GN).Ok X0.P X0.Γ :=
 az .o Tryz.call65 Tryz.func65 (ok1 mJ ok0) ok0 ok0 fun _ => by kernel_rfl
def n6 : Ent := ⟨79, [(.own .s 9 false), .str], (.int .i64), [], fun s => aS s.1 s.2⟩
theorem eA : (n6).Ok X0.P X0.Γ :=
 az (.l ⟨[(false, 8, (.int .i64))], []⟩ .o) Tryz.call79 Tryz.func79 ok0 ok0 ok0 fun _ => by kernel_rfl
def mN : Ent := ⟨75, [(.own .s 9 false), .str], .bool, [], fun s => cF s.1 s.2⟩
theorem lI : (mN).Ok X0.P X0.Γ :=
 az .o Tryz.call75 Tryz.func75 (ok1 eA ok0) ok0 ok0 fun _ => by kernel_rfl
def xz : Ent := ⟨66, [(.bx 54 0 false [(.own (.p (.i .i64) (.p .s (.p (.i .i64) (.i .i64)))) 60 false), (.int .i64), (.own .s 9 false), (.own (.p (.i .i64) (.i .i64)) 43 false), (.own (.i .i64) 3 false), (.own .s 9 false), (.own (.p (.i .i64) (.p .ex (.l (.p (.i .i64) .ex)))) 41 false)]), .str], .bool, [], fun s => kC s.2.2.2.2.2.2.2 s.1 s.2.1 s.2.2.1 s.2.2.2.1 s.2.2.2.2.1 s.2.2.2.2.2.1 s.2.2.2.2.2.2.1⟩
theorem vd : (xz).Ok X0.P X0.Γ :=
 az .o Tryz.call66 Tryz.func66 (ok1 lI ok0) ok0 ok0 fun _ => by kernel_rfl
def yR : bK := ⟨55, [(.bx 54 0 true [(.own (.p (.i .i64) (.p .s (.p (.i .i64) (.i .i64)))) 60 false), (.int .i64), (.own .s 9 false), (.own (.p (.i .i64) (.i .i64)) 43 false), (.own (.i .i64) 3 false), (.own .s 9 false), (.own (.p (.i .i64) (.p .ex (.l (.p (.i .i64) .ex)))) 41 false)]), .bool], (.ifc 50 (.agg [(.int .i64), (.int .i64)])), false, .str, [(true, 0, (.bx 54 0 true [.same, (.int .i64), .same, .same, .same, .same, .same]))], fun s => fy s.2.2.2.2.2.2.2 s.1 s.2.1 s.2.2.1 s.2.2.2.1 s.2.2.2.2.1 s.2.2.2.2.2.1 s.2.2.2.2.2.2.1⟩
theorem oY : (yR).Ok X0.P X0.Γ :=
 ug (.s (.s (.j ⟨[], []⟩ .o .o))) Tryz.call55 Tryz.func55 (ok1 dA (ok1 qz (ok1 vd ok0))) (ok1 eo ok0) ok0 fun _ => by kernel_rfl
def wW : bK := ⟨56, [(.bx 54 0 true [(.own (.p (.i .i64) (.p .s (.p (.i .i64) (.i .i64)))) 60 false), (.int .i64), (.own .s 9 false), (.own (.p (.i .i64) (.i .i64)) 43 false), (.own (.i .i64) 3 false), (.own .s 9 false), (.own (.p (.i .i64) (.p .ex (.l (.p (.i .i64) .ex)))) 41 false)])], (.ifc 50 (.agg [(.int .i64), (.int .i64)])), false, (.int .i64), [(true, 0, (.bx 54 0 true [.same, (.int .i64), .same, .same, .same, .same, .same]))], fun s => cY s.1 s.2.1 s.2.2.1 s.2.2.2.1 s.2.2.2.2.1 s.2.2.2.2.2.1 s.2.2.2.2.2.2⟩
theorem uy : (wW).Ok X0.P X0.Γ :=
 ug (.s (.s (.j ⟨[(true, 0, (.bx 54 0 true [.same, (.int .i64), .same, .same, .same, .same, .same]))], []⟩ .o (.s (.j ⟨[], []⟩ .o .o))))) Tryz.call56 Tryz.func56 (ok1 gK (ok1 dA ok0)) (ok1 eo ok0) ok0 fun _ => by kernel_rfl
def yL : bK := ⟨57, [(.bx 54 0 true [(.own (.p (.i .i64) (.p .s (.p (.i .i64) (.i .i64)))) 60 false), (.int .i64), (.own .s 9 false), (.own (.p (.i .i64) (.i .i64)) 43 false), (.own (.i .i64) 3 false), (.own .s 9 false), (.own (.p (.i .i64) (.p .ex (.l (.p (.i .i64) .ex)))) 41 false)]), .str], (.ifc 50 (.agg [(.int .i64), (.int .i64)])), false, (.tup []), [(true, 0, (.bx 54 0 true [.same, (.int .i64), .same, .same, .same, .same, .same]))], fun s => bm s.2.2.2.2.2.2.2 s.1 s.2.1 s.2.2.1 s.2.2.2.1 s.2.2.2.2.1 s.2.2.2.2.2.1 s.2.2.2.2.2.2.1⟩
theorem iz : (yL).Ok X0.P X0.Γ :=
 ug (.j ⟨[], []⟩ .o .o) Tryz.call57 Tryz.func57 (ok1 gK ok0) (ok1 eo ok0) ok0 fun _ => by kernel_rfl
def yJ : Ent := ⟨69, [(.dat (.p (.i .i64) (.i .i64)) [])], .bool, [], fun s => lA s⟩
theorem vp : (yJ).Ok X0.P X0.Γ :=
 az .o Tryz.call69 Tryz.func69 ok0 ok0 ok0 fun _ => by kernel_rfl
def uS : Ent := ⟨68, [(.own (.p (.i .i64) (.i .i64)) 43 false), (.fn 69 [] [])], (.own .bo 4 true), [], fun s => lr s⟩
theorem sx : (uS).Ok X0.P X0.Γ :=
 az (.l ⟨[(true, 5, (.own .bo 4 true)), (false, 13, (.int .i64))], []⟩ .o) Tryz.call68 Tryz.func68 (ok1 vp ok0) ok0 ok0 fun _ => by kernel_rfl
def rY : Ent := ⟨76, [(.sli .bo), .bool], (.int .i64), [], fun s => jy s.1 s.2⟩
theorem qo : (rY).Ok X0.P X0.Γ :=
 az (.l ⟨[(false, 8, (.int .i64))], []⟩ .o) Tryz.call76 Tryz.func76 ok0 ok0 ok0 fun _ => by kernel_rfl
def pY : Ent := ⟨67, [(.sli .bo), .bool], .bool, [], fun s => iy s.1 s.2⟩
theorem oz : (pY).Ok X0.P X0.Γ :=
 az .o Tryz.call67 Tryz.func67 (ok1 qo ok0) ok0 ok0 fun _ => by kernel_rfl
def yK : Ent := ⟨58, [(.own (.p (.i .i64) (.i .i64)) 43 false)], .bool, [], fun s => lC s⟩
theorem we : (yK).Ok X0.P X0.Γ :=
 az .o Tryz.call58 Tryz.func58 (ok1 sx (ok1 oz ok0)) ok0 ok0 fun _ => by kernel_rfl
def yO : Ent := ⟨70, [(.dat (.p (.i .i64) (.i .i64)) []), (.int .i64)], .bool, [], fun s => oM s.1 s.2⟩
theorem wy : (yO).Ok X0.P X0.Γ :=
 az .o Tryz.call70 Tryz.func70 ok0 ok0 ok0 fun _ => by kernel_rfl
def Br : Ent := ⟨59, [(.own (.p (.i .i64) (.i .i64)) 43 false), (.sli (.i .i64))], (.int .i64), [], fun s => oQ s.1 s.2⟩
theorem yM : (Br).Ok X0.P X0.Γ :=
 az (.c .o (.l ⟨[(false, 14, (.int .i64))], []⟩ .o)) Tryz.call59 Tryz.func59 (ok1 wy ok0) ok0 ok0 fun _ => by kernel_rfl
def uH : bK := ⟨37, [(.bx 54 0 true [(.own (.p (.i .i64) (.p .s (.p (.i .i64) (.i .i64)))) 60 false), (.int .i64), (.own .s 9 true), (.own (.p (.i .i64) (.i .i64)) 43 true), (.own (.i .i64) 3 true), (.own .s 9 false), (.own (.p (.i .i64) (.p .ex (.l (.p (.i .i64) .ex)))) 41 false)])], (.ifc 50 (.agg [(.int .i64), (.int .i64)])), false, (.tup []), [(true, 0, (.bx 54 0 true [.same, (.int .i64), (.own .s 9 true), (.own (.p (.i .i64) (.i .i64)) 43 true), (.own (.i .i64) 3 true), .same, .same]))], fun s => fW s.1 s.2.1 s.2.2.1 s.2.2.2.1 s.2.2.2.2.1 s.2.2.2.2.2.1 s.2.2.2.2.2.2⟩
theorem su : (uH).Ok X0.P X0.Γ :=
 ug (.s (.s (.s (.s (.s (.j ⟨[], []⟩ .o (.r [0] .o))))))) Tryz.call37 Tryz.func37 (ok1 dA (ok1 we (ok1 yM ok0))) (ok1 oY (ok1 uy (ok1 iz ok0))) ok0 fun _ => by kernel_rfl
def wP : Ent := ⟨89, [(.bx 121 0 true [(.own (.p (.i .i64) (.p .s (.p (.i .i64) (.i .i64)))) 60 false), (.int .i64), (.own .s 9 false), (.int .i64), (.int .i64), (.int .i64)]), (.int .i64)], (.dat .ex [some 77]), [(true, 0, (.bx 121 0 true [.same, .same, .same, .same, (.int .i64), (.int .i64)]))], fun s => aD s.2.2.2.2.2.2 s.1 s.2.1 s.2.2.1 s.2.2.2.1 s.2.2.2.2.1 s.2.2.2.2.2.1⟩
theorem dD : (wP).Ok X0.P X0.Γ :=
 az (.c (.r [0] .o) .o) Tryz.call89 Tryz.func89 ok0 ok0 ok0 fun _ => by kernel_rfl
def wT : Ent := ⟨93, [(.bx 121 0 false [(.own (.p (.i .i64) (.p .s (.p (.i .i64) (.i .i64)))) 60 false), (.int .i64), (.own .s 9 false), (.int .i64), (.int .i64), (.int .i64)])], (.dat (.p (.i .i64) (.p .s (.p (.i .i64) (.i .i64)))) []), [], fun s => au s.1 s.2.1 s.2.2.1 s.2.2.2.1 s.2.2.2.2.1 s.2.2.2.2.2⟩
theorem aV : (wT).Ok X0.P X0.Γ :=
 az (.r [2] .o) Tryz.call93 Tryz.func93 ok0 ok0 ok0 fun _ => by kernel_rfl
def yQ : Ent := ⟨92, [(.bx 121 0 false [(.own (.p (.i .i64) (.p .s (.p (.i .i64) (.i .i64)))) 60 false), (.int .i64), (.own .s 9 false), (.int .i64), (.int .i64), (.int .i64)]), (.sli (.i .i64))], (.tup [(.int .i64), .bool]), [], fun s => ay s.2.2.2.2.2.2 s.1 s.2.1 s.2.2.1 s.2.2.2.1 s.2.2.2.2.1 s.2.2.2.2.2.1⟩
theorem bC : (yQ).Ok X0.P X0.Γ :=
 az (.c .o (.l ⟨[(false, 27, (.int .i64))], []⟩ .o)) Tryz.call92 Tryz.func92 (ok1 aV (ok1 qz ok0)) ok0 ok0 fun _ => by kernel_rfl
def xF (k4 : TK4) : Ent := ⟨108, [(.bx 121 0 true [(.own (.p (.i .i64) (.p .s (.p (.i .i64) (.i .i64)))) 60 false), (.int .i64), (.own .s 9 false), (.int .i64), (.int .i64), (.int .i64)])], (.dat .ex [some 77]), [(true, 0, (.bx 121 0 true [.same, (.int .i64), .same, (.int .i64), (.int .i64), (.int .i64)]))], fun s => eS k4 s.1 s.2.1 s.2.2.1 s.2.2.2.1 s.2.2.2.2.1 s.2.2.2.2.2⟩
def l8 (eta : Ex → Ex) (_du : (R : Type) → Option R → Option R) (aa : Q4 → Option Q3) (l : Q1) (at_ : Int) (names : Q6) (deep : Int) (bad : Int) (place : Int) : Option Q3 :=
bif (bad != 0) then (
some ((Ex.mk 0 0 0 []), at_, deep, bad, place))
else (
(au l at_ names deep bad place).bind fun r13 =>
(ay ([13, 14] : List Int) l at_ names deep bad place).bind fun r21 =>
bif r21.2 then (
some ((Ex.mk r21.1 0 r13.2.2.2 []), (IntKind.i64.wrap (at_ + 1)), deep, bad, place))
else (
bif (r13.1 == 2) then (
some ((Ex.mk 1 r13.2.2.1 r13.2.2.2 []), (IntKind.i64.wrap (at_ + 1)), deep, bad, place))
else (
ab (r13.1 == 1) fun b30 =>
ax b30 default (nn r13.2.1) fun r32 =>
ab (!r32) fun b38 =>
ab (b30 && b38) fun b40 =>
bif b40 then (
(aS names r13.2.1).bind fun r45 =>
bif (decide (r45 < 0)) then (
(aD 3 l at_ names deep bad place).bind fun r49 =>
some ((eta r49.1), at_, deep, r49.2.1, r49.2.2))
else (
some ((Ex.mk 2 r45 r13.2.2.2 []), (IntKind.i64.wrap (at_ + 1)), deep, bad, place)))
else (
ab (r13.1 == 3) fun b57 =>
ab (r13.2.1 == [40]) fun b59 =>
ab (b57 && b59) fun b61 =>
bif b61 then (
(aa (l, (IntKind.i64.wrap (at_ + 1)), names, deep, bad, place)).bind fun r65 =>
ab (r65.2.2.2.1 == 0) fun b73 =>
ax b73 default (au l r65.2.1 names r65.2.2.1 r65.2.2.2.1 r65.2.2.2.2) fun r75 =>
ab (r75.1 != 3) fun b81 =>
ax (b73 && !b81) default (au l r65.2.1 names r65.2.2.1 r65.2.2.2.1 r65.2.2.2.2) fun r83 =>
ab (r83.2.1 != [41]) fun b89 =>
ab (b81 || b89) fun b91 =>
ab (b73 && b91) fun b93 =>
bif b93 then (
(aD 2 l r65.2.1 names r65.2.2.1 r65.2.2.2.1 r65.2.2.2.2).bind fun r96 =>
some ((eta r96.1), r65.2.1, r65.2.2.1, r96.2.1, r96.2.2))
else (
bif (r65.2.2.2.1 == 0) then (
some ((eta r65.1), (IntKind.i64.wrap (r65.2.1 + 1)), r65.2.2.1, r65.2.2.2.1, r65.2.2.2.2))
else (
some ((eta r65.1), r65.2.1, r65.2.2.1, r65.2.2.2.1, r65.2.2.2.2))))
else (
(aD 2 l at_ names deep bad place).bind fun r106 =>
some ((eta r106.1), at_, deep, r106.2.1, r106.2.2))))))
theorem u3 (k4 : TK4) (i4 : OK4 k4) : (xF k4).Ok X0.P X0.Γ :=
 az (.c .o (.c .o (.c .o (.c (.r [0] .o) .o)))) Tryz.call108 Tryz.func108 (ok1 aV (ok1 bC (ok1 qz (ok1 eA (ok1 dD (ok1 i4 ok0)))))) ok0 ok0 fun s => (show _ = l8 bX duE k4 s.1 s.2.1 s.2.2.1 s.2.2.2.1 s.2.2.2.2.1 s.2.2.2.2.2 from by kernel_rfl).trans ((congrArg (fun eta => l8 eta duE k4 s.1 s.2.1 s.2.2.1 s.2.2.2.1 s.2.2.2.2.1 s.2.2.2.2.2) aB).trans ((congrArg (fun du => l8 id du k4 s.1 s.2.1 s.2.2.1 s.2.2.2.1 s.2.2.2.2.1 s.2.2.2.2.2) aL).trans (by kernel_rfl)))
def uU (k4 : TK4) (k0 : TK0) : Ent := ⟨102, [(.bx 121 0 true [(.own (.p (.i .i64) (.p .s (.p (.i .i64) (.i .i64)))) 60 false), (.int .i64), (.own .s 9 false), (.int .i64), (.int .i64), (.int .i64)]), (.fn 107 [] []), (.fn 108 [] []), (.sli (.i .i64))], (.dat .ex [some 77]), [(true, 0, (.bx 121 0 true [.same, (.int .i64), .same, (.int .i64), (.int .i64), (.int .i64)]))], fun s => ln k4 k0 s.2.2.2.2.2.2 s.1 s.2.1 s.2.2.1 s.2.2.2.1 s.2.2.2.2.1 s.2.2.2.2.2.1⟩
def kl (eta : Ex → Ex) (_du : (R : Type) → Option R → Option R) (aa : Q4 → Option Q3) (bn : Q4 → Option Q3) (ops : Q11) (l : Q1) (at_ : Int) (names : Q6) (deep : Int) (bad : Int) (place : Int) : Option Q3 :=
(ay ops l at_ names deep bad place).bind fun r11 =>
bif (!r11.2) then (
(eS aa l at_ names deep bad place).bind fun r15 =>
some ((eta r15.1), r15.2.1, r15.2.2.1, r15.2.2.2.1, r15.2.2.2.2))
else (
(au l at_ names deep bad place).bind fun r21 =>
(bn (l, (IntKind.i64.wrap (at_ + 1)), names, deep, bad, place)).bind fun r30 =>
some ((Ex.mk r11.1 0 r21.2.2.2 ([(eta r30.1)] : List Ex)), r30.2.1, r30.2.2.1, r30.2.2.2.1, r30.2.2.2.2))
theorem se (k4 : TK4) (i4 : OK4 k4) (k0 : TK0) (i0 : OK0 k0) : (uU k4 k0).Ok X0.P X0.Γ :=
 az (.c .o (.r [0, 8] .o)) Tryz.call102 Tryz.func102 (ok1 bC (ok1 (u3 k4 i4) (ok1 aV (ok1 i0 ok0)))) ok0 ok0 fun s => (show _ = kl bX duE k4 k0 s.2.2.2.2.2.2 s.1 s.2.1 s.2.2.1 s.2.2.2.1 s.2.2.2.2.1 s.2.2.2.2.2.1 from by kernel_rfl).trans ((congrArg (fun eta => kl eta duE k4 k0 s.2.2.2.2.2.2 s.1 s.2.1 s.2.2.1 s.2.2.2.1 s.2.2.2.2.1 s.2.2.2.2.2.1) aB).trans ((congrArg (fun du => kl id du k4 k0 s.2.2.2.2.2.2 s.1 s.2.1 s.2.2.1 s.2.2.2.1 s.2.2.2.2.1 s.2.2.2.2.2.1) aL).trans (by kernel_rfl)))
def xt (k4 : TK4) (k0 : TK0) : Ent := ⟨107, [(.bx 121 0 true [(.own (.p (.i .i64) (.p .s (.p (.i .i64) (.i .i64)))) 60 false), (.int .i64), (.own .s 9 false), (.int .i64), (.int .i64), (.int .i64)])], (.dat .ex [some 77]), [(true, 0, (.bx 121 0 true [.same, (.int .i64), .same, (.int .i64), (.int .i64), (.int .i64)]))], fun s => eW k4 k0 s.1 s.2.1 s.2.2.1 s.2.2.2.1 s.2.2.2.2.1 s.2.2.2.2.2⟩
def mw (eta : Ex → Ex) (_du : (R : Type) → Option R → Option R) (aa : Q4 → Option Q3) (bn : Q4 → Option Q3) (l : Q1) (at_ : Int) (names : Q6) (deep : Int) (bad : Int) (place : Int) : Option Q3 :=
(ln aa bn ([6] : List Int) l at_ names deep bad place).bind fun r13 =>
some ((eta r13.1), r13.2.1, r13.2.2.1, r13.2.2.2.1, r13.2.2.2.2)
theorem vf (k4 : TK4) (i4 : OK4 k4) (k0 : TK0) (i0 : OK0 k0) : (xt k4 k0).Ok X0.P X0.Γ :=
 az .o Tryz.call107 Tryz.func107 (ok1 (se k4 i4 k0 i0) ok0) ok0 ok0 fun s => (show _ = mw bX duE k4 k0 s.1 s.2.1 s.2.2.1 s.2.2.2.1 s.2.2.2.2.1 s.2.2.2.2.2 from by kernel_rfl).trans ((congrArg (fun eta => mw eta duE k4 k0 s.1 s.2.1 s.2.2.1 s.2.2.2.1 s.2.2.2.2.1 s.2.2.2.2.2) aB).trans ((congrArg (fun du => mw id du k4 k0 s.1 s.2.1 s.2.2.1 s.2.2.2.1 s.2.2.2.2.1 s.2.2.2.2.2) aL).trans (by kernel_rfl)))
def nH (k4 : TK4) : Ent := ⟨86, [(.bx 121 0 true [(.own (.p (.i .i64) (.p .s (.p (.i .i64) (.i .i64)))) 60 false), (.int .i64), (.own .s 9 false), (.int .i64), (.int .i64), (.int .i64)]), (.fn 107 [] [])], (.dat .ex [some 77]), [(true, 0, (.bx 121 0 true [.same, (.int .i64), .same, (.int .i64), (.int .i64), (.int .i64)]))], fun s => lu k4 s.1 s.2.1 s.2.2.1 s.2.2.2.1 s.2.2.2.2.1 s.2.2.2.2.2⟩
def iT (eta : Ex → Ex) (_du : (R : Type) → Option R → Option R) (aa : Q4 → Option Q3) (bn : Q4 → Option Q3) (l : Q1) (at_ : Int) (names : Q6) (deep : Int) (bad : Int) (place : Int) : Option Q3 :=
bif (decide (320 ≤ deep)) then (
(aD 9 l at_ names deep bad place).bind fun r12 =>
some ((eta r12.1), at_, deep, r12.2.1, r12.2.2))
else (
(eW aa bn l at_ names (IntKind.i64.wrap (deep + 1)) bad place).bind fun r19 =>
some ((eta r19.1), r19.2.1, (IntKind.i64.wrap (r19.2.2.1 - 1)), r19.2.2.2.1, r19.2.2.2.2))
def nI (k4 : TK4) : TK0 → TK0 := fun k0 s => kb k4 k0 s.1 s.2.1 s.2.2.1 s.2.2.2.1 s.2.2.2.2.1 s.2.2.2.2.2
theorem qF (k4 : TK4) (i4 : OK4 k4) (k0 : TK0) (i0 : OK0 k0) : (gF (nI k4 k0)).Ok X0.P X0.Γ :=
 az .o Tryz.call86 Tryz.func86 (ok1 dD (ok1 (vf k4 i4 k0 i0) ok0)) ok0 ok0 fun s => (show _ = iT bX duE k4 k0 s.1 s.2.1 s.2.2.1 s.2.2.2.1 s.2.2.2.2.1 s.2.2.2.2.2 from by kernel_rfl).trans ((congrArg (fun eta => iT eta duE k4 k0 s.1 s.2.1 s.2.2.1 s.2.2.2.1 s.2.2.2.2.1 s.2.2.2.2.2) aB).trans ((congrArg (fun du => iT id du k4 k0 s.1 s.2.1 s.2.2.1 s.2.2.2.1 s.2.2.2.2.1 s.2.2.2.2.2) aL).trans (by kernel_rfl)))
theorem rV (k4 : TK4) (i4 : OK4 k4) : (nH k4).Ok X0.P X0.Γ := (show nH k4 = gF (aj (nI k4) al) by kernel_rfl) ▸ jg (X := X0) (E := gF) ⟨Tryz.call86, fun _ _ h => nomatch h⟩ (qF k4 i4) al
def uD (k4 : TK4) : Ent := ⟨106, [(.bx 121 0 true [(.own (.p (.i .i64) (.p .s (.p (.i .i64) (.i .i64)))) 60 false), (.int .i64), (.own .s 9 false), (.int .i64), (.int .i64), (.int .i64)])], (.dat .ex [some 77]), [(true, 0, (.bx 121 0 true [.same, (.int .i64), .same, (.int .i64), (.int .i64), (.int .i64)]))], fun s => bT k4 s.1 s.2.1 s.2.2.1 s.2.2.2.1 s.2.2.2.2.1 s.2.2.2.2.2⟩
def jE (eta : Ex → Ex) (_du : (R : Type) → Option R → Option R) (aa : Q4 → Option Q3) (l : Q1) (at_ : Int) (names : Q6) (deep : Int) (bad : Int) (place : Int) : Option Q3 :=
(lu aa l at_ names deep bad place).bind fun r11 =>
some ((eta r11.1), r11.2.1, r11.2.2.1, r11.2.2.2.1, r11.2.2.2.2)
theorem qQ (k4 : TK4) (i4 : OK4 k4) : (uD k4).Ok X0.P X0.Γ :=
 az .o Tryz.call106 Tryz.func106 (ok1 (rV k4 i4) ok0) ok0 ok0 fun s => (show _ = jE bX duE k4 s.1 s.2.1 s.2.2.1 s.2.2.2.1 s.2.2.2.2.1 s.2.2.2.2.2 from by kernel_rfl).trans ((congrArg (fun eta => jE eta duE k4 s.1 s.2.1 s.2.2.1 s.2.2.2.1 s.2.2.2.2.1 s.2.2.2.2.2) aB).trans ((congrArg (fun du => jE id du k4 s.1 s.2.1 s.2.2.1 s.2.2.2.1 s.2.2.2.2.1 s.2.2.2.2.2) aL).trans (by kernel_rfl)))
def wg (k4 : TK4) : Ent := ⟨96, [(.bx 121 0 true [(.own (.p (.i .i64) (.p .s (.p (.i .i64) (.i .i64)))) 60 false), (.int .i64), (.own .s 9 false), (.int .i64), (.int .i64), (.int .i64)]), (.fn 106 [] []), (.sli (.i .i64))], (.dat .ex [some 77]), [(true, 0, (.bx 121 0 true [.same, (.int .i64), .same, (.int .i64), (.int .i64), (.int .i64)]))], fun s => lM k4 s.2.2.2.2.2.2 s.1 s.2.1 s.2.2.1 s.2.2.2.1 s.2.2.2.2.1 s.2.2.2.2.2.1⟩
def tI (eta : Ex → Ex) (_du : (R : Type) → Option R → Option R) (aa : Q4 → Option Q3) (ops : Q11) (l : Q1) (names : Q6) (again30 : Q16 → Option Q3) : Int × Int × Int × Int × Int × Int × Int × (List Ex) → Option Q3 := fun ⟨c20, c21, c22, c23, c24, c25, c26, c27⟩ =>
bif (c22 == 0) then (
(ay ops l c20 names c21 c22 c23).bind fun r32 =>
bif (!r32.2) then (
some ((Ex.mk c24 c25 c26 c27), c20, c21, c22, c23))
else (
(au l c20 names c21 c22 c23).bind fun r37 =>
(bT aa l (IntKind.i64.wrap (c20 + 1)) names c21 c22 c23).bind fun r44 =>
again30 (r44.2.1, r44.2.2.1, r44.2.2.2.1, r44.2.2.2.2, r32.1, 0, r37.2.2.2, ([(Ex.mk c24 c25 c26 c27), (eta r44.1)] : List Ex))))
else (
some ((Ex.mk c24 c25 c26 c27), c20, c21, c22, c23))
def kJ (eta : Ex → Ex) (du : (R : Type) → Option R → Option R) (aa : Q4 → Option Q3) (ops : Q11) (l : Q1) (at_ : Int) (names : Q6) (deep : Int) (bad : Int) (place : Int) : Option Q3 :=
(bT aa l at_ names deep bad place).bind fun r11 =>
aj (tI eta du aa ops l names) al (r11.2.1, r11.2.2.1, r11.2.2.2.1, r11.2.2.2.2, r11.1.op, r11.1.n, r11.1.at_, r11.1.l)
theorem tl (k4 : TK4) (i4 : OK4 k4) : (wg k4).Ok X0.P X0.Γ :=
 az (.l ⟨[(true, 0, (.bx 121 0 true [.same, (.int .i64), .same, (.int .i64), (.int .i64), (.int .i64)])), (true, 6, (.bx 38 0 true [.same, .same, .same, .same])), (true, 7, (.bx 38 0 true [(.int .i64), (.int .i64), (.int .i64), (.own .ex 38 true)]))], []⟩ .o) Tryz.call96 Tryz.func96 (ok1 (qQ k4 i4) (ok1 bC (ok1 aV ok0))) ok0 ok0 fun s => (show _ = kJ bX duE k4 s.2.2.2.2.2.2 s.1 s.2.1 s.2.2.1 s.2.2.2.1 s.2.2.2.2.1 s.2.2.2.2.2.1 from by kernel_rfl).trans ((congrArg (fun eta => kJ eta duE k4 s.2.2.2.2.2.2 s.1 s.2.1 s.2.2.1 s.2.2.2.1 s.2.2.2.2.1 s.2.2.2.2.2.1) aB).trans ((congrArg (fun du => kJ id du k4 s.2.2.2.2.2.2 s.1 s.2.1 s.2.2.1 s.2.2.2.1 s.2.2.2.2.1 s.2.2.2.2.2.1) aL).trans (by kernel_rfl)))
def wQ (k4 : TK4) : Ent := ⟨105, [(.bx 121 0 true [(.own (.p (.i .i64) (.p .s (.p (.i .i64) (.i .i64)))) 60 false), (.int .i64), (.own .s 9 false), (.int .i64), (.int .i64), (.int .i64)])], (.dat .ex [some 77]), [(true, 0, (.bx 121 0 true [.same, (.int .i64), .same, (.int .i64), (.int .i64), (.int .i64)]))], fun s => cg k4 s.1 s.2.1 s.2.2.1 s.2.2.2.1 s.2.2.2.2.1 s.2.2.2.2.2⟩
def lx (eta : Ex → Ex) (_du : (R : Type) → Option R → Option R) (aa : Q4 → Option Q3) (l : Q1) (at_ : Int) (names : Q6) (deep : Int) (bad : Int) (place : Int) : Option Q3 :=
(lM aa ([5] : List Int) l at_ names deep bad place).bind fun r13 =>
some ((eta r13.1), r13.2.1, r13.2.2.1, r13.2.2.2.1, r13.2.2.2.2)
theorem uu (k4 : TK4) (i4 : OK4 k4) : (wQ k4).Ok X0.P X0.Γ :=
 az .o Tryz.call105 Tryz.func105 (ok1 (tl k4 i4) ok0) ok0 ok0 fun s => (show _ = lx bX duE k4 s.1 s.2.1 s.2.2.1 s.2.2.2.1 s.2.2.2.2.1 s.2.2.2.2.2 from by kernel_rfl).trans ((congrArg (fun eta => lx eta duE k4 s.1 s.2.1 s.2.2.1 s.2.2.2.1 s.2.2.2.2.1 s.2.2.2.2.2) aB).trans ((congrArg (fun du => lx id du k4 s.1 s.2.1 s.2.2.1 s.2.2.2.1 s.2.2.2.2.1 s.2.2.2.2.2) aL).trans (by kernel_rfl)))
def vJ (k4 : TK4) : Ent := ⟨96, [(.bx 121 0 true [(.own (.p (.i .i64) (.p .s (.p (.i .i64) (.i .i64)))) 60 false), (.int .i64), (.own .s 9 false), (.int .i64), (.int .i64), (.int .i64)]), (.fn 105 [] []), (.sli (.i .i64))], (.dat .ex [some 77]), [(true, 0, (.bx 121 0 true [.same, (.int .i64), .same, (.int .i64), (.int .i64), (.int .i64)]))], fun s => lR k4 s.2.2.2.2.2.2 s.1 s.2.1 s.2.2.1 s.2.2.2.1 s.2.2.2.2.1 s.2.2.2.2.2.1⟩
def ta (eta : Ex → Ex) (_du : (R : Type) → Option R → Option R) (aa : Q4 → Option Q3) (ops : Q11) (l : Q1) (names : Q6) (again30 : Q16 → Option Q3) : Int × Int × Int × Int × Int × Int × Int × (List Ex) → Option Q3 := fun ⟨c20, c21, c22, c23, c24, c25, c26, c27⟩ =>
bif (c22 == 0) then (
(ay ops l c20 names c21 c22 c23).bind fun r32 =>
bif (!r32.2) then (
some ((Ex.mk c24 c25 c26 c27), c20, c21, c22, c23))
else (
(au l c20 names c21 c22 c23).bind fun r37 =>
(cg aa l (IntKind.i64.wrap (c20 + 1)) names c21 c22 c23).bind fun r44 =>
again30 (r44.2.1, r44.2.2.1, r44.2.2.2.1, r44.2.2.2.2, r32.1, 0, r37.2.2.2, ([(Ex.mk c24 c25 c26 c27), (eta r44.1)] : List Ex))))
else (
some ((Ex.mk c24 c25 c26 c27), c20, c21, c22, c23))
def kP (eta : Ex → Ex) (du : (R : Type) → Option R → Option R) (aa : Q4 → Option Q3) (ops : Q11) (l : Q1) (at_ : Int) (names : Q6) (deep : Int) (bad : Int) (place : Int) : Option Q3 :=
(cg aa l at_ names deep bad place).bind fun r11 =>
aj (ta eta du aa ops l names) al (r11.2.1, r11.2.2.1, r11.2.2.2.1, r11.2.2.2.2, r11.1.op, r11.1.n, r11.1.at_, r11.1.l)
theorem tu (k4 : TK4) (i4 : OK4 k4) : (vJ k4).Ok X0.P X0.Γ :=
 az (.l ⟨[(true, 0, (.bx 121 0 true [.same, (.int .i64), .same, (.int .i64), (.int .i64), (.int .i64)])), (true, 6, (.bx 38 0 true [.same, .same, .same, .same])), (true, 7, (.bx 38 0 true [(.int .i64), (.int .i64), (.int .i64), (.own .ex 38 true)]))], []⟩ .o) Tryz.call96 Tryz.func96 (ok1 (uu k4 i4) (ok1 bC (ok1 aV ok0))) ok0 ok0 fun s => (show _ = kP bX duE k4 s.2.2.2.2.2.2 s.1 s.2.1 s.2.2.1 s.2.2.2.1 s.2.2.2.2.1 s.2.2.2.2.2.1 from by kernel_rfl).trans ((congrArg (fun eta => kP eta duE k4 s.2.2.2.2.2.2 s.1 s.2.1 s.2.2.1 s.2.2.2.1 s.2.2.2.2.1 s.2.2.2.2.2.1) aB).trans ((congrArg (fun du => kP id du k4 s.2.2.2.2.2.2 s.1 s.2.1 s.2.2.1 s.2.2.2.1 s.2.2.2.2.1 s.2.2.2.2.2.1) aL).trans (by kernel_rfl)))
def xU (k4 : TK4) : Ent := ⟨104, [(.bx 121 0 true [(.own (.p (.i .i64) (.p .s (.p (.i .i64) (.i .i64)))) 60 false), (.int .i64), (.own .s 9 false), (.int .i64), (.int .i64), (.int .i64)])], (.dat .ex [some 77]), [(true, 0, (.bx 121 0 true [.same, (.int .i64), .same, (.int .i64), (.int .i64), (.int .i64)]))], fun s => b0 k4 s.1 s.2.1 s.2.2.1 s.2.2.2.1 s.2.2.2.2.1 s.2.2.2.2.2⟩
def mu (eta : Ex → Ex) (_du : (R : Type) → Option R → Option R) (aa : Q4 → Option Q3) (l : Q1) (at_ : Int) (names : Q6) (deep : Int) (bad : Int) (place : Int) : Option Q3 :=
(lR aa ([3, 4] : List Int) l at_ names deep bad place).bind fun r13 =>
some ((eta r13.1), r13.2.1, r13.2.2.1, r13.2.2.2.1, r13.2.2.2.2)
theorem vb (k4 : TK4) (i4 : OK4 k4) : (xU k4).Ok X0.P X0.Γ :=
 az .o Tryz.call104 Tryz.func104 (ok1 (tu k4 i4) ok0) ok0 ok0 fun s => (show _ = mu bX duE k4 s.1 s.2.1 s.2.2.1 s.2.2.2.1 s.2.2.2.2.1 s.2.2.2.2.2 from by kernel_rfl).trans ((congrArg (fun eta => mu eta duE k4 s.1 s.2.1 s.2.2.1 s.2.2.2.1 s.2.2.2.2.1 s.2.2.2.2.2) aB).trans ((congrArg (fun du => mu id du k4 s.1 s.2.1 s.2.2.1 s.2.2.2.1 s.2.2.2.2.1 s.2.2.2.2.2) aL).trans (by kernel_rfl)))
def x8 (k4 : TK4) : Ent := ⟨103, [(.bx 121 0 true [(.own (.p (.i .i64) (.p .s (.p (.i .i64) (.i .i64)))) 60 false), (.int .i64), (.own .s 9 false), (.int .i64), (.int .i64), (.int .i64)])], (.dat .ex [some 77]), [(true, 0, (.bx 121 0 true [.same, (.int .i64), .same, (.int .i64), (.int .i64), (.int .i64)]))], fun s => eZ k4 s.1 s.2.1 s.2.2.1 s.2.2.2.1 s.2.2.2.2.1 s.2.2.2.2.2⟩
def mb (eta : Ex → Ex) (_du : (R : Type) → Option R → Option R) (aa : Q4 → Option Q3) (l : Q1) (at_ : Int) (names : Q6) (deep : Int) (bad : Int) (place : Int) : Option Q3 :=
(b0 aa l at_ names deep bad place).bind fun r11 =>
(ay ([7, 8, 9, 10, 11, 12] : List Int) l r11.2.1 names r11.2.2.1 r11.2.2.2.1 r11.2.2.2.2).bind fun r21 =>
ab (r11.2.2.2.1 != 0) fun b24 =>
ab (!r21.2) fun b26 =>
ab (b24 || b26) fun b28 =>
bif b28 then (
some ((eta r11.1), r11.2.1, r11.2.2.1, r11.2.2.2.1, r11.2.2.2.2))
else (
(au l r11.2.1 names r11.2.2.1 r11.2.2.2.1 r11.2.2.2.2).bind fun r32 =>
(b0 aa l (IntKind.i64.wrap (r11.2.1 + 1)) names r11.2.2.1 r11.2.2.2.1 r11.2.2.2.2).bind fun r39 =>
some ((Ex.mk r21.1 0 r32.2.2.2 ([(eta r11.1), (eta r39.1)] : List Ex)), r39.2.1, r39.2.2.1, r39.2.2.2.1, r39.2.2.2.2))
theorem vj (k4 : TK4) (i4 : OK4 k4) : (x8 k4).Ok X0.P X0.Γ :=
 az .o Tryz.call103 Tryz.func103 (ok1 (vb k4 i4) (ok1 bC (ok1 aV ok0))) ok0 ok0 fun s => (show _ = mb bX duE k4 s.1 s.2.1 s.2.2.1 s.2.2.2.1 s.2.2.2.2.1 s.2.2.2.2.2 from by kernel_rfl).trans ((congrArg (fun eta => mb eta duE k4 s.1 s.2.1 s.2.2.1 s.2.2.2.1 s.2.2.2.2.1 s.2.2.2.2.2) aB).trans ((congrArg (fun du => mb id du k4 s.1 s.2.1 s.2.2.1 s.2.2.2.1 s.2.2.2.2.1 s.2.2.2.2.2) aL).trans (by kernel_rfl)))
def uY (k4 : TK4) (k1 : TK1) : Ent := ⟨102, [(.bx 121 0 true [(.own (.p (.i .i64) (.p .s (.p (.i .i64) (.i .i64)))) 60 false), (.int .i64), (.own .s 9 false), (.int .i64), (.int .i64), (.int .i64)]), (.fn 101 [] []), (.fn 103 [] []), (.sli (.i .i64))], (.dat .ex [some 77]), [(true, 0, (.bx 121 0 true [.same, (.int .i64), .same, (.int .i64), (.int .i64), (.int .i64)]))], fun s => ll k4 k1 s.2.2.2.2.2.2 s.1 s.2.1 s.2.2.1 s.2.2.2.1 s.2.2.2.2.1 s.2.2.2.2.2.1⟩
def kh (eta : Ex → Ex) (_du : (R : Type) → Option R → Option R) (aa : Q4 → Option Q3) (br : Q4 → Option Q3) (ops : Q11) (l : Q1) (at_ : Int) (names : Q6) (deep : Int) (bad : Int) (place : Int) : Option Q3 :=
(ay ops l at_ names deep bad place).bind fun r11 =>
bif (!r11.2) then (
(eZ aa l at_ names deep bad place).bind fun r15 =>
some ((eta r15.1), r15.2.1, r15.2.2.1, r15.2.2.2.1, r15.2.2.2.2))
else (
(au l at_ names deep bad place).bind fun r21 =>
(br (l, (IntKind.i64.wrap (at_ + 1)), names, deep, bad, place)).bind fun r30 =>
some ((Ex.mk r11.1 0 r21.2.2.2 ([(eta r30.1)] : List Ex)), r30.2.1, r30.2.2.1, r30.2.2.2.1, r30.2.2.2.2))
theorem sL (k4 : TK4) (i4 : OK4 k4) (k1 : TK1) (i1 : OK1 k1) : (uY k4 k1).Ok X0.P X0.Γ :=
 az (.c .o (.r [0, 8] .o)) Tryz.call102 Tryz.func102 (ok1 bC (ok1 (vj k4 i4) (ok1 aV (ok1 i1 ok0)))) ok0 ok0 fun s => (show _ = kh bX duE k4 k1 s.2.2.2.2.2.2 s.1 s.2.1 s.2.2.1 s.2.2.2.1 s.2.2.2.2.1 s.2.2.2.2.2.1 from by kernel_rfl).trans ((congrArg (fun eta => kh eta duE k4 k1 s.2.2.2.2.2.2 s.1 s.2.1 s.2.2.1 s.2.2.2.1 s.2.2.2.2.1 s.2.2.2.2.2.1) aB).trans ((congrArg (fun du => kh id du k4 k1 s.2.2.2.2.2.2 s.1 s.2.1 s.2.2.1 s.2.2.2.1 s.2.2.2.2.1 s.2.2.2.2.2.1) aL).trans (by kernel_rfl)))
def xy (k4 : TK4) (k1 : TK1) : Ent := ⟨101, [(.bx 121 0 true [(.own (.p (.i .i64) (.p .s (.p (.i .i64) (.i .i64)))) 60 false), (.int .i64), (.own .s 9 false), (.int .i64), (.int .i64), (.int .i64)])], (.dat .ex [some 77]), [(true, 0, (.bx 121 0 true [.same, (.int .i64), .same, (.int .i64), (.int .i64), (.int .i64)]))], fun s => eX k4 k1 s.1 s.2.1 s.2.2.1 s.2.2.2.1 s.2.2.2.2.1 s.2.2.2.2.2⟩
def lL (eta : Ex → Ex) (_du : (R : Type) → Option R → Option R) (aa : Q4 → Option Q3) (br : Q4 → Option Q3) (l : Q1) (at_ : Int) (names : Q6) (deep : Int) (bad : Int) (place : Int) : Option Q3 :=
(ll aa br ([15, 20, 21, 22] : List Int) l at_ names deep bad place).bind fun r13 =>
some ((eta r13.1), r13.2.1, r13.2.2.1, r13.2.2.2.1, r13.2.2.2.2)
theorem uO (k4 : TK4) (i4 : OK4 k4) (k1 : TK1) (i1 : OK1 k1) : (xy k4 k1).Ok X0.P X0.Γ :=
 az .o Tryz.call101 Tryz.func101 (ok1 (sL k4 i4 k1 i1) ok0) ok0 ok0 fun s => (show _ = lL bX duE k4 k1 s.1 s.2.1 s.2.2.1 s.2.2.2.1 s.2.2.2.2.1 s.2.2.2.2.2 from by kernel_rfl).trans ((congrArg (fun eta => lL eta duE k4 k1 s.1 s.2.1 s.2.2.1 s.2.2.2.1 s.2.2.2.2.1 s.2.2.2.2.2) aB).trans ((congrArg (fun du => lL id du k4 k1 s.1 s.2.1 s.2.2.1 s.2.2.2.1 s.2.2.2.2.1 s.2.2.2.2.2) aL).trans (by kernel_rfl)))
def nD (k4 : TK4) : Ent := ⟨86, [(.bx 121 0 true [(.own (.p (.i .i64) (.p .s (.p (.i .i64) (.i .i64)))) 60 false), (.int .i64), (.own .s 9 false), (.int .i64), (.int .i64), (.int .i64)]), (.fn 101 [] [])], (.dat .ex [some 77]), [(true, 0, (.bx 121 0 true [.same, (.int .i64), .same, (.int .i64), (.int .i64), (.int .i64)]))], fun s => lj k4 s.1 s.2.1 s.2.2.1 s.2.2.2.1 s.2.2.2.2.1 s.2.2.2.2.2⟩
def iU (eta : Ex → Ex) (_du : (R : Type) → Option R → Option R) (aa : Q4 → Option Q3) (br : Q4 → Option Q3) (l : Q1) (at_ : Int) (names : Q6) (deep : Int) (bad : Int) (place : Int) : Option Q3 :=
bif (decide (320 ≤ deep)) then (
(aD 9 l at_ names deep bad place).bind fun r12 =>
some ((eta r12.1), at_, deep, r12.2.1, r12.2.2))
else (
(eX aa br l at_ names (IntKind.i64.wrap (deep + 1)) bad place).bind fun r19 =>
some ((eta r19.1), r19.2.1, (IntKind.i64.wrap (r19.2.2.1 - 1)), r19.2.2.2.1, r19.2.2.2.2))
def nY (k4 : TK4) : TK1 → TK1 := fun k1 s => kg k4 k1 s.1 s.2.1 s.2.2.1 s.2.2.2.1 s.2.2.2.2.1 s.2.2.2.2.2
theorem qD (k4 : TK4) (i4 : OK4 k4) (k1 : TK1) (i1 : OK1 k1) : (gD (nY k4 k1)).Ok X0.P X0.Γ :=
 az .o Tryz.call86 Tryz.func86 (ok1 dD (ok1 (uO k4 i4 k1 i1) ok0)) ok0 ok0 fun s => (show _ = iU bX duE k4 k1 s.1 s.2.1 s.2.2.1 s.2.2.2.1 s.2.2.2.2.1 s.2.2.2.2.2 from by kernel_rfl).trans ((congrArg (fun eta => iU eta duE k4 k1 s.1 s.2.1 s.2.2.1 s.2.2.2.1 s.2.2.2.2.1 s.2.2.2.2.2) aB).trans ((congrArg (fun du => iU id du k4 k1 s.1 s.2.1 s.2.2.1 s.2.2.2.1 s.2.2.2.2.1 s.2.2.2.2.2) aL).trans (by kernel_rfl)))
theorem sO (k4 : TK4) (i4 : OK4 k4) : (nD k4).Ok X0.P X0.Γ := (show nD k4 = gD (aj (nY k4) al) by kernel_rfl) ▸ jg (X := X0) (E := gD) ⟨Tryz.call86, fun _ _ h => nomatch h⟩ (qD k4 i4) al
def uk (k4 : TK4) : Ent := ⟨100, [(.bx 121 0 true [(.own (.p (.i .i64) (.p .s (.p (.i .i64) (.i .i64)))) 60 false), (.int .i64), (.own .s 9 false), (.int .i64), (.int .i64), (.int .i64)])], (.dat .ex [some 77]), [(true, 0, (.bx 121 0 true [.same, (.int .i64), .same, (.int .i64), (.int .i64), (.int .i64)]))], fun s => dz k4 s.1 s.2.1 s.2.2.1 s.2.2.2.1 s.2.2.2.2.1 s.2.2.2.2.2⟩
def jI (eta : Ex → Ex) (_du : (R : Type) → Option R → Option R) (aa : Q4 → Option Q3) (l : Q1) (at_ : Int) (names : Q6) (deep : Int) (bad : Int) (place : Int) : Option Q3 :=
(lj aa l at_ names deep bad place).bind fun r11 =>
some ((eta r11.1), r11.2.1, r11.2.2.1, r11.2.2.2.1, r11.2.2.2.2)
theorem rH (k4 : TK4) (i4 : OK4 k4) : (uk k4).Ok X0.P X0.Γ :=
 az .o Tryz.call100 Tryz.func100 (ok1 (sO k4 i4) ok0) ok0 ok0 fun s => (show _ = jI bX duE k4 s.1 s.2.1 s.2.2.1 s.2.2.2.1 s.2.2.2.2.1 s.2.2.2.2.2 from by kernel_rfl).trans ((congrArg (fun eta => jI eta duE k4 s.1 s.2.1 s.2.2.1 s.2.2.2.1 s.2.2.2.2.1 s.2.2.2.2.2) aB).trans ((congrArg (fun du => jI id du k4 s.1 s.2.1 s.2.2.1 s.2.2.2.1 s.2.2.2.2.1 s.2.2.2.2.2) aL).trans (by kernel_rfl)))
def wx (k4 : TK4) (k2 : TK2) : Ent := ⟨90, [(.bx 121 0 true [(.own (.p (.i .i64) (.p .s (.p (.i .i64) (.i .i64)))) 60 false), (.int .i64), (.own .s 9 false), (.int .i64), (.int .i64), (.int .i64)]), (.fn 100 [] []), (.fn 99 [] []), (.sli (.i .i64))], (.dat .ex [some 77]), [(true, 0, (.bx 121 0 true [.same, (.int .i64), .same, (.int .i64), (.int .i64), (.int .i64)]))], fun s => lT k4 k2 s.2.2.2.2.2.2 s.1 s.2.1 s.2.2.1 s.2.2.2.1 s.2.2.2.2.1 s.2.2.2.2.2.1⟩
def kR (eta : Ex → Ex) (_du : (R : Type) → Option R → Option R) (aa : Q4 → Option Q3) (bp : Q4 → Option Q3) (ops : Q11) (l : Q1) (at_ : Int) (names : Q6) (deep : Int) (bad : Int) (place : Int) : Option Q3 :=
(dz aa l at_ names deep bad place).bind fun r11 =>
(ay ops l r11.2.1 names r11.2.2.1 r11.2.2.2.1 r11.2.2.2.2).bind fun r19 =>
ab (r11.2.2.2.1 != 0) fun b22 =>
ab (!r19.2) fun b24 =>
ab (b22 || b24) fun b26 =>
bif b26 then (
some ((eta r11.1), r11.2.1, r11.2.2.1, r11.2.2.2.1, r11.2.2.2.2))
else (
(au l r11.2.1 names r11.2.2.1 r11.2.2.2.1 r11.2.2.2.2).bind fun r30 =>
(bp (l, (IntKind.i64.wrap (r11.2.1 + 1)), names, r11.2.2.1, r11.2.2.2.1, r11.2.2.2.2)).bind fun r37 =>
some ((Ex.mk r19.1 0 r30.2.2.2 ([(eta r11.1), (eta r37.1)] : List Ex)), r37.2.1, r37.2.2.1, r37.2.2.2.1, r37.2.2.2.2))
theorem tv (k4 : TK4) (i4 : OK4 k4) (k2 : TK2) (i2 : OK2 k2) : (wx k4 k2).Ok X0.P X0.Γ :=
 az .o Tryz.call90 Tryz.func90 (ok1 (rH k4 i4) (ok1 bC (ok1 aV (ok1 i2 ok0)))) ok0 ok0 fun s => (show _ = kR bX duE k4 k2 s.2.2.2.2.2.2 s.1 s.2.1 s.2.2.1 s.2.2.2.1 s.2.2.2.2.1 s.2.2.2.2.2.1 from by kernel_rfl).trans ((congrArg (fun eta => kR eta duE k4 k2 s.2.2.2.2.2.2 s.1 s.2.1 s.2.2.1 s.2.2.2.1 s.2.2.2.2.1 s.2.2.2.2.2.1) aB).trans ((congrArg (fun du => kR id du k4 k2 s.2.2.2.2.2.2 s.1 s.2.1 s.2.2.1 s.2.2.2.1 s.2.2.2.2.1 s.2.2.2.2.2.1) aL).trans (by kernel_rfl)))
def vu (k4 : TK4) (k2 : TK2) : Ent := ⟨99, [(.bx 121 0 true [(.own (.p (.i .i64) (.p .s (.p (.i .i64) (.i .i64)))) 60 false), (.int .i64), (.own .s 9 false), (.int .i64), (.int .i64), (.int .i64)])], (.dat .ex [some 77]), [(true, 0, (.bx 121 0 true [.same, (.int .i64), .same, (.int .i64), (.int .i64), (.int .i64)]))], fun s => dV k4 k2 s.1 s.2.1 s.2.2.1 s.2.2.2.1 s.2.2.2.2.1 s.2.2.2.2.2⟩
def kO (eta : Ex → Ex) (_du : (R : Type) → Option R → Option R) (aa : Q4 → Option Q3) (bp : Q4 → Option Q3) (l : Q1) (at_ : Int) (names : Q6) (deep : Int) (bad : Int) (place : Int) : Option Q3 :=
(lT aa bp ([23, 24] : List Int) l at_ names deep bad place).bind fun r13 =>
some ((eta r13.1), r13.2.1, r13.2.2.1, r13.2.2.2.1, r13.2.2.2.2)
theorem tA (k4 : TK4) (i4 : OK4 k4) (k2 : TK2) (i2 : OK2 k2) : (vu k4 k2).Ok X0.P X0.Γ :=
 az .o Tryz.call99 Tryz.func99 (ok1 (tv k4 i4 k2 i2) ok0) ok0 ok0 fun s => (show _ = kO bX duE k4 k2 s.1 s.2.1 s.2.2.1 s.2.2.2.1 s.2.2.2.2.1 s.2.2.2.2.2 from by kernel_rfl).trans ((congrArg (fun eta => kO eta duE k4 k2 s.1 s.2.1 s.2.2.1 s.2.2.2.1 s.2.2.2.2.1 s.2.2.2.2.2) aB).trans ((congrArg (fun du => kO id du k4 k2 s.1 s.2.1 s.2.2.1 s.2.2.2.1 s.2.2.2.2.1 s.2.2.2.2.2) aL).trans (by kernel_rfl)))
def nR (k4 : TK4) : Ent := ⟨86, [(.bx 121 0 true [(.own (.p (.i .i64) (.p .s (.p (.i .i64) (.i .i64)))) 60 false), (.int .i64), (.own .s 9 false), (.int .i64), (.int .i64), (.int .i64)]), (.fn 99 [] [])], (.dat .ex [some 77]), [(true, 0, (.bx 121 0 true [.same, (.int .i64), .same, (.int .i64), (.int .i64), (.int .i64)]))], fun s => lq k4 s.1 s.2.1 s.2.2.1 s.2.2.2.1 s.2.2.2.2.1 s.2.2.2.2.2⟩
def jf (eta : Ex → Ex) (_du : (R : Type) → Option R → Option R) (aa : Q4 → Option Q3) (bp : Q4 → Option Q3) (l : Q1) (at_ : Int) (names : Q6) (deep : Int) (bad : Int) (place : Int) : Option Q3 :=
bif (decide (320 ≤ deep)) then (
(aD 9 l at_ names deep bad place).bind fun r12 =>
some ((eta r12.1), at_, deep, r12.2.1, r12.2.2))
else (
(dV aa bp l at_ names (IntKind.i64.wrap (deep + 1)) bad place).bind fun r19 =>
some ((eta r19.1), r19.2.1, (IntKind.i64.wrap (r19.2.2.1 - 1)), r19.2.2.2.1, r19.2.2.2.2))
def nQ (k4 : TK4) : TK2 → TK2 := fun k2 s => jX k4 k2 s.1 s.2.1 s.2.2.1 s.2.2.2.1 s.2.2.2.2.1 s.2.2.2.2.2
theorem qB (k4 : TK4) (i4 : OK4 k4) (k2 : TK2) (i2 : OK2 k2) : (gr (nQ k4 k2)).Ok X0.P X0.Γ :=
 az .o Tryz.call86 Tryz.func86 (ok1 dD (ok1 (tA k4 i4 k2 i2) ok0)) ok0 ok0 fun s => (show _ = jf bX duE k4 k2 s.1 s.2.1 s.2.2.1 s.2.2.2.1 s.2.2.2.2.1 s.2.2.2.2.2 from by kernel_rfl).trans ((congrArg (fun eta => jf eta duE k4 k2 s.1 s.2.1 s.2.2.1 s.2.2.2.1 s.2.2.2.2.1 s.2.2.2.2.2) aB).trans ((congrArg (fun du => jf id du k4 k2 s.1 s.2.1 s.2.2.1 s.2.2.2.1 s.2.2.2.2.1 s.2.2.2.2.2) aL).trans (by kernel_rfl)))
theorem sB (k4 : TK4) (i4 : OK4 k4) : (nR k4).Ok X0.P X0.Γ := (show nR k4 = gr (aj (nQ k4) al) by kernel_rfl) ▸ jg (X := X0) (E := gr) ⟨Tryz.call86, fun _ _ h => nomatch h⟩ (qB k4 i4) al
def sD (k4 : TK4) : Ent := ⟨98, [(.bx 121 0 true [(.own (.p (.i .i64) (.p .s (.p (.i .i64) (.i .i64)))) 60 false), (.int .i64), (.own .s 9 false), (.int .i64), (.int .i64), (.int .i64)])], (.dat .ex [some 77]), [(true, 0, (.bx 121 0 true [.same, (.int .i64), .same, (.int .i64), (.int .i64), (.int .i64)]))], fun s => bw k4 s.1 s.2.1 s.2.2.1 s.2.2.2.1 s.2.2.2.2.1 s.2.2.2.2.2⟩
def iE (eta : Ex → Ex) (_du : (R : Type) → Option R → Option R) (aa : Q4 → Option Q3) (l : Q1) (at_ : Int) (names : Q6) (deep : Int) (bad : Int) (place : Int) : Option Q3 :=
(lq aa l at_ names deep bad place).bind fun r11 =>
some ((eta r11.1), r11.2.1, r11.2.2.1, r11.2.2.2.1, r11.2.2.2.2)
theorem p9 (k4 : TK4) (i4 : OK4 k4) : (sD k4).Ok X0.P X0.Γ :=
 az .o Tryz.call98 Tryz.func98 (ok1 (sB k4 i4) ok0) ok0 ok0 fun s => (show _ = iE bX duE k4 s.1 s.2.1 s.2.2.1 s.2.2.2.1 s.2.2.2.2.1 s.2.2.2.2.2 from by kernel_rfl).trans ((congrArg (fun eta => iE eta duE k4 s.1 s.2.1 s.2.2.1 s.2.2.2.1 s.2.2.2.2.1 s.2.2.2.2.2) aB).trans ((congrArg (fun du => iE id du k4 s.1 s.2.1 s.2.2.1 s.2.2.2.1 s.2.2.2.2.1 s.2.2.2.2.2) aL).trans (by kernel_rfl)))
def vG (k4 : TK4) : Ent := ⟨96, [(.bx 121 0 true [(.own (.p (.i .i64) (.p .s (.p (.i .i64) (.i .i64)))) 60 false), (.int .i64), (.own .s 9 false), (.int .i64), (.int .i64), (.int .i64)]), (.fn 98 [] []), (.sli (.i .i64))], (.dat .ex [some 77]), [(true, 0, (.bx 121 0 true [.same, (.int .i64), .same, (.int .i64), (.int .i64), (.int .i64)]))], fun s => lZ k4 s.2.2.2.2.2.2 s.1 s.2.1 s.2.2.1 s.2.2.2.1 s.2.2.2.2.1 s.2.2.2.2.2.1⟩
def tB (eta : Ex → Ex) (_du : (R : Type) → Option R → Option R) (aa : Q4 → Option Q3) (ops : Q11) (l : Q1) (names : Q6) (again30 : Q16 → Option Q3) : Int × Int × Int × Int × Int × Int × Int × (List Ex) → Option Q3 := fun ⟨c20, c21, c22, c23, c24, c25, c26, c27⟩ =>
bif (c22 == 0) then (
(ay ops l c20 names c21 c22 c23).bind fun r32 =>
bif (!r32.2) then (
some ((Ex.mk c24 c25 c26 c27), c20, c21, c22, c23))
else (
(au l c20 names c21 c22 c23).bind fun r37 =>
(bw aa l (IntKind.i64.wrap (c20 + 1)) names c21 c22 c23).bind fun r44 =>
again30 (r44.2.1, r44.2.2.1, r44.2.2.2.1, r44.2.2.2.2, r32.1, 0, r37.2.2.2, ([(Ex.mk c24 c25 c26 c27), (eta r44.1)] : List Ex))))
else (
some ((Ex.mk c24 c25 c26 c27), c20, c21, c22, c23))
def kU (eta : Ex → Ex) (du : (R : Type) → Option R → Option R) (aa : Q4 → Option Q3) (ops : Q11) (l : Q1) (at_ : Int) (names : Q6) (deep : Int) (bad : Int) (place : Int) : Option Q3 :=
(bw aa l at_ names deep bad place).bind fun r11 =>
aj (tB eta du aa ops l names) al (r11.2.1, r11.2.2.1, r11.2.2.2.1, r11.2.2.2.2, r11.1.op, r11.1.n, r11.1.at_, r11.1.l)
theorem te (k4 : TK4) (i4 : OK4 k4) : (vG k4).Ok X0.P X0.Γ :=
 az (.l ⟨[(true, 0, (.bx 121 0 true [.same, (.int .i64), .same, (.int .i64), (.int .i64), (.int .i64)])), (true, 6, (.bx 38 0 true [.same, .same, .same, .same])), (true, 7, (.bx 38 0 true [(.int .i64), (.int .i64), (.int .i64), (.own .ex 38 true)]))], []⟩ .o) Tryz.call96 Tryz.func96 (ok1 (p9 k4 i4) (ok1 bC (ok1 aV ok0))) ok0 ok0 fun s => (show _ = kU bX duE k4 s.2.2.2.2.2.2 s.1 s.2.1 s.2.2.1 s.2.2.2.1 s.2.2.2.2.1 s.2.2.2.2.2.1 from by kernel_rfl).trans ((congrArg (fun eta => kU eta duE k4 s.2.2.2.2.2.2 s.1 s.2.1 s.2.2.1 s.2.2.2.1 s.2.2.2.2.1 s.2.2.2.2.2.1) aB).trans ((congrArg (fun du => kU id du k4 s.2.2.2.2.2.2 s.1 s.2.1 s.2.2.1 s.2.2.2.1 s.2.2.2.2.1 s.2.2.2.2.2.1) aL).trans (by kernel_rfl)))
def xd (k4 : TK4) : Ent := ⟨97, [(.bx 121 0 true [(.own (.p (.i .i64) (.p .s (.p (.i .i64) (.i .i64)))) 60 false), (.int .i64), (.own .s 9 false), (.int .i64), (.int .i64), (.int .i64)])], (.dat .ex [some 77]), [(true, 0, (.bx 121 0 true [.same, (.int .i64), .same, (.int .i64), (.int .i64), (.int .i64)]))], fun s => cH k4 s.1 s.2.1 s.2.2.1 s.2.2.2.1 s.2.2.2.2.1 s.2.2.2.2.2⟩
def l7 (eta : Ex → Ex) (_du : (R : Type) → Option R → Option R) (aa : Q4 → Option Q3) (l : Q1) (at_ : Int) (names : Q6) (deep : Int) (bad : Int) (place : Int) : Option Q3 :=
(lZ aa ([16] : List Int) l at_ names deep bad place).bind fun r13 =>
some ((eta r13.1), r13.2.1, r13.2.2.1, r13.2.2.2.1, r13.2.2.2.2)
theorem u9 (k4 : TK4) (i4 : OK4 k4) : (xd k4).Ok X0.P X0.Γ :=
 az .o Tryz.call97 Tryz.func97 (ok1 (te k4 i4) ok0) ok0 ok0 fun s => (show _ = l7 bX duE k4 s.1 s.2.1 s.2.2.1 s.2.2.2.1 s.2.2.2.2.1 s.2.2.2.2.2 from by kernel_rfl).trans ((congrArg (fun eta => l7 eta duE k4 s.1 s.2.1 s.2.2.1 s.2.2.2.1 s.2.2.2.2.1 s.2.2.2.2.2) aB).trans ((congrArg (fun du => l7 id du k4 s.1 s.2.1 s.2.2.1 s.2.2.2.1 s.2.2.2.2.1 s.2.2.2.2.2) aL).trans (by kernel_rfl)))
def wU (k4 : TK4) : Ent := ⟨96, [(.bx 121 0 true [(.own (.p (.i .i64) (.p .s (.p (.i .i64) (.i .i64)))) 60 false), (.int .i64), (.own .s 9 false), (.int .i64), (.int .i64), (.int .i64)]), (.fn 97 [] []), (.sli (.i .i64))], (.dat .ex [some 77]), [(true, 0, (.bx 121 0 true [.same, (.int .i64), .same, (.int .i64), (.int .i64), (.int .i64)]))], fun s => mF k4 s.2.2.2.2.2.2 s.1 s.2.1 s.2.2.1 s.2.2.2.1 s.2.2.2.2.1 s.2.2.2.2.2.1⟩
def um (eta : Ex → Ex) (_du : (R : Type) → Option R → Option R) (aa : Q4 → Option Q3) (ops : Q11) (l : Q1) (names : Q6) (again30 : Q16 → Option Q3) : Int × Int × Int × Int × Int × Int × Int × (List Ex) → Option Q3 := fun ⟨c20, c21, c22, c23, c24, c25, c26, c27⟩ =>
bif (c22 == 0) then (
(ay ops l c20 names c21 c22 c23).bind fun r32 =>
bif (!r32.2) then (
some ((Ex.mk c24 c25 c26 c27), c20, c21, c22, c23))
else (
(au l c20 names c21 c22 c23).bind fun r37 =>
(cH aa l (IntKind.i64.wrap (c20 + 1)) names c21 c22 c23).bind fun r44 =>
again30 (r44.2.1, r44.2.2.1, r44.2.2.2.1, r44.2.2.2.2, r32.1, 0, r37.2.2.2, ([(Ex.mk c24 c25 c26 c27), (eta r44.1)] : List Ex))))
else (
some ((Ex.mk c24 c25 c26 c27), c20, c21, c22, c23))
def lp (eta : Ex → Ex) (du : (R : Type) → Option R → Option R) (aa : Q4 → Option Q3) (ops : Q11) (l : Q1) (at_ : Int) (names : Q6) (deep : Int) (bad : Int) (place : Int) : Option Q3 :=
(cH aa l at_ names deep bad place).bind fun r11 =>
aj (um eta du aa ops l names) al (r11.2.1, r11.2.2.1, r11.2.2.2.1, r11.2.2.2.2, r11.1.op, r11.1.n, r11.1.at_, r11.1.l)
theorem uh (k4 : TK4) (i4 : OK4 k4) : (wU k4).Ok X0.P X0.Γ :=
 az (.l ⟨[(true, 0, (.bx 121 0 true [.same, (.int .i64), .same, (.int .i64), (.int .i64), (.int .i64)])), (true, 6, (.bx 38 0 true [.same, .same, .same, .same])), (true, 7, (.bx 38 0 true [(.int .i64), (.int .i64), (.int .i64), (.own .ex 38 true)]))], []⟩ .o) Tryz.call96 Tryz.func96 (ok1 (u9 k4 i4) (ok1 bC (ok1 aV ok0))) ok0 ok0 fun s => (show _ = lp bX duE k4 s.2.2.2.2.2.2 s.1 s.2.1 s.2.2.1 s.2.2.2.1 s.2.2.2.2.1 s.2.2.2.2.2.1 from by kernel_rfl).trans ((congrArg (fun eta => lp eta duE k4 s.2.2.2.2.2.2 s.1 s.2.1 s.2.2.1 s.2.2.2.1 s.2.2.2.2.1 s.2.2.2.2.2.1) aB).trans ((congrArg (fun du => lp id du k4 s.2.2.2.2.2.2 s.1 s.2.1 s.2.2.1 s.2.2.2.1 s.2.2.2.2.1 s.2.2.2.2.2.1) aL).trans (by kernel_rfl)))
def yN (k4 : TK4) : Ent := ⟨95, [(.bx 121 0 true [(.own (.p (.i .i64) (.p .s (.p (.i .i64) (.i .i64)))) 60 false), (.int .i64), (.own .s 9 false), (.int .i64), (.int .i64), (.int .i64)])], (.dat .ex [some 77]), [(true, 0, (.bx 121 0 true [.same, (.int .i64), .same, (.int .i64), (.int .i64), (.int .i64)]))], fun s => eD k4 s.1 s.2.1 s.2.2.1 s.2.2.2.1 s.2.2.2.2.1 s.2.2.2.2.2⟩
def mM (eta : Ex → Ex) (_du : (R : Type) → Option R → Option R) (aa : Q4 → Option Q3) (l : Q1) (at_ : Int) (names : Q6) (deep : Int) (bad : Int) (place : Int) : Option Q3 :=
(mF aa ([17] : List Int) l at_ names deep bad place).bind fun r13 =>
some ((eta r13.1), r13.2.1, r13.2.2.1, r13.2.2.2.1, r13.2.2.2.2)
theorem v7 (k4 : TK4) (i4 : OK4 k4) : (yN k4).Ok X0.P X0.Γ :=
 az .o Tryz.call95 Tryz.func95 (ok1 (uh k4 i4) ok0) ok0 ok0 fun s => (show _ = mM bX duE k4 s.1 s.2.1 s.2.2.1 s.2.2.2.1 s.2.2.2.2.1 s.2.2.2.2.2 from by kernel_rfl).trans ((congrArg (fun eta => mM eta duE k4 s.1 s.2.1 s.2.2.1 s.2.2.2.1 s.2.2.2.2.1 s.2.2.2.2.2) aB).trans ((congrArg (fun du => mM id du k4 s.1 s.2.1 s.2.2.1 s.2.2.2.1 s.2.2.2.2.1 s.2.2.2.2.2) aL).trans (by kernel_rfl)))
def wh (k4 : TK4) (k3 : TK3) : Ent := ⟨90, [(.bx 121 0 true [(.own (.p (.i .i64) (.p .s (.p (.i .i64) (.i .i64)))) 60 false), (.int .i64), (.own .s 9 false), (.int .i64), (.int .i64), (.int .i64)]), (.fn 95 [] []), (.fn 94 [] []), (.sli (.i .i64))], (.dat .ex [some 77]), [(true, 0, (.bx 121 0 true [.same, (.int .i64), .same, (.int .i64), (.int .i64), (.int .i64)]))], fun s => lO k4 k3 s.2.2.2.2.2.2 s.1 s.2.1 s.2.2.1 s.2.2.2.1 s.2.2.2.2.1 s.2.2.2.2.2.1⟩
def kA (eta : Ex → Ex) (_du : (R : Type) → Option R → Option R) (aa : Q4 → Option Q3) (bq : Q4 → Option Q3) (ops : Q11) (l : Q1) (at_ : Int) (names : Q6) (deep : Int) (bad : Int) (place : Int) : Option Q3 :=
(eD aa l at_ names deep bad place).bind fun r11 =>
(ay ops l r11.2.1 names r11.2.2.1 r11.2.2.2.1 r11.2.2.2.2).bind fun r19 =>
ab (r11.2.2.2.1 != 0) fun b22 =>
ab (!r19.2) fun b24 =>
ab (b22 || b24) fun b26 =>
bif b26 then (
some ((eta r11.1), r11.2.1, r11.2.2.1, r11.2.2.2.1, r11.2.2.2.2))
else (
(au l r11.2.1 names r11.2.2.1 r11.2.2.2.1 r11.2.2.2.2).bind fun r30 =>
(bq (l, (IntKind.i64.wrap (r11.2.1 + 1)), names, r11.2.2.1, r11.2.2.2.1, r11.2.2.2.2)).bind fun r37 =>
some ((Ex.mk r19.1 0 r30.2.2.2 ([(eta r11.1), (eta r37.1)] : List Ex)), r37.2.1, r37.2.2.1, r37.2.2.2.1, r37.2.2.2.2))
theorem sY (k4 : TK4) (i4 : OK4 k4) (k3 : TK3) (i3 : OK3 k3) : (wh k4 k3).Ok X0.P X0.Γ :=
 az .o Tryz.call90 Tryz.func90 (ok1 (v7 k4 i4) (ok1 bC (ok1 aV (ok1 i3 ok0)))) ok0 ok0 fun s => (show _ = kA bX duE k4 k3 s.2.2.2.2.2.2 s.1 s.2.1 s.2.2.1 s.2.2.2.1 s.2.2.2.2.1 s.2.2.2.2.2.1 from by kernel_rfl).trans ((congrArg (fun eta => kA eta duE k4 k3 s.2.2.2.2.2.2 s.1 s.2.1 s.2.2.1 s.2.2.2.1 s.2.2.2.2.1 s.2.2.2.2.2.1) aB).trans ((congrArg (fun du => kA id du k4 k3 s.2.2.2.2.2.2 s.1 s.2.1 s.2.2.1 s.2.2.2.1 s.2.2.2.2.1 s.2.2.2.2.2.1) aL).trans (by kernel_rfl)))
def xV (k4 : TK4) (k3 : TK3) : Ent := ⟨94, [(.bx 121 0 true [(.own (.p (.i .i64) (.p .s (.p (.i .i64) (.i .i64)))) 60 false), (.int .i64), (.own .s 9 false), (.int .i64), (.int .i64), (.int .i64)])], (.dat .ex [some 77]), [(true, 0, (.bx 121 0 true [.same, (.int .i64), .same, (.int .i64), (.int .i64), (.int .i64)]))], fun s => eU k4 k3 s.1 s.2.1 s.2.2.1 s.2.2.2.1 s.2.2.2.2.1 s.2.2.2.2.2⟩
def mg (eta : Ex → Ex) (_du : (R : Type) → Option R → Option R) (aa : Q4 → Option Q3) (bq : Q4 → Option Q3) (l : Q1) (at_ : Int) (names : Q6) (deep : Int) (bad : Int) (place : Int) : Option Q3 :=
(lO aa bq ([18] : List Int) l at_ names deep bad place).bind fun r13 =>
some ((eta r13.1), r13.2.1, r13.2.2.1, r13.2.2.2.1, r13.2.2.2.2)
theorem uI (k4 : TK4) (i4 : OK4 k4) (k3 : TK3) (i3 : OK3 k3) : (xV k4 k3).Ok X0.P X0.Γ :=
 az .o Tryz.call94 Tryz.func94 (ok1 (sY k4 i4 k3 i3) ok0) ok0 ok0 fun s => (show _ = mg bX duE k4 k3 s.1 s.2.1 s.2.2.1 s.2.2.2.1 s.2.2.2.2.1 s.2.2.2.2.2 from by kernel_rfl).trans ((congrArg (fun eta => mg eta duE k4 k3 s.1 s.2.1 s.2.2.1 s.2.2.2.1 s.2.2.2.2.1 s.2.2.2.2.2) aB).trans ((congrArg (fun du => mg id du k4 k3 s.1 s.2.1 s.2.2.1 s.2.2.2.1 s.2.2.2.2.1 s.2.2.2.2.2) aL).trans (by kernel_rfl)))
def nE (k4 : TK4) : Ent := ⟨86, [(.bx 121 0 true [(.own (.p (.i .i64) (.p .s (.p (.i .i64) (.i .i64)))) 60 false), (.int .i64), (.own .s 9 false), (.int .i64), (.int .i64), (.int .i64)]), (.fn 94 [] [])], (.dat .ex [some 77]), [(true, 0, (.bx 121 0 true [.same, (.int .i64), .same, (.int .i64), (.int .i64), (.int .i64)]))], fun s => lg k4 s.1 s.2.1 s.2.2.1 s.2.2.2.1 s.2.2.2.2.1 s.2.2.2.2.2⟩
def ja (eta : Ex → Ex) (_du : (R : Type) → Option R → Option R) (aa : Q4 → Option Q3) (bq : Q4 → Option Q3) (l : Q1) (at_ : Int) (names : Q6) (deep : Int) (bad : Int) (place : Int) : Option Q3 :=
bif (decide (320 ≤ deep)) then (
(aD 9 l at_ names deep bad place).bind fun r12 =>
some ((eta r12.1), at_, deep, r12.2.1, r12.2.2))
else (
(eU aa bq l at_ names (IntKind.i64.wrap (deep + 1)) bad place).bind fun r19 =>
some ((eta r19.1), r19.2.1, (IntKind.i64.wrap (r19.2.2.1 - 1)), r19.2.2.2.1, r19.2.2.2.2))
def nL (k4 : TK4) : TK3 → TK3 := fun k3 s => j2 k4 k3 s.1 s.2.1 s.2.2.1 s.2.2.2.1 s.2.2.2.2.1 s.2.2.2.2.2
theorem qM (k4 : TK4) (i4 : OK4 k4) (k3 : TK3) (i3 : OK3 k3) : (gE (nL k4 k3)).Ok X0.P X0.Γ :=
 az .o Tryz.call86 Tryz.func86 (ok1 dD (ok1 (uI k4 i4 k3 i3) ok0)) ok0 ok0 fun s => (show _ = ja bX duE k4 k3 s.1 s.2.1 s.2.2.1 s.2.2.2.1 s.2.2.2.2.1 s.2.2.2.2.2 from by kernel_rfl).trans ((congrArg (fun eta => ja eta duE k4 k3 s.1 s.2.1 s.2.2.1 s.2.2.2.1 s.2.2.2.2.1 s.2.2.2.2.2) aB).trans ((congrArg (fun du => ja id du k4 k3 s.1 s.2.1 s.2.2.1 s.2.2.2.1 s.2.2.2.2.1 s.2.2.2.2.2) aL).trans (by kernel_rfl)))
theorem sU (k4 : TK4) (i4 : OK4 k4) : (nE k4).Ok X0.P X0.Γ := (show nE k4 = gE (aj (nL k4) al) by kernel_rfl) ▸ jg (X := X0) (E := gE) ⟨Tryz.call86, fun _ _ h => nomatch h⟩ (qM k4 i4) al
def uC (k4 : TK4) : Ent := ⟨91, [(.bx 121 0 true [(.own (.p (.i .i64) (.p .s (.p (.i .i64) (.i .i64)))) 60 false), (.int .i64), (.own .s 9 false), (.int .i64), (.int .i64), (.int .i64)])], (.dat .ex [some 77]), [(true, 0, (.bx 121 0 true [.same, (.int .i64), .same, (.int .i64), (.int .i64), (.int .i64)]))], fun s => dv k4 s.1 s.2.1 s.2.2.1 s.2.2.2.1 s.2.2.2.2.1 s.2.2.2.2.2⟩
def jF (eta : Ex → Ex) (_du : (R : Type) → Option R → Option R) (aa : Q4 → Option Q3) (l : Q1) (at_ : Int) (names : Q6) (deep : Int) (bad : Int) (place : Int) : Option Q3 :=
(lg aa l at_ names deep bad place).bind fun r11 =>
some ((eta r11.1), r11.2.1, r11.2.2.1, r11.2.2.2.1, r11.2.2.2.2)
theorem qX (k4 : TK4) (i4 : OK4 k4) : (uC k4).Ok X0.P X0.Γ :=
 az .o Tryz.call91 Tryz.func91 (ok1 (sU k4 i4) ok0) ok0 ok0 fun s => (show _ = jF bX duE k4 s.1 s.2.1 s.2.2.1 s.2.2.2.1 s.2.2.2.2.1 s.2.2.2.2.2 from by kernel_rfl).trans ((congrArg (fun eta => jF eta duE k4 s.1 s.2.1 s.2.2.1 s.2.2.2.1 s.2.2.2.2.1 s.2.2.2.2.2) aB).trans ((congrArg (fun du => jF id du k4 s.1 s.2.1 s.2.2.1 s.2.2.2.1 s.2.2.2.2.1 s.2.2.2.2.2) aL).trans (by kernel_rfl)))
def wq (k4 : TK4) : Ent := ⟨90, [(.bx 121 0 true [(.own (.p (.i .i64) (.p .s (.p (.i .i64) (.i .i64)))) 60 false), (.int .i64), (.own .s 9 false), (.int .i64), (.int .i64), (.int .i64)]), (.fn 91 [] []), (.fn 87 [] []), (.sli (.i .i64))], (.dat .ex [some 77]), [(true, 0, (.bx 121 0 true [.same, (.int .i64), .same, (.int .i64), (.int .i64), (.int .i64)]))], fun s => lJ k4 s.2.2.2.2.2.2 s.1 s.2.1 s.2.2.1 s.2.2.2.1 s.2.2.2.2.1 s.2.2.2.2.2.1⟩
def kD (eta : Ex → Ex) (_du : (R : Type) → Option R → Option R) (aa : Q4 → Option Q3) (ops : Q11) (l : Q1) (at_ : Int) (names : Q6) (deep : Int) (bad : Int) (place : Int) : Option Q3 :=
(dv aa l at_ names deep bad place).bind fun r11 =>
(ay ops l r11.2.1 names r11.2.2.1 r11.2.2.2.1 r11.2.2.2.2).bind fun r19 =>
ab (r11.2.2.2.1 != 0) fun b22 =>
ab (!r19.2) fun b24 =>
ab (b22 || b24) fun b26 =>
bif b26 then (
some ((eta r11.1), r11.2.1, r11.2.2.1, r11.2.2.2.1, r11.2.2.2.2))
else (
(au l r11.2.1 names r11.2.2.1 r11.2.2.2.1 r11.2.2.2.2).bind fun r30 =>
(aa (l, (IntKind.i64.wrap (r11.2.1 + 1)), names, r11.2.2.1, r11.2.2.2.1, r11.2.2.2.2)).bind fun r37 =>
some ((Ex.mk r19.1 0 r30.2.2.2 ([(eta r11.1), (eta r37.1)] : List Ex)), r37.2.1, r37.2.2.1, r37.2.2.2.1, r37.2.2.2.2))
theorem tf (k4 : TK4) (i4 : OK4 k4) : (wq k4).Ok X0.P X0.Γ :=
 az .o Tryz.call90 Tryz.func90 (ok1 (qX k4 i4) (ok1 bC (ok1 aV (ok1 i4 ok0)))) ok0 ok0 fun s => (show _ = kD bX duE k4 s.2.2.2.2.2.2 s.1 s.2.1 s.2.2.1 s.2.2.2.1 s.2.2.2.2.1 s.2.2.2.2.2.1 from by kernel_rfl).trans ((congrArg (fun eta => kD eta duE k4 s.2.2.2.2.2.2 s.1 s.2.1 s.2.2.1 s.2.2.2.1 s.2.2.2.2.1 s.2.2.2.2.2.1) aB).trans ((congrArg (fun du => kD id du k4 s.2.2.2.2.2.2 s.1 s.2.1 s.2.2.1 s.2.2.2.1 s.2.2.2.2.1 s.2.2.2.2.2.1) aL).trans (by kernel_rfl)))
def ya (k4 : TK4) : Ent := ⟨87, [(.bx 121 0 true [(.own (.p (.i .i64) (.p .s (.p (.i .i64) (.i .i64)))) 60 false), (.int .i64), (.own .s 9 false), (.int .i64), (.int .i64), (.int .i64)])], (.dat .ex [some 77]), [(true, 0, (.bx 121 0 true [.same, (.int .i64), .same, (.int .i64), (.int .i64), (.int .i64)]))], fun s => eY k4 s.1 s.2.1 s.2.2.1 s.2.2.2.1 s.2.2.2.2.1 s.2.2.2.2.2⟩
def lV (eta : Ex → Ex) (_du : (R : Type) → Option R → Option R) (aa : Q4 → Option Q3) (l : Q1) (at_ : Int) (names : Q6) (deep : Int) (bad : Int) (place : Int) : Option Q3 :=
(lJ aa ([19] : List Int) l at_ names deep bad place).bind fun r13 =>
some ((eta r13.1), r13.2.1, r13.2.2.1, r13.2.2.2.1, r13.2.2.2.2)
theorem vm (k4 : TK4) (i4 : OK4 k4) : (ya k4).Ok X0.P X0.Γ :=
 az .o Tryz.call87 Tryz.func87 (ok1 (tf k4 i4) ok0) ok0 ok0 fun s => (show _ = lV bX duE k4 s.1 s.2.1 s.2.2.1 s.2.2.2.1 s.2.2.2.2.1 s.2.2.2.2.2 from by kernel_rfl).trans ((congrArg (fun eta => lV eta duE k4 s.1 s.2.1 s.2.2.1 s.2.2.2.1 s.2.2.2.2.1 s.2.2.2.2.2) aB).trans ((congrArg (fun du => lV id du k4 s.1 s.2.1 s.2.2.1 s.2.2.2.1 s.2.2.2.2.1 s.2.2.2.2.2) aL).trans (by kernel_rfl)))
def nX : Ent := ⟨86, [(.bx 121 0 true [(.own (.p (.i .i64) (.p .s (.p (.i .i64) (.i .i64)))) 60 false), (.int .i64), (.own .s 9 false), (.int .i64), (.int .i64), (.int .i64)]), (.fn 87 [] [])], (.dat .ex [some 77]), [(true, 0, (.bx 121 0 true [.same, (.int .i64), .same, (.int .i64), (.int .i64), (.int .i64)]))], fun s => iP s.1 s.2.1 s.2.2.1 s.2.2.2.1 s.2.2.2.2.1 s.2.2.2.2.2⟩
def iV (eta : Ex → Ex) (_du : (R : Type) → Option R → Option R) (aa : Q4 → Option Q3) (l : Q1) (at_ : Int) (names : Q6) (deep : Int) (bad : Int) (place : Int) : Option Q3 :=
bif (decide (320 ≤ deep)) then (
(aD 9 l at_ names deep bad place).bind fun r12 =>
some ((eta r12.1), at_, deep, r12.2.1, r12.2.2))
else (
(eY aa l at_ names (IntKind.i64.wrap (deep + 1)) bad place).bind fun r19 =>
some ((eta r19.1), r19.2.1, (IntKind.i64.wrap (r19.2.2.1 - 1)), r19.2.2.2.1, r19.2.2.2.2))
def nF : TK4 → TK4 := fun k4 s => gW k4 s.1 s.2.1 s.2.2.1 s.2.2.2.1 s.2.2.2.2.1 s.2.2.2.2.2
theorem qN (k4 : TK4) (i4 : OK4 k4) : (gC (nF k4)).Ok X0.P X0.Γ :=
 az .o Tryz.call86 Tryz.func86 (ok1 dD (ok1 (vm k4 i4) ok0)) ok0 ok0 fun s => (show _ = iV bX duE k4 s.1 s.2.1 s.2.2.1 s.2.2.2.1 s.2.2.2.2.1 s.2.2.2.2.2 from by kernel_rfl).trans ((congrArg (fun eta => iV eta duE k4 s.1 s.2.1 s.2.2.1 s.2.2.2.1 s.2.2.2.2.1 s.2.2.2.2.2) aB).trans ((congrArg (fun du => iV id du k4 s.1 s.2.1 s.2.2.1 s.2.2.2.1 s.2.2.2.2.1 s.2.2.2.2.2) aL).trans (by kernel_rfl)))
theorem sk : (nX).Ok X0.P X0.Γ := (show nX = gC (aj (nF) al) by kernel_rfl) ▸ jg (X := X0) (E := gC) ⟨Tryz.call86, fun _ _ h => nomatch h⟩ (qN) al
def Ai : Ent := ⟨77, [(.own (.p (.i .i64) (.p .s (.p (.i .i64) (.i .i64)))) 60 false), (.int .i64), (.own .s 9 false)], (.tup [(.dat .ex [some 77]), (.int .i64), (.int .i64), (.int .i64)]), [], fun s => kZ s.1 s.2.1 s.2.2⟩
def oT (eta : Ex → Ex) (_du : (R : Type) → Option R → Option R) (l : Q1) (at_ : Int) (names : Q6) : Option Q8 :=
(iP l at_ names 0 0 0).bind fun r13 =>
bif (r13.2.2.2.1 != 0) then (
some ((Ex.mk 0 0 0 []), 0, r13.2.2.2.1, r13.2.2.2.2))
else (
some ((eta r13.1), r13.2.1, 0, 0))
theorem xM : (Ai).Ok X0.P X0.Γ :=
 az (.c (.r [6] .o) (.r [6] .o)) Tryz.call77 Tryz.func77 (ok1 sk ok0) ok0 ok0 fun s => (show _ = oT bX duE s.1 s.2.1 s.2.2 from by kernel_rfl).trans ((congrArg (fun eta => oT eta duE s.1 s.2.1 s.2.2) aB).trans ((congrArg (fun du => oT id du s.1 s.2.1 s.2.2) aL).trans (by kernel_rfl)))
def yW : Ent := ⟨78, [(.dat .ex [none])], (.tup [(.int .i64), (.int .i64), (.int .i64)]), [], fun s => nV s⟩
def AW (eta : Ex → Ex) (_du : (R : Type) → Option R → Option R) (jG : Ex → Option Q9) (e : Ex) (again12 : Q28 → Option Q9) : Bool × Bool × Bool × Int → Option Q9 := fun ⟨ints8, bools9, times10, t11⟩ =>
bif (decide (t11 < (List.length e.l : Int))) then (
(idx e.l t11).bind fun e14 =>
(jG (eta e14)).bind fun r23 =>
bif (r23.2.1 != 0) then (
some (0, r23.2.1, r23.2.2))
else (
ab (r23.1 == 1) fun b27 =>
ab (ints8 && b27) fun b29 =>
ab (r23.1 == 2) fun b31 =>
ab (bools9 && b31) fun b33 =>
ab (r23.1 != 1) fun b35 =>
ab (times10 && b35) fun b37 =>
again12 (b29, b33, b37, (IntKind.i64.wrap (t11 + 1)))))
else (
ab (decide (e.op ≤ 6)) fun b39 =>
ab (b39 && ints8) fun b41 =>
bif b41 then (
some (1, 0, 0))
else (
ab (fun (s55 : Bool) => sr e times10 s55) fun kk54 =>
ab (decide (6 < e.op)) fun b56 =>
ab (decide (e.op ≤ 12)) fun b58 =>
ab (b56 && b58) fun b60 =>
ab (b60 && ints8) fun b62 =>
bif b62 then (
kk54 b62)
else (
bif (e.op == 13) then (
kk54 (e.op == 13))
else (
bif (e.op == 14) then (
kk54 (e.op == 14))
else (
ab (decide (15 ≤ e.op)) fun b67 =>
ab (decide (e.op ≤ 19)) fun b69 =>
ab (b67 && b69) fun b71 =>
ab (b71 && bools9) fun b73 =>
kk54 b73)))))
def qt (eta : Ex → Ex) (du : (R : Type) → Option R → Option R) (jG : Ex → Option Q9) (e : Ex) : Option Q9 :=
aj (AW eta du jG e) al (true, true, true, 0)
def y4 : TK5 → TK5 := fun k5 s => mU k5 s
theorem zC (k5 : TK5) (i5 : OK5 k5) : (oX (y4 k5)).Ok X0.P X0.Γ :=
 az (.l ⟨[(false, 5, .bool), (false, 6, .bool), (false, 7, .bool), (false, 16, (.int .i64))], []⟩ (.c .o (.c .o (.j ⟨[(false, 53, .bool)], []⟩ .o .o)))) Tryz.call78 Tryz.func78 (ok1 i5 ok0) ok0 ok0 fun s => (show _ = qt bX duE k5 s from by kernel_rfl).trans ((congrArg (fun eta => qt eta duE k5 s) aB).trans ((congrArg (fun du => qt id du k5 s) aL).trans (by kernel_rfl)))
theorem AT : (yW).Ok X0.P X0.Γ := (show yW = oX (aj (y4) al) by kernel_rfl) ▸ jg (X := X0) (E := oX) ⟨Tryz.call78, fun _ _ h => nomatch h⟩ (zC) al
def Ba : Ent := ⟨78, [(.dat .ex [some 76])], (.tup [(.int .i64), (.int .i64), (.int .i64)]), [], fun s => lK s⟩
def yG (eta : Ex → Ex) (_du : (R : Type) → Option R → Option R) (e : Ex) (again12 : Q28 → Option Q9) : Bool × Bool × Bool × Int → Option Q9 := fun ⟨ints8, bools9, times10, t11⟩ =>
bif (decide (t11 < (List.length e.l : Int))) then (
(idx e.l t11).bind fun e14 =>
(nV (eta e14)).bind fun r23 =>
bif (r23.2.1 != 0) then (
some (0, r23.2.1, r23.2.2))
else (
ab (r23.1 == 1) fun b27 =>
ab (ints8 && b27) fun b29 =>
ab (r23.1 == 2) fun b31 =>
ab (bools9 && b31) fun b33 =>
ab (r23.1 != 1) fun b35 =>
ab (times10 && b35) fun b37 =>
again12 (b29, b33, b37, (IntKind.i64.wrap (t11 + 1)))))
else (
ab (decide (e.op ≤ 6)) fun b39 =>
ab (b39 && ints8) fun b41 =>
bif b41 then (
some (1, 0, 0))
else (
ab (fun (s55 : Bool) => tS e times10 s55) fun kk54 =>
ab (decide (6 < e.op)) fun b56 =>
ab (decide (e.op ≤ 12)) fun b58 =>
ab (b56 && b58) fun b60 =>
ab (b60 && ints8) fun b62 =>
bif b62 then (
kk54 b62)
else (
bif (e.op == 13) then (
kk54 (e.op == 13))
else (
bif (e.op == 14) then (
kk54 (e.op == 14))
else (
ab (decide (15 ≤ e.op)) fun b67 =>
ab (decide (e.op ≤ 19)) fun b69 =>
ab (b67 && b69) fun b71 =>
ab (b71 && bools9) fun b73 =>
kk54 b73)))))
def pH (eta : Ex → Ex) (du : (R : Type) → Option R → Option R) (e : Ex) : Option Q9 :=
aj (yG eta du e) al (true, true, true, 0)
theorem yP : (Ba).Ok X0.P X0.Γ :=
 az (.l ⟨[(false, 5, .bool), (false, 6, .bool), (false, 7, .bool), (false, 16, (.int .i64))], []⟩ (.c .o (.c .o (.j ⟨[(false, 53, .bool)], []⟩ .o .o)))) Tryz.call78 Tryz.func78 (ok1 AT ok0) ok0 ok0 fun s => (show _ = pH bX duE s from by kernel_rfl).trans ((congrArg (fun eta => pH eta duE s) aB).trans ((congrArg (fun du => pH id du s) aL).trans (by kernel_rfl)))
def tz : bK := ⟨71, [(.bx 54 0 true [(.own (.p (.i .i64) (.p .s (.p (.i .i64) (.i .i64)))) 60 false), (.int .i64), (.own .s 9 false), (.own (.p (.i .i64) (.i .i64)) 43 false), (.own (.i .i64) 3 false), (.own .s 9 false), (.own (.p (.i .i64) (.p .ex (.l (.p (.i .i64) .ex)))) 41 false)]), (.int .i64)], (.ifc 50 (.agg [(.int .i64), (.int .i64)])), false, (.dat .ex [some 77]), [(true, 0, (.bx 54 0 true [.same, (.int .i64), .same, .same, .same, .same, .same]))], fun s => bY s.2.2.2.2.2.2.2 s.1 s.2.1 s.2.2.1 s.2.2.2.1 s.2.2.2.2.1 s.2.2.2.2.2.1 s.2.2.2.2.2.2.1⟩
def qy (eta : Ex → Ex) (_du : (R : Type) → Option R → Option R) (r10 : Q8) : Option Q25 :=
some (.ok ((eta r10.1), r10.2.1))
def qE (eta : Ex → Ex) (du : (R : Type) → Option R → Option R) (want : Int) (_at_ : Int) (r10 : Q8) (r19 : Q9) : Option Q25 :=
ab (fun (_s27 : Unit) => qy eta du r10) fun kk26 =>
bif (r19.1 != want) then (
some (.error (4, r10.1.at_)))
else (
kk26 ())
def qP (eta : Ex → Ex) (du : (R : Type) → Option R → Option R) (want : Int) (at_ : Int) (r10 : Q8) : Option Q25 :=
(lK (eta r10.1)).bind fun r19 =>
ab (fun (_s30 : Unit) => qE eta du want at_ r10 r19) fun kk29 =>
bif (r19.2.1 != 0) then (
some (.error r19.2))
else (
kk29 ())
def je (eta : Ex → Ex) (du : (R : Type) → Option R → Option R) (want : Int) (l : Q1) (at_ : Int) (Names : Q6) (_Schema : Q7) (_Init : Q11) (_Procs : Q6) (_Cmd : Q2) : Option Q25 :=
du _ (
(kZ l at_ Names).bind fun r10 =>
ab (fun (_s33 : Unit) => qP eta du want at_ r10) fun kk32 =>
bif (r10.2.2.1 != 0) then (
some (.error r10.2.2))
else (
kk32 ()))
theorem kX : (tz).Ok X0.P X0.Γ :=
 ug (.r [0] (.j ⟨[], []⟩ .o (.s (.j ⟨[], []⟩ .o (.j ⟨[], []⟩ .o .o))))) Tryz.call71 Tryz.func71 (ok1 xM (ok1 yP ok0)) ok0 ok0 fun s => (show _ = je bX duE s.2.2.2.2.2.2.2 s.1 s.2.1 s.2.2.1 s.2.2.2.1 s.2.2.2.2.1 s.2.2.2.2.2.1 s.2.2.2.2.2.2.1 from by kernel_rfl).trans ((congrArg (fun eta => je eta duE s.2.2.2.2.2.2.2 s.1 s.2.1 s.2.2.1 s.2.2.2.1 s.2.2.2.2.1 s.2.2.2.2.2.1 s.2.2.2.2.2.2.1) aB).trans ((congrArg (fun du => je id du s.2.2.2.2.2.2.2 s.1 s.2.1 s.2.2.1 s.2.2.2.1 s.2.2.2.2.1 s.2.2.2.2.2.1 s.2.2.2.2.2.2.1) aL).trans (by kernel_rfl)))
def qw : Ent := ⟨81, [(.dat (.p (.i .i64) .ex) [none]), (.bx 3 0 false [(.int .i64)])], .bool, [], fun s => fF s.1 s.2⟩
theorem po : (qw).Ok X0.P X0.Γ :=
 az .o Tryz.call81 Tryz.func81 ok0 ok0 ok0 fun _ => by kernel_rfl
def lG : Ent := ⟨88, [(.own (.p (.i .i64) .ex) 45 false), (.fn 81 [] [(.bx 3 0 false [(.int .i64)])])], (.int .i64), [], fun s => ed s.1 s.2⟩
def kN (eta : Ex → Ex) (_du : (R : Type) → Option R → Option R) (s : Q12) (c : Int) (again5 : Int → Option Int) (t4 : Int) : Option Int :=
bif (decide (t4 < (List.length s : Int))) then (
(idx s t4).bind fun e7 =>
(fF (e7.1, (eta e7.2)) c).bind fun r13 =>
bif r13 then (
some t4)
else (
again5 (IntKind.i64.wrap (t4 + 1))))
else (
some (-1))
def dL (eta : Ex → Ex) (du : (R : Type) → Option R → Option R) (s : Q12) (c : Int) : Option Int :=
aj (kN eta du s c) al 0
theorem kG : (lG).Ok X0.P X0.Γ :=
 az (.l ⟨[(false, 8, (.int .i64))], []⟩ .o) Tryz.call88 Tryz.func88 (ok1 po ok0) ok0 ok0 fun s => (show _ = dL bX duE s.1 s.2 from by kernel_rfl).trans ((congrArg (fun eta => dL eta duE s.1 s.2) aB).trans ((congrArg (fun du => dL id du s.1 s.2) aL).trans (by kernel_rfl)))
def kz : Ent := ⟨80, [(.own (.p (.i .i64) .ex) 45 false), (.fn 81 [] [(.bx 3 0 false [(.int .i64)])])], .bool, [], fun s => bM s.1 s.2⟩
theorem jR : (kz).Ok X0.P X0.Γ :=
 az .o Tryz.call80 Tryz.func80 (ok1 kG ok0) ok0 ok0 fun _ => by kernel_rfl
def qs : bK := ⟨72, [(.bx 54 0 true [(.own (.p (.i .i64) (.p .s (.p (.i .i64) (.i .i64)))) 60 false), (.int .i64), (.own .s 9 false), (.own (.p (.i .i64) (.i .i64)) 43 false), (.own (.i .i64) 3 false), (.own .s 9 false), (.own (.p (.i .i64) (.p .ex (.l (.p (.i .i64) .ex)))) 41 false)]), (.own (.p (.i .i64) .ex) 45 false)], (.ifc 50 (.agg [(.int .i64), (.int .i64)])), false, (.dat (.p (.i .i64) .ex) [some 77]), [(true, 0, (.bx 54 0 true [.same, (.int .i64), .same, .same, .same, .same, .same]))], fun s => dc s.2.2.2.2.2.2.2 s.1 s.2.1 s.2.2.1 s.2.2.2.1 s.2.2.2.2.1 s.2.2.2.2.2.1 s.2.2.2.2.2.2.1⟩
def pj (eta : Ex → Ex) (_du : (R : Type) → Option R → Option R) (l : Q1) (at_ : Int) (Names : Q6) (Schema : Q7) (Init : Q11) (Procs : Q6) (Cmd : Q2) (r17 : Int) : Option Q26 :=
cr (bm [61] l (IntKind.i64.wrap (at_ + 1)) Names Schema Init Procs Cmd) fun r25 =>
cr (bY 1 l r25 Names Schema Init Procs Cmd) fun r33 =>
some (.ok ((r17, (eta r33.1)), r33.2))
def pk (eta : Ex → Ex) (du : (R : Type) → Option R → Option R) (ahead : Q12) (l : Q1) (at_ : Int) (Names : Q6) (Schema : Q7) (Init : Q11) (Procs : Q6) (Cmd : Q2) (r8 : Q10) : Option Q26 :=
du _ (
(aS Names r8.2.1).bind fun r17 =>
ab (fun (_s43 : Unit) => pj eta du l at_ Names Schema Init Procs Cmd r17) fun kk42 =>
ab (decide (r17 < 0)) fun b44 =>
ax (!b44) default (bM ahead r17) fun r46 =>
ab (b44 || r46) fun b52 =>
bif b52 then (
cr (aY 3 l at_ Names Schema Init Procs Cmd) fun r55 =>
r55.elim)
else (
kk42 ()))
def hZ (eta : Ex → Ex) (du : (R : Type) → Option R → Option R) (ahead : Q12) (l : Q1) (at_ : Int) (Names : Q6) (Schema : Q7) (Init : Q11) (Procs : Q6) (Cmd : Q2) : Option Q26 :=
(cD l at_ Names Schema Init Procs Cmd).bind fun r8 =>
ab (fun (_s106 : Unit) => pk eta du ahead l at_ Names Schema Init Procs Cmd r8) fun kk105 =>
bif (r8.1 != 1) then (
cr (aY 2 l at_ Names Schema Init Procs Cmd) fun r108 =>
r108.elim)
else (
kk105 ())
theorem pn : (qs).Ok X0.P X0.Γ :=
 ug (.s (.s (.j ⟨[], []⟩ .o (.r [0] (.j ⟨[], []⟩ .o (.r [0, 4] .o)))))) Tryz.call72 Tryz.func72 (ok1 dA (ok1 eA (ok1 jR ok0))) (ok1 iz (ok1 kX (ok1 eo ok0))) ok0 fun s => (show _ = hZ bX duE s.2.2.2.2.2.2.2 s.1 s.2.1 s.2.2.1 s.2.2.2.1 s.2.2.2.2.1 s.2.2.2.2.2.1 s.2.2.2.2.2.2.1 from by kernel_rfl).trans ((congrArg (fun eta => hZ eta duE s.2.2.2.2.2.2.2 s.1 s.2.1 s.2.2.1 s.2.2.2.1 s.2.2.2.2.1 s.2.2.2.2.2.1 s.2.2.2.2.2.2.1) aB).trans ((congrArg (fun du => hZ id du s.2.2.2.2.2.2.2 s.1 s.2.1 s.2.2.1 s.2.2.2.1 s.2.2.2.2.1 s.2.2.2.2.2.1 s.2.2.2.2.2.2.1) aL).trans (by kernel_rfl)))
def vS : bK := ⟨60, [(.bx 54 0 true [(.own (.p (.i .i64) (.p .s (.p (.i .i64) (.i .i64)))) 60 false), (.int .i64), (.own .s 9 false), (.own (.p (.i .i64) (.i .i64)) 43 false), (.own (.i .i64) 3 false), (.own .s 9 false), (.own (.p (.i .i64) (.p .ex (.l (.p (.i .i64) .ex)))) 41 true)])], (.ifc 50 (.agg [(.int .i64), (.int .i64)])), false, (.tup []), [(true, 0, (.bx 54 0 true [.same, (.int .i64), .same, .same, .same, .same, (.own (.p (.i .i64) (.p .ex (.l (.p (.i .i64) .ex)))) 41 true)]))], fun s => gH s.1 s.2.1 s.2.2.1 s.2.2.2.1 s.2.2.2.2.1 s.2.2.2.2.2.1 s.2.2.2.2.2.2⟩
def tE (eta : Ex → Ex) (_du : (R : Type) → Option R → Option R) (l : Q1) (Names : Q6) (Schema : Q7) (Init : Q11) (Procs : Q6) (Cmd : Q2) (r10 : (Ex × Int)) (again32 : (Int × Q12) → Option Q24) : Int × Q12 → Option Q24 := fun ⟨c28, l29⟩ =>
cr (dc l29 l c28 Names Schema Init Procs Cmd) fun r35 =>
chk (bu (List.length l29 + List.length ([(r35.1.1, (eta r35.1.2))] : List Q21)) 56) <|
(dY 3 [59] l r35.2 Names Schema Init Procs Cmd).bind fun r50 =>
bif r50 then (
chk (bu (List.length Cmd + List.length ([((IntKind.i64.wrap ((List.length Procs : Int) - 1)), (eta r10.1), (l29 ++ ([(r35.1.1, (eta r35.1.2))] : List Q21)))] : List Q23)) 80) <|
some (.ok ((IntKind.i64.wrap (r35.2 + 1)), (Cmd ++ ([((IntKind.i64.wrap ((List.length Procs : Int) - 1)), (eta r10.1), (l29 ++ ([(r35.1.1, (eta r35.1.2))] : List Q21)))] : List Q23)))))
else (
cr (bm [44] l r35.2 Names Schema Init Procs Cmd) fun r64 =>
again32 (r64, (l29 ++ ([(r35.1.1, (eta r35.1.2))] : List Q21))))
def sX (eta : Ex → Ex) (du : (R : Type) → Option R → Option R) (l : Q1) (at_ : Int) (Names : Q6) (Schema : Q7) (Init : Q11) (Procs : Q6) (Cmd : Q2) : Option Q24 :=
du _ (
cr (bY 2 l at_ Names Schema Init Procs Cmd) fun r10 =>
cr (bm [58] l r10.2 Names Schema Init Procs Cmd) fun r21 =>
aj (tE eta du l Names Schema Init Procs Cmd r10) al (r21, []))
def kH (eta : Ex → Ex) (du : (R : Type) → Option R → Option R) (l : Q1) (at_ : Int) (Names : Q6) (Schema : Q7) (Init : Q11) (Procs : Q6) (Cmd : Q2) : Option Q24 :=
ab (fun (_s131 : Unit) => sX eta du l at_ Names Schema Init Procs Cmd) fun kk130 =>
bif (decide (256 ≤ (List.length Cmd : Int))) then (
cr (aY 9 l at_ Names Schema Init Procs Cmd) fun r133 =>
r133.elim)
else (
kk130 ())
theorem tD : (vS).Ok X0.P X0.Γ :=
 ug (.j ⟨[], []⟩ .o (.r [0] (.l ⟨[(true, 0, (.bx 54 0 true [.same, (.int .i64), .same, .same, .same, .same, .same])), (true, 2, (.bx 41 0 true [.same, .same, .same, .same, .same, (.own (.p (.i .i64) .ex) 45 true)]))], []⟩ (.r [0, 2] (.c (.r [0, 2] .o) .o))))) Tryz.call60 Tryz.func60 (ok1 gK ok0) (ok1 kX (ok1 iz (ok1 pn (ok1 eo ok0)))) ok0 fun s => (show _ = kH bX duE s.1 s.2.1 s.2.2.1 s.2.2.2.1 s.2.2.2.2.1 s.2.2.2.2.2.1 s.2.2.2.2.2.2 from by kernel_rfl).trans ((congrArg (fun eta => kH eta duE s.1 s.2.1 s.2.2.1 s.2.2.2.1 s.2.2.2.2.1 s.2.2.2.2.2.1 s.2.2.2.2.2.2) aB).trans ((congrArg (fun du => kH id du s.1 s.2.1 s.2.2.1 s.2.2.2.1 s.2.2.2.2.1 s.2.2.2.2.2.1 s.2.2.2.2.2.2) aL).trans (by kernel_rfl)))
def vx : bK := ⟨38, [(.bx 54 0 true [(.own (.p (.i .i64) (.p .s (.p (.i .i64) (.i .i64)))) 60 false), (.int .i64), (.own .s 9 false), (.own (.p (.i .i64) (.i .i64)) 43 false), (.own (.i .i64) 3 false), (.own .s 9 true), (.own (.p (.i .i64) (.p .ex (.l (.p (.i .i64) .ex)))) 41 true)])], (.ifc 50 (.agg [(.int .i64), (.int .i64)])), false, (.tup []), [(true, 0, (.bx 54 0 true [.same, (.int .i64), .same, .same, .same, (.own .s 9 true), (.own (.p (.i .i64) (.p .ex (.l (.p (.i .i64) .ex)))) 41 true)]))], fun s => gG s.1 s.2.1 s.2.2.1 s.2.2.2.1 s.2.2.2.2.1 s.2.2.2.2.2.1 s.2.2.2.2.2.2⟩
theorem tH : (vx).Ok X0.P X0.Γ :=
 ug (.r [0] (.l ⟨[(true, 0, (.bx 54 0 true [.same, (.int .i64), .same, .same, .same, .same, (.own (.p (.i .i64) (.p .ex (.l (.p (.i .i64) .ex)))) 41 true)]))], []⟩ .o)) Tryz.call38 Tryz.func38 (ok1 gK ok0) (ok1 oY (ok1 iz (ok1 tD ok0))) ok0 fun _ => by kernel_rfl
def zH : bK := ⟨12, [(.bx 54 0 true [(.own (.p (.i .i64) (.p .s (.p (.i .i64) (.i .i64)))) 60 false), (.int .i64), (.own .s 9 true), (.own (.p (.i .i64) (.i .i64)) 43 true), (.own (.i .i64) 3 true), (.own .s 9 true), (.own (.p (.i .i64) (.p .ex (.l (.p (.i .i64) .ex)))) 41 true)])], (.ifc 50 (.agg [(.int .i64), (.int .i64)])), false, (.tup []), [(true, 0, (.bx 54 0 true [.same, (.int .i64), (.own .s 9 true), (.own (.p (.i .i64) (.i .i64)) 43 true), (.own (.i .i64) 3 true), (.own .s 9 true), (.own (.p (.i .i64) (.p .ex (.l (.p (.i .i64) .ex)))) 41 true)]))], fun s => pN s.1 s.2.1 s.2.2.1 s.2.2.2.1 s.2.2.2.2.1 s.2.2.2.2.2.1 s.2.2.2.2.2.2⟩
theorem wV : (zH).Ok X0.P X0.Γ :=
 ug (.l ⟨[(true, 0, (.bx 54 0 true [.same, (.int .i64), (.own .s 9 true), (.own (.p (.i .i64) (.i .i64)) 43 true), (.own (.i .i64) 3 true), (.own .s 9 true), (.own (.p (.i .i64) (.p .ex (.l (.p (.i .i64) .ex)))) 41 true)]))], []⟩ .o) Tryz.call12 Tryz.func12 (ok1 dA (ok1 gK ok0)) (ok1 su (ok1 eo (ok1 tH ok0))) ok0 fun _ => by kernel_rfl
def Cr : Ent := ⟨5, [.str], (.tup [(.dat (.p (.l .s) (.p (.l (.p (.i .i64) (.i .i64))) (.p (.l (.i .i64)) (.p (.l .s) (.l (.p (.i .i64) (.p .ex (.l (.p (.i .i64) .ex))))))))) [some 19, some 87, some 7, some 19, some 83]), (.int .i64), (.int .i64)]), [], fun s => fp s⟩
theorem La : (⟨11, Tryz.f11⟩ : Clo).Ok X0.P := ⟨Tryz.call11, Tryz.func11⟩
theorem sG : (Cr).Ok X0.P X0.Γ :=
 az .o Tryz.call5 Tryz.func5 (ok1 AG ok0) (ok1 wV ok0) (ok1 La ok0) fun _ => by kernel_rfl
def pG : Ent := ⟨29, [(.sli .s), (.sli .s)], .bool, [], fun s => dB s.1 s.2⟩
theorem n8 : (pG).Ok X0.P X0.Γ :=
 az (.c .o (.l ⟨[(false, 13, (.int .i64))], []⟩ .o)) Tryz.call29 Tryz.func29 ok0 ok0 ok0 fun _ => by kernel_rfl
def mI : Ent := ⟨30, [(.sli (.p (.i .i64) (.i .i64))), (.sli (.p (.i .i64) (.i .i64)))], .bool, [], fun s => dy s.1 s.2⟩
theorem lE : (mI).Ok X0.P X0.Γ :=
 az (.c .o (.l ⟨[(false, 13, (.int .i64))], []⟩ .o)) Tryz.call30 Tryz.func30 ok0 ok0 ok0 fun _ => by kernel_rfl
def ub : Ent := ⟨31, [(.sli (.i .i64)), (.sli (.i .i64))], .bool, [], fun s => ix s.1 s.2⟩
theorem rD : (ub).Ok X0.P X0.Γ :=
 az (.c .o (.l ⟨[(false, 13, (.int .i64))], []⟩ .o)) Tryz.call31 Tryz.func31 ok0 ok0 ok0 fun _ => by kernel_rfl
def gL (k6 : TK6) : Ent := ⟨49, [(.sli .ex), (.sli .ex), (.fn 26 [] [])], .bool, [], fun s => bl k6 s.1 s.2⟩
def fY (eta : Ex → Ex) (_du : (R : Type) → Option R → Option R) (gm : (Ex × Ex) → Option Bool) (s1 : (List Ex)) (s2 : (List Ex)) (again6 : Int → Option Bool) (t5 : Int) : Option Bool :=
bif (decide (t5 < (List.length s1 : Int))) then (
(idx s1 t5).bind fun e8 =>
(idx s2 t5).bind fun e17 =>
(gm ((eta e8), (eta e17))).bind fun r26 =>
bif (!r26) then (
some false)
else (
again6 (IntKind.i64.wrap (t5 + 1))))
else (
some true)
def bW (eta : Ex → Ex) (du : (R : Type) → Option R → Option R) (gm : (Ex × Ex) → Option Bool) (s1 : (List Ex)) (s2 : (List Ex)) : Option Bool :=
bif ((List.length s1 : Int) != (List.length s2 : Int)) then (
some false)
else (
aj (fY eta du gm s1 s2) al 0)
theorem fX (k6 : TK6) (i6 : OK6 k6) : (gL k6).Ok X0.P X0.Γ :=
 az (.c .o (.l ⟨[(false, 17, (.int .i64))], []⟩ .o)) Tryz.call49 Tryz.func49 (ok1 i6 ok0) ok0 ok0 fun s => (show _ = bW bX duE k6 s.1 s.2 from by kernel_rfl).trans ((congrArg (fun eta => bW eta duE k6 s.1 s.2) aB).trans ((congrArg (fun du => bW id du k6 s.1 s.2) aL).trans (by kernel_rfl)))
def yS : Ent := ⟨26, [(.dat .ex [none]), (.dat .ex [none])], .bool, [], fun s => nM s.1 s.2⟩
def zb : TK6 → TK6 := fun k6 s => lb k6 s.1 s.2
theorem zz (k6 : TK6) (i6 : OK6 k6) : (oH (zb k6)).Ok X0.P X0.Γ :=
 az .o Tryz.call26 Tryz.func26 (ok1 (fX k6 i6) ok0) ok0 ok0 fun _ => by kernel_rfl
theorem uW : (yS).Ok X0.P X0.Γ := (show yS = oH (aj (zb) al) by kernel_rfl) ▸ jg (X := X0) (E := oH) ⟨Tryz.call26, fun _ _ h => nomatch h⟩ (zz) al
def AP : Ent := ⟨25, [(.dat (.p (.i .i64) .ex) [none]), (.dat (.p (.i .i64) .ex) [none])], .bool, [], fun s => kV s.1 s.2⟩
def oC (eta : Ex → Ex) (_du : (R : Type) → Option R → Option R) (x : Q21) (y : Q21) : Option Bool :=
ab (x.1 == y.1) fun b7 =>
ax b7 default (nM (eta x.2) (eta y.2)) fun r9 =>
ab (b7 && r9) fun b15 =>
some b15
theorem xg : (AP).Ok X0.P X0.Γ :=
 az .o Tryz.call25 Tryz.func25 (ok1 uW ok0) ok0 ok0 fun s => (show _ = oC bX duE s.1 s.2 from by kernel_rfl).trans ((congrArg (fun eta => oC eta duE s.1 s.2) aB).trans ((congrArg (fun du => oC id du s.1 s.2) aL).trans (by kernel_rfl)))
def ie : Ent := ⟨28, [(.sli (.p (.i .i64) .ex)), (.sli (.p (.i .i64) .ex)), (.fn 25 [] [])], .bool, [], fun s => aT s.1 s.2⟩
def gS (eta : Ex → Ex) (_du : (R : Type) → Option R → Option R) (s1 : Q12) (s2 : Q12) (again6 : Int → Option Bool) (t5 : Int) : Option Bool :=
bif (decide (t5 < (List.length s1 : Int))) then (
(idx s1 t5).bind fun e8 =>
(idx s2 t5).bind fun e17 =>
(kV (e8.1, (eta e8.2)) (e17.1, (eta e17.2))).bind fun r26 =>
bif (!r26) then (
some false)
else (
again6 (IntKind.i64.wrap (t5 + 1))))
else (
some true)
def cu (eta : Ex → Ex) (du : (R : Type) → Option R → Option R) (s1 : Q12) (s2 : Q12) : Option Bool :=
bif ((List.length s1 : Int) != (List.length s2 : Int)) then (
some false)
else (
aj (gS eta du s1 s2) al 0)
theorem gR : (ie).Ok X0.P X0.Γ :=
 az (.c .o (.l ⟨[(false, 17, (.int .i64))], []⟩ .o)) Tryz.call28 Tryz.func28 (ok1 xg ok0) ok0 ok0 fun s => (show _ = cu bX duE s.1 s.2 from by kernel_rfl).trans ((congrArg (fun eta => cu eta duE s.1 s.2) aB).trans ((congrArg (fun du => cu id du s.1 s.2) aL).trans (by kernel_rfl)))
def AK : Ent := ⟨27, [(.dat (.p (.i .i64) (.p .ex (.l (.p (.i .i64) .ex)))) [none, none]), (.dat (.p (.i .i64) (.p .ex (.l (.p (.i .i64) .ex)))) [none, none]), (.bx 69 0 false [(.fn 25 [] [])])], .bool, [], fun s => kW s.1 s.2⟩
def pb (eta : Ex → Ex) (_du : (R : Type) → Option R → Option R) (x : Q23) (y : Q23) : Option Bool :=
ab (x.1 == y.1) fun b7 =>
ax b7 default (nM (eta x.2.1) (eta y.2.1)) fun r9 =>
ab (b7 && r9) fun b15 =>
ax b15 default (aT x.2.2 y.2.2) fun r17 =>
ab (b15 && r17) fun b23 =>
some b23
theorem x9 : (AK).Ok X0.P X0.Γ :=
 az .o Tryz.call27 Tryz.func27 (ok1 uW (ok1 gR ok0)) ok0 ok0 fun s => (show _ = pb bX duE s.1 s.2 from by kernel_rfl).trans ((congrArg (fun eta => pb eta duE s.1 s.2) aB).trans ((congrArg (fun du => pb id du s.1 s.2) aL).trans (by kernel_rfl)))
def ic : Ent := ⟨32, [(.sli (.p (.i .i64) (.p .ex (.l (.p (.i .i64) .ex))))), (.sli (.p (.i .i64) (.p .ex (.l (.p (.i .i64) .ex))))), (.fn 27 [] [(.bx 69 0 false [(.fn 25 [] [])])])], .bool, [], fun s => bz s.1 s.2⟩
def gU (eta : Ex → Ex) (_du : (R : Type) → Option R → Option R) (s1 : Q2) (s2 : Q2) (again6 : Int → Option Bool) (t5 : Int) : Option Bool :=
bif (decide (t5 < (List.length s1 : Int))) then (
(idx s1 t5).bind fun e8 =>
(idx s2 t5).bind fun e19 =>
(kW (e8.1, (eta e8.2.1), e8.2.2) (e19.1, (eta e19.2.1), e19.2.2)).bind fun r30 =>
bif (!r30) then (
some false)
else (
again6 (IntKind.i64.wrap (t5 + 1))))
else (
some true)
def cw (eta : Ex → Ex) (du : (R : Type) → Option R → Option R) (s1 : Q2) (s2 : Q2) : Option Bool :=
bif ((List.length s1 : Int) != (List.length s2 : Int)) then (
some false)
else (
aj (gU eta du s1 s2) al 0)
theorem gT : (ic).Ok X0.P X0.Γ :=
 az (.c .o (.l ⟨[(false, 17, (.int .i64))], []⟩ .o)) Tryz.call32 Tryz.func32 (ok1 x9 ok0) ok0 ok0 fun s => (show _ = cw bX duE s.1 s.2 from by kernel_rfl).trans ((congrArg (fun eta => cw eta duE s.1 s.2) aB).trans ((congrArg (fun du => cw id du s.1 s.2) aL).trans (by kernel_rfl)))
def De : Ent := ⟨9, [(.dat (.p (.l .s) (.p (.l (.p (.i .i64) (.i .i64))) (.p (.l (.i .i64)) (.p (.l .s) (.l (.p (.i .i64) (.p .ex (.l (.p (.i .i64) .ex))))))))) [none, none, none, none, none]), (.dat (.p (.l .s) (.p (.l (.p (.i .i64) (.i .i64))) (.p (.l (.i .i64)) (.p (.l .s) (.l (.p (.i .i64) (.p .ex (.l (.p (.i .i64) .ex))))))))) [none, none, none, none, none])], .bool, [], fun s => mD s.1 s.2⟩
theorem tR : (De).Ok X0.P X0.Γ :=
 az .o Tryz.call9 Tryz.func9 (ok1 n8 (ok1 lE (ok1 rD (ok1 gT ok0)))) ok0 ok0 fun _ => by kernel_rfl
def uL : Ent := ⟨4, [], .bool, [], fun _ => ly⟩
theorem sq : (uL).Ok X0.P X0.Γ :=
 az .o Tryz.call4 Tryz.func4 (ok1 sG (ok1 tR ok0)) ok0 ok0 fun _ => by kernel_rfl
def vP : Ent := ⟨42, [(.int .u8)], (.int .i64), [], fun s => dU s⟩
theorem s9 : (vP).Ok X0.P X0.Γ :=
 az .o Tryz.call42 Tryz.func42 ok0 ok0 ok0 fun _ => by kernel_rfl
def uK : Ent := ⟨43, [], (.own .s 9 true), [], fun _ => lv⟩
theorem sa : (uK).Ok X0.P X0.Γ :=
 az .o Tryz.call43 Tryz.func43 ok0 ok0 ok0 fun _ => by kernel_rfl
def uA : Ent := ⟨13, [.str], (.tup [(.own (.p (.i .i64) (.p .s (.p (.i .i64) (.i .i64)))) 60 true), (.int .i64), (.int .i64)]), [], fun s => dZ s⟩
theorem rn : (uA).Ok X0.P X0.Γ :=
 az (.c .o (.l ⟨[(false, 5, (.own (.p (.i .i64) (.p .s (.p (.i .i64) (.i .i64)))) 60 true)), (false, 6, (.int .i64))], []⟩ (.c (.c .o (.c (.l ⟨[(false, 6, (.int .i64))], []⟩ .o) (.c (.l ⟨[(false, 6, (.int .i64))], []⟩ .o) (.c (.l ⟨[(false, 6, (.int .i64)), (false, 9, (.int .i64))], []⟩ .o) (.l ⟨[(false, 11, .str), (false, 12, (.int .i64))], []⟩ .o))))) .o))) Tryz.call13 Tryz.func13 (ok1 s9 (ok1 sa ok0)) ok0 ok0 fun _ => by kernel_rfl
def sW : Ent := ⟨14, [(.bx 58 0 false [(.own (.p (.i .i64) (.p .s (.p (.i .i64) (.i .i64)))) 60 false), (.int .i64), (.own .s 9 false), (.own (.p (.i .i64) (.i .i64)) 43 false), (.own (.i .i64) 3 false), (.own .s 9 false), (.own (.p (.i .i64) (.p .ex (.l (.p (.i .i64) .ex)))) 41 false), (.int .i64), (.int .i64)]), (.int .i64), .str], .bool, [], fun s => bd s.2.2.2.2.2.2.2.2.2.1 s.2.2.2.2.2.2.2.2.2.2 s.1 s.2.1 s.2.2.1 s.2.2.2.1 s.2.2.2.2.1 s.2.2.2.2.2.1 s.2.2.2.2.2.2.1 s.2.2.2.2.2.2.2.1 s.2.2.2.2.2.2.2.2.1⟩
theorem eP : (sW).Ok X0.P X0.Γ :=
 az .o Tryz.call14 Tryz.func14 ok0 ok0 ok0 fun _ => by kernel_rfl
def wS : Ent := ⟨46, [.str], .bool, [], fun s => fH s⟩
theorem mV : (wS).Ok X0.P X0.Γ :=
 az (.s (.s (.s (.j ⟨[(false, 4, .bool)], []⟩ .o .o)))) Tryz.call46 Tryz.func46 ok0 ok0 ok0 fun _ => by kernel_rfl
def rI : Ent := ⟨15, [(.bx 58 0 true [(.own (.p (.i .i64) (.p .s (.p (.i .i64) (.i .i64)))) 60 false), (.int .i64), (.own .s 9 false), (.own (.p (.i .i64) (.i .i64)) 43 false), (.own (.i .i64) 3 false), (.own .s 9 false), (.own (.p (.i .i64) (.p .ex (.l (.p (.i .i64) .ex)))) 41 false), (.int .i64), (.int .i64)]), (.int .i64), (.int .i64)], (.tup []), [(true, 0, (.bx 58 0 true [.same, .same, .same, .same, .same, .same, .same, (.int .i64), (.int .i64)]))], fun s => ao s.2.2.2.2.2.2.2.2.2.1 s.2.2.2.2.2.2.2.2.2.2 s.1 s.2.1 s.2.2.1 s.2.2.2.1 s.2.2.2.2.1 s.2.2.2.2.2.1 s.2.2.2.2.2.2.1 s.2.2.2.2.2.2.2.1 s.2.2.2.2.2.2.2.2.1⟩
theorem bP : (rI).Ok X0.P X0.Γ :=
 az .o Tryz.call15 Tryz.func15 ok0 ok0 ok0 fun _ => by kernel_rfl
def sK : Ent := ⟨47, [(.own .s 9 false), .str], (.int .i64), [], fun s => bR s.1 s.2⟩
theorem kx : (sK).Ok X0.P X0.Γ :=
 az (.l ⟨[(false, 5, (.int .i64))], []⟩ .o) Tryz.call47 Tryz.func47 ok0 ok0 ok0 fun _ => by kernel_rfl
def rb : Ent := ⟨18, [(.bx 58 0 true [(.own (.p (.i .i64) (.p .s (.p (.i .i64) (.i .i64)))) 60 false), (.int .i64), (.own .s 9 false), (.own (.p (.i .i64) (.i .i64)) 43 false), (.own (.i .i64) 3 false), (.own .s 9 false), (.own (.p (.i .i64) (.p .ex (.l (.p (.i .i64) .ex)))) 41 false), (.int .i64), (.int .i64)]), .bool], .str, [(true, 0, (.bx 58 0 true [.same, (.int .i64), .same, .same, .same, .same, .same, (.int .i64), (.int .i64)]))], fun s => ez s.2.2.2.2.2.2.2.2.2 s.1 s.2.1 s.2.2.1 s.2.2.2.1 s.2.2.2.2.1 s.2.2.2.2.2.1 s.2.2.2.2.2.2.1 s.2.2.2.2.2.2.2.1 s.2.2.2.2.2.2.2.2.1⟩
theorem j5 : (rb).Ok X0.P X0.Γ :=
 az .o Tryz.call18 Tryz.func18 (ok1 mV (ok1 bP (ok1 kx ok0))) ok0 ok0 fun _ => by kernel_rfl
def qW : Ent := ⟨16, [(.bx 58 0 false [(.own (.p (.i .i64) (.p .s (.p (.i .i64) (.i .i64)))) 60 false), (.int .i64), (.own .s 9 false), (.own (.p (.i .i64) (.i .i64)) 43 false), (.own (.i .i64) 3 false), (.own .s 9 false), (.own (.p (.i .i64) (.p .ex (.l (.p (.i .i64) .ex)))) 41 false), (.int .i64), (.int .i64)])], (.int .i64), [], fun s => aF s.1 s.2.1 s.2.2.1 s.2.2.2.1 s.2.2.2.2.1 s.2.2.2.2.2.1 s.2.2.2.2.2.2.1 s.2.2.2.2.2.2.2.1 s.2.2.2.2.2.2.2.2⟩
theorem ew : (qW).Ok X0.P X0.Γ :=
 az .o Tryz.call16 Tryz.func16 ok0 ok0 ok0 fun _ => by kernel_rfl
def ru : Ent := ⟨19, [(.bx 58 0 true [(.own (.p (.i .i64) (.p .s (.p (.i .i64) (.i .i64)))) 60 false), (.int .i64), (.own .s 9 false), (.own (.p (.i .i64) (.i .i64)) 43 false), (.own (.i .i64) 3 false), (.own .s 9 false), (.own (.p (.i .i64) (.p .ex (.l (.p (.i .i64) .ex)))) 41 false), (.int .i64), (.int .i64)]), .str], (.tup []), [(true, 0, (.bx 58 0 true [.same, (.int .i64), .same, .same, .same, .same, .same, (.int .i64), (.int .i64)]))], fun s => aR s.2.2.2.2.2.2.2.2.2 s.1 s.2.1 s.2.2.1 s.2.2.2.1 s.2.2.2.2.1 s.2.2.2.2.2.1 s.2.2.2.2.2.2.1 s.2.2.2.2.2.2.2.1 s.2.2.2.2.2.2.2.2.1⟩
theorem gb : (ru).Ok X0.P X0.Γ :=
 az .o Tryz.call19 Tryz.func19 (ok1 eP (ok1 ew (ok1 bP ok0))) ok0 ok0 fun _ => by kernel_rfl
def uc : Ent := ⟨82, [(.int .i64)], .bool, [], fun s => ij s⟩
theorem rh : (uc).Ok X0.P X0.Γ :=
 az .o Tryz.call82 Tryz.func82 ok0 ok0 ok0 fun _ => by kernel_rfl
def pE : Ent := ⟨83, [(.bx 106 0 true [(.own (.p (.i .i64) (.p .s (.p (.i .i64) (.i .i64)))) 60 false), (.int .i64), (.own .s 9 false), (.int .i64), (.int .i64)]), (.int .i64)], (.dat .ex [some 77]), [(true, 0, (.bx 106 0 true [.same, .same, .same, (.int .i64), (.int .i64)]))], fun s => aO s.2.2.2.2.2 s.1 s.2.1 s.2.2.1 s.2.2.2.1 s.2.2.2.2.1⟩
theorem iS : (pE).Ok X0.P X0.Γ :=
 az (.c (.r [0] .o) .o) Tryz.call83 Tryz.func83 ok0 ok0 ok0 fun _ => by kernel_rfl
def qk (k7 : TK7) : Ent := ⟨84, [(.bx 106 0 true [(.own (.p (.i .i64) (.p .s (.p (.i .i64) (.i .i64)))) 60 false), (.int .i64), (.own .s 9 false), (.int .i64), (.int .i64)]), (.int .i64)], (.dat .ex [some 77]), [(true, 0, (.bx 106 0 true [.same, (.int .i64), .same, (.int .i64), (.int .i64)]))], fun s => cO k7 s.2.2.2.2.2 s.1 s.2.1 s.2.2.1 s.2.2.2.1 s.2.2.2.2.1⟩
def oS (eta : Ex → Ex) (_du : (R : Type) → Option R → Option R) (l : Q1) (at_ : Int) (names : Q6) (bad : Int) (place : Int) (e12 : Q10) (again50 : Int → Option Q8) (i49 : Int) : Option Q8 :=
bif (decide (i49 < (List.length names : Int))) then (
(idx names i49).bind fun e54 =>
bif (e54 == e12.2.1) then (
some ((Ex.mk 2 i49 e12.2.2.2 []), (IntKind.i64.wrap (at_ + 1)), bad, place))
else (
again50 (IntKind.i64.wrap (i49 + 1))))
else (
(aO 3 l at_ names bad place).bind fun r59 =>
some ((eta r59.1), at_, r59.2.1, r59.2.2))
def gI (eta : Ex → Ex) (du : (R : Type) → Option R → Option R) (ae : Q13 → Option Q8) (deep : Int) (l : Q1) (at_ : Int) (names : Q6) (bad : Int) (place : Int) : Option Q8 :=
(idx l at_).bind fun e12 =>
bif (e12.1 == 2) then (
some ((Ex.mk 1 e12.2.2.1 e12.2.2.2 []), (IntKind.i64.wrap (at_ + 1)), bad, place))
else (
ab (e12.1 == 1) fun b20 =>
ab (e12.2.1 == [116, 114, 117, 101]) fun b22 =>
ab (b20 && b22) fun b24 =>
bif b24 then (
some ((Ex.mk 13 0 e12.2.2.2 []), (IntKind.i64.wrap (at_ + 1)), bad, place))
else (
ab (e12.1 == 1) fun b29 =>
ab (e12.2.1 == [102, 97, 108, 115, 101]) fun b31 =>
ab (b29 && b31) fun b33 =>
bif b33 then (
some ((Ex.mk 14 0 e12.2.2.2 []), (IntKind.i64.wrap (at_ + 1)), bad, place))
else (
(fH e12.2.1).bind fun r38 =>
ab (e12.1 == 1) fun b41 =>
ab (!r38) fun b43 =>
ab (b41 && b43) fun b45 =>
bif b45 then (
aj (oS eta du l at_ names bad place e12) al 0)
else (
ab (e12.1 != 3) fun b65 =>
ab (e12.2.1 != [40]) fun b67 =>
ab (b65 || b67) fun b69 =>
bif b69 then (
(aO 2 l at_ names bad place).bind fun r72 =>
some ((eta r72.1), at_, r72.2.1, r72.2.2))
else (
(ae (1, deep, l, (IntKind.i64.wrap (at_ + 1)), names, bad, place)).bind fun r79 =>
bif (r79.2.2.1 != 0) then (
some ((Ex.mk 0 0 0 []), r79.2.1, r79.2.2.1, r79.2.2.2))
else (
(idx l r79.2.1).bind fun e91 =>
ab (e91.1 != 3) fun b93 =>
ax (!b93) (0, [], 0, 0) (idx l r79.2.1) fun e95 =>
ab (e95.2.1 != [41]) fun b97 =>
ab (b93 || b97) fun b99 =>
bif b99 then (
(aO 2 l r79.2.1 names r79.2.2.1 r79.2.2.2).bind fun r102 =>
some ((eta r102.1), r79.2.1, r102.2.1, r102.2.2))
else (
some ((eta r79.1), (IntKind.i64.wrap (r79.2.1 + 1)), r79.2.2.1, r79.2.2.2))))))))
theorem oV (k7 : TK7) (i7 : OK7 k7) : (qk k7).Ok X0.P X0.Γ :=
 az (.r [] (.c .o (.c .o (.c .o (.c (.l ⟨[(true, 0, (.bx 106 0 true [.same, .same, .same, .same, .same])), (true, 4, (.bx 38 0 true [.same, .same, .same, .same])), (false, 7, (.int .i64))], []⟩ .o) .o))))) Tryz.call84 Tryz.func84 (ok1 mV (ok1 iS (ok1 i7 ok0))) ok0 ok0 fun s => (show _ = gI bX duE k7 s.2.2.2.2.2 s.1 s.2.1 s.2.2.1 s.2.2.2.1 s.2.2.2.2.1 from by kernel_rfl).trans ((congrArg (fun eta => gI eta duE k7 s.2.2.2.2.2 s.1 s.2.1 s.2.2.1 s.2.2.2.1 s.2.2.2.2.1) aB).trans ((congrArg (fun du => gI id du k7 s.2.2.2.2.2 s.1 s.2.1 s.2.2.1 s.2.2.2.1 s.2.2.2.2.1) aL).trans (by kernel_rfl)))
def xD : Ent := ⟨85, [(.dat (.p (.i .i64) (.p .s (.p (.i .i64) (.i .i64)))) []), (.int .i64)], (.int .i64), [], fun s => bO s.1 s.2⟩
theorem u7 : (xD).Ok X0.P X0.Γ :=
 az (.c (.c .o (.c .o (.c .o (.c .o (.c .o (.c (.l ⟨[(false, 7, (.int .i64))], []⟩ .o) .o)))))) .o) Tryz.call85 Tryz.func85 ok0 ok0 ok0 fun _ => by kernel_rfl
def j9 : Ent := ⟨73, [(.bx 106 0 true [(.own (.p (.i .i64) (.p .s (.p (.i .i64) (.i .i64)))) 60 false), (.int .i64), (.own .s 9 false), (.int .i64), (.int .i64)]), (.int .i64), (.int .i64)], (.dat .ex [some 77]), [(true, 0, (.bx 106 0 true [.same, (.int .i64), .same, (.int .i64), (.int .i64)]))], fun s => eN s.2.2.2.2.2.1 s.2.2.2.2.2.2 s.1 s.2.1 s.2.2.1 s.2.2.2.1 s.2.2.2.2.1⟩
def ov (eta : Ex → Ex) (_du : (R : Type) → Option R → Option R) (ae : Q13 → Option Q8) (l : Q1) (at_ : Int) (names : Q6) (bad : Int) (place : Int) (deep16 : Int) (e30 : Q10) (k43 : Int) : Option Q8 :=
bif (k43 == 0) then (
(ae (7, deep16, l, at_, names, bad, place)).bind fun r45 =>
some ((eta r45.1), r45.2.1, r45.2.2.1, r45.2.2.2))
else (
(ae (6, deep16, l, (IntKind.i64.wrap (at_ + 1)), names, bad, place)).bind fun r52 =>
some ((Ex.mk k43 0 e30.2.2.2 ([(eta r52.1)] : List Ex)), r52.2.1, r52.2.2.1, r52.2.2.2))
def ot (eta : Ex → Ex) (du : (R : Type) → Option R → Option R) (ae : Q13 → Option Q8) (l : Q1) (at_ : Int) (names : Q6) (bad : Int) (place : Int) (deep16 : Int) (e30 : Q10) (k41 : Int) : Option Q8 :=
ab (fun (s64 : Int) => ov eta du ae l at_ names bad place deep16 e30 s64) fun kk63 =>
ab (e30.1 == 1) fun b65 =>
ab (e30.2.1 == [71]) fun b67 =>
ab (b65 && b67) fun b69 =>
bif b69 then (
kk63 22)
else (
kk63 k41)
def oh (eta : Ex → Ex) (du : (R : Type) → Option R → Option R) (ae : Q13 → Option Q8) (l : Q1) (at_ : Int) (names : Q6) (bad : Int) (place : Int) (deep16 : Int) (e30 : Q10) (k39 : Int) : Option Q8 :=
ab (fun (s73 : Int) => ot eta du ae l at_ names bad place deep16 e30 s73) fun kk72 =>
ab (e30.1 == 1) fun b74 =>
ab (e30.2.1 == [70]) fun b76 =>
ab (b74 && b76) fun b78 =>
bif b78 then (
kk72 21)
else (
kk72 k39)
def od (eta : Ex → Ex) (du : (R : Type) → Option R → Option R) (ae : Q13 → Option Q8) (l : Q1) (at_ : Int) (names : Q6) (bad : Int) (place : Int) (deep16 : Int) (e30 : Q10) (k37 : Int) : Option Q8 :=
ab (fun (s82 : Int) => oh eta du ae l at_ names bad place deep16 e30 s82) fun kk81 =>
ab (e30.1 == 1) fun b83 =>
ab (e30.2.1 == [88]) fun b85 =>
ab (b83 && b85) fun b87 =>
bif b87 then (
kk81 20)
else (
kk81 k37)
def oq (eta : Ex → Ex) (_du : (R : Type) → Option R → Option R) (ae : Q13 → Option Q8) (strength : Int) (l : Q1) (names : Q6) (deep16 : Int) (again143 : (Int × Int × Int × Int × Int × Int × (List Ex)) → Option Q8) : Int × Int × Int × Int × Int × Int × (List Ex) → Option Q8 := fun ⟨c134, c135, c136, c137, c138, c139, c140⟩ =>
bif (c135 == 0) then (
(idx l c134).bind fun e147 =>
(bO e147 strength).bind fun r152 =>
bif (r152 == 0) then (
some ((Ex.mk c137 c138 c139 c140), c134, c135, c136))
else (
ab (strength == 1) fun b158 =>
ab (strength == 2) fun b160 =>
ab (b158 || b160) fun b162 =>
ab (strength == 5) fun b164 =>
ab (b162 || b164) fun b166 =>
bif b166 then (
(ae (strength, deep16, l, (IntKind.i64.wrap (c134 + 1)), names, c135, c136)).bind fun r169 =>
some ((Ex.mk r152 0 e147.2.2.2 ([(Ex.mk c137 c138 c139 c140), (eta r169.1)] : List Ex)), r169.2.1, r169.2.2.1, r169.2.2.2))
else (
(ae ((IntKind.i64.wrap (strength + 1)), deep16, l, (IntKind.i64.wrap (c134 + 1)), names, c135, c136)).bind fun r180 =>
bif (strength == 7) then (
some ((Ex.mk r152 0 e147.2.2.2 ([(Ex.mk c137 c138 c139 c140), (eta r180.1)] : List Ex)), r180.2.1, r180.2.2.1, r180.2.2.2))
else (
again143 (r180.2.1, r180.2.2.1, r180.2.2.2, r152, 0, e147.2.2.2, ([(Ex.mk c137 c138 c139 c140), (eta r180.1)] : List Ex))))))
else (
some ((Ex.mk c137 c138 c139 c140), c134, c135, c136))
def og (eta : Ex → Ex) (du : (R : Type) → Option R → Option R) (ae : Q13 → Option Q8) (strength : Int) (l : Q1) (at_ : Int) (names : Q6) (bad : Int) (place : Int) (r12 : Bool) (deep16 : Int) : Option Q8 :=
ab (decide (320 < deep16)) fun b17 =>
ab (r12 && b17) fun b19 =>
bif b19 then (
(aO 9 l at_ names bad place).bind fun r22 =>
some ((eta r22.1), at_, r22.2.1, r22.2.2))
else (
(idx l at_).bind fun e30 =>
bif (strength == 6) then (
ab (fun (s91 : Int) => od eta du ae l at_ names bad place deep16 e30 s91) fun kk90 =>
ab (e30.1 == 3) fun b92 =>
ab (e30.2.1 == [33]) fun b94 =>
ab (b92 && b94) fun b96 =>
bif b96 then (
kk90 15)
else (
kk90 0))
else (
bif (strength == 10) then (
ab (e30.1 != 3) fun b100 =>
ab (e30.2.1 != [45]) fun b102 =>
ab (b100 || b102) fun b104 =>
bif b104 then (
(cO ae deep16 l at_ names bad place).bind fun r107 =>
some ((eta r107.1), r107.2.1, r107.2.2.1, r107.2.2.2))
else (
(ae (10, deep16, l, (IntKind.i64.wrap (at_ + 1)), names, bad, place)).bind fun r114 =>
some ((Ex.mk 6 0 e30.2.2.2 ([(eta r114.1)] : List Ex)), r114.2.1, r114.2.2.1, r114.2.2.2)))
else (
(ae ((IntKind.i64.wrap (strength + 1)), deep16, l, at_, names, bad, place)).bind fun r125 =>
aj (oq eta du ae strength l names deep16) al (r125.2.1, r125.2.2.1, r125.2.2.2, r125.1.op, r125.1.n, r125.1.at_, r125.1.l))))
def fB (eta : Ex → Ex) (du : (R : Type) → Option R → Option R) (ae : Q13 → Option Q8) (strength : Int) (deep : Int) (l : Q1) (at_ : Int) (names : Q6) (bad : Int) (place : Int) : Option Q8 :=
bif (bad != 0) then (
some ((Ex.mk 0 0 0 []), at_, bad, place))
else (
(ij strength).bind fun r12 =>
ab (fun (s195 : Int) => og eta du ae strength l at_ names bad place r12 s195) fun kk194 =>
bif r12 then (
kk194 (IntKind.i64.wrap (deep + 1)))
else (
kk194 deep))
def ka : TK7 → TK7 := fun k7 s => cz k7 s.1 s.2.1 s.2.2.1 s.2.2.2.1 s.2.2.2.2.1 s.2.2.2.2.2.1 s.2.2.2.2.2.2
theorem mR (k7 : TK7) (i7 : OK7 k7) : (dT (ka k7)).Ok X0.P X0.Γ :=
 az (.c .o (.s (.j ⟨[(false, 2, (.int .i64))], []⟩ .o (.c .o (.r [] (.c (.s (.j ⟨[(false, 9, (.int .i64))], []⟩ .o (.j ⟨[(false, 9, (.int .i64))], []⟩ .o (.j ⟨[(false, 9, (.int .i64))], []⟩ .o (.j ⟨[(false, 9, (.int .i64))], []⟩ .o .o))))) (.c .o (.l ⟨[(true, 0, (.bx 106 0 true [.same, (.int .i64), .same, (.int .i64), (.int .i64)])), (true, 6, (.bx 38 0 true [.same, .same, .same, .same])), (true, 12, (.bx 38 0 true [(.int .i64), (.int .i64), (.int .i64), (.own .ex 38 true)]))], []⟩ .o)))))))) Tryz.call73 Tryz.func73 (ok1 rh (ok1 iS (ok1 i7 (ok1 (oV k7 i7) (ok1 u7 ok0))))) ok0 ok0 fun s => (show _ = fB bX duE k7 s.2.2.2.2.2.1 s.2.2.2.2.2.2 s.1 s.2.1 s.2.2.1 s.2.2.2.1 s.2.2.2.2.1 from by kernel_rfl).trans ((congrArg (fun eta => fB eta duE k7 s.2.2.2.2.2.1 s.2.2.2.2.2.2 s.1 s.2.1 s.2.2.1 s.2.2.2.1 s.2.2.2.2.1) aB).trans ((congrArg (fun du => fB id du k7 s.2.2.2.2.2.1 s.2.2.2.2.2.2 s.1 s.2.1 s.2.2.1 s.2.2.2.1 s.2.2.2.2.1) aL).trans (by kernel_rfl)))
theorem ou : (j9).Ok X0.P X0.Γ := (show j9 = dT (aj (ka) al) by kernel_rfl) ▸ jg (X := X0) (E := dT) ⟨Tryz.call73, fun _ _ h => nomatch h⟩ (mR) al
def sn : Ent := ⟨61, [(.own (.p (.i .i64) (.p .s (.p (.i .i64) (.i .i64)))) 60 false), (.int .i64), (.own .s 9 false)], (.tup [(.dat .ex [some 77]), (.int .i64), (.int .i64), (.int .i64)]), [], fun s => dE s.1 s.2.1 s.2.2⟩
def iK (eta : Ex → Ex) (_du : (R : Type) → Option R → Option R) (l : Q1) (at_ : Int) (names : Q6) : Option Q8 :=
(eN 1 0 l at_ names 0 0).bind fun r14 =>
bif (r14.2.2.1 != 0) then (
some ((Ex.mk 0 0 0 []), 0, r14.2.2.1, r14.2.2.2))
else (
some ((eta r14.1), r14.2.1, 0, 0))
theorem p7 : (sn).Ok X0.P X0.Γ :=
 az (.c (.r [6] .o) (.r [6] .o)) Tryz.call61 Tryz.func61 (ok1 ou ok0) ok0 ok0 fun s => (show _ = iK bX duE s.1 s.2.1 s.2.2 from by kernel_rfl).trans ((congrArg (fun eta => iK eta duE s.1 s.2.1 s.2.2) aB).trans ((congrArg (fun du => iK id du s.1 s.2.1 s.2.2) aL).trans (by kernel_rfl)))
def oW : Ent := ⟨62, [(.dat .ex [none])], (.tup [(.int .i64), (.int .i64), (.int .i64)]), [], fun s => fe s⟩
def s8 (eta : Ex → Ex) (_du : (R : Type) → Option R → Option R) (dq : Ex → Option Q9) (e : Ex) (again12 : Q18 → Option Q9) : Int × Int × Int × Int → Option Q9 := fun ⟨ints8, bools9, times10, i11⟩ =>
bif (decide (i11 < (List.length e.l : Int))) then (
(idx e.l i11).bind fun e14 =>
(dq (eta e14)).bind fun r20 =>
bif (r20.2.1 != 0) then (
some (0, r20.2.1, r20.2.2))
else (
ab (fun (s33 : Int) => j7 bools9 times10 i11 again12 r20 s33) fun kk32 =>
bif (r20.1 == 1) then (
kk32 (IntKind.i64.wrap (ints8 + 1)))
else (
kk32 ints8)))
else (
ab (decide (e.op ≤ 6)) fun b35 =>
ab (ints8 == (List.length e.l : Int)) fun b37 =>
ab (b35 && b37) fun b39 =>
bif b39 then (
some (1, 0, 0))
else (
ab (decide (7 ≤ e.op)) fun b42 =>
ab (decide (e.op ≤ 12)) fun b44 =>
ab (b42 && b44) fun b46 =>
ab (ints8 == (List.length e.l : Int)) fun b48 =>
ab (b46 && b48) fun b50 =>
ab (e.op == 13) fun b52 =>
ab (b50 || b52) fun b54 =>
ab (e.op == 14) fun b56 =>
ab (b54 || b56) fun b58 =>
bif b58 then (
some (2, 0, 0))
else (
ab (decide (15 ≤ e.op)) fun b61 =>
ab (decide (e.op ≤ 19)) fun b63 =>
ab (b61 && b63) fun b65 =>
ab (bools9 == (List.length e.l : Int)) fun b67 =>
ab (b65 && b67) fun b69 =>
bif b69 then (
some (2, 0, 0))
else (
ab (decide (15 ≤ e.op)) fun b72 =>
ab ((IntKind.i64.wrap (bools9 + times10)) == (List.length e.l : Int)) fun b74 =>
ab (b72 && b74) fun b76 =>
bif b76 then (
some (3, 0, 0))
else (
some (0, 4, e.at_))))))
def jD (eta : Ex → Ex) (du : (R : Type) → Option R → Option R) (dq : Ex → Option Q9) (e : Ex) : Option Q9 :=
aj (s8 eta du dq e) al (0, 0, 0, 0)
def oP : TK8 → TK8 := fun k8 s => fu k8 s
theorem rq (k8 : TK8) (i8 : OK8 k8) : (gY (oP k8)).Ok X0.P X0.Γ :=
 az (.l ⟨[(false, 5, (.int .i64)), (false, 6, (.int .i64)), (false, 7, (.int .i64)), (false, 8, (.int .i64))], []⟩ (.c (.c .o (.j ⟨[(false, 5, (.int .i64))], []⟩ .o (.j ⟨[(false, 6, (.int .i64))], []⟩ .o .o))) .o)) Tryz.call62 Tryz.func62 (ok1 i8 ok0) ok0 ok0 fun s => (show _ = jD bX duE k8 s from by kernel_rfl).trans ((congrArg (fun eta => jD eta duE k8 s) aB).trans ((congrArg (fun du => jD id du k8 s) aL).trans (by kernel_rfl)))
theorem tJ : (oW).Ok X0.P X0.Γ := (show oW = gY (aj (oP) al) by kernel_rfl) ▸ jg (X := X0) (E := gY) ⟨Tryz.call62, fun _ _ h => nomatch h⟩ (rq) al
def tG : Ent := ⟨62, [(.dat .ex [some 76])], (.tup [(.int .i64), (.int .i64), (.int .i64)]), [], fun s => fc s⟩
def qL (eta : Ex → Ex) (_du : (R : Type) → Option R → Option R) (e : Ex) (again12 : Q18 → Option Q9) : Int × Int × Int × Int → Option Q9 := fun ⟨ints8, bools9, times10, i11⟩ =>
bif (decide (i11 < (List.length e.l : Int))) then (
(idx e.l i11).bind fun e14 =>
(fe (eta e14)).bind fun r20 =>
bif (r20.2.1 != 0) then (
some (0, r20.2.1, r20.2.2))
else (
ab (fun (s33 : Int) => mo bools9 times10 i11 again12 r20 s33) fun kk32 =>
bif (r20.1 == 1) then (
kk32 (IntKind.i64.wrap (ints8 + 1)))
else (
kk32 ints8)))
else (
ab (decide (e.op ≤ 6)) fun b35 =>
ab (ints8 == (List.length e.l : Int)) fun b37 =>
ab (b35 && b37) fun b39 =>
bif b39 then (
some (1, 0, 0))
else (
ab (decide (7 ≤ e.op)) fun b42 =>
ab (decide (e.op ≤ 12)) fun b44 =>
ab (b42 && b44) fun b46 =>
ab (ints8 == (List.length e.l : Int)) fun b48 =>
ab (b46 && b48) fun b50 =>
ab (e.op == 13) fun b52 =>
ab (b50 || b52) fun b54 =>
ab (e.op == 14) fun b56 =>
ab (b54 || b56) fun b58 =>
bif b58 then (
some (2, 0, 0))
else (
ab (decide (15 ≤ e.op)) fun b61 =>
ab (decide (e.op ≤ 19)) fun b63 =>
ab (b61 && b63) fun b65 =>
ab (bools9 == (List.length e.l : Int)) fun b67 =>
ab (b65 && b67) fun b69 =>
bif b69 then (
some (2, 0, 0))
else (
ab (decide (15 ≤ e.op)) fun b72 =>
ab ((IntKind.i64.wrap (bools9 + times10)) == (List.length e.l : Int)) fun b74 =>
ab (b72 && b74) fun b76 =>
bif b76 then (
some (3, 0, 0))
else (
some (0, 4, e.at_))))))
def iW (eta : Ex → Ex) (du : (R : Type) → Option R → Option R) (e : Ex) : Option Q9 :=
aj (qL eta du e) al (0, 0, 0, 0)
theorem qG : (tG).Ok X0.P X0.Γ :=
 az (.l ⟨[(false, 5, (.int .i64)), (false, 6, (.int .i64)), (false, 7, (.int .i64)), (false, 8, (.int .i64))], []⟩ (.c (.c .o (.j ⟨[(false, 5, (.int .i64))], []⟩ .o (.j ⟨[(false, 6, (.int .i64))], []⟩ .o .o))) .o)) Tryz.call62 Tryz.func62 (ok1 tJ ok0) ok0 ok0 fun s => (show _ = iW bX duE s from by kernel_rfl).trans ((congrArg (fun eta => iW eta duE s) aB).trans ((congrArg (fun du => iW id du s) aL).trans (by kernel_rfl)))
def nZ : Ent := ⟨48, [(.bx 58 0 true [(.own (.p (.i .i64) (.p .s (.p (.i .i64) (.i .i64)))) 60 false), (.int .i64), (.own .s 9 false), (.own (.p (.i .i64) (.i .i64)) 43 false), (.own (.i .i64) 3 false), (.own .s 9 false), (.own (.p (.i .i64) (.p .ex (.l (.p (.i .i64) .ex)))) 41 false), (.int .i64), (.int .i64)]), (.int .i64)], (.dat .ex [some 77]), [(true, 0, (.bx 58 0 true [.same, (.int .i64), .same, .same, .same, .same, .same, (.int .i64), (.int .i64)]))], fun s => bG s.2.2.2.2.2.2.2.2.2 s.1 s.2.1 s.2.2.1 s.2.2.2.1 s.2.2.2.2.1 s.2.2.2.2.2.1 s.2.2.2.2.2.2.1 s.2.2.2.2.2.2.2.1 s.2.2.2.2.2.2.2.2.1⟩
def mK (eta : Ex → Ex) (_du : (R : Type) → Option R → Option R) (r14 : Q8) (c32 : Int) (c33 : Int) : Option Q8 :=
some ((eta r14.1), r14.2.1, c32, c33)
def fl (eta : Ex → Ex) (du : (R : Type) → Option R → Option R) (want : Int) (l : Q1) (at_ : Int) (Names : Q6) (Schema : Q7) (Init : Q11) (Procs : Q6) (Cmd : Q2) (bad : Int) (place : Int) : Option Q8 :=
bif (bad != 0) then (
some ((Ex.mk 0 0 0 []), at_, bad, place))
else (
du _ (
(dE l at_ Names).bind fun r14 =>
bif (r14.2.2.1 != 0) then (
(ao r14.2.2.1 r14.2.2.2 l at_ Names Schema Init Procs Cmd bad place).bind fun r24 =>
some ((Ex.mk 0 0 0 []), at_, r24.1, r24.2))
else (
(fc (eta r14.1)).bind fun r28 =>
ab (fun (s37 : Int × Int) => mK eta du r14 s37.1 s37.2) fun kk36 =>
bif (r28.2.1 != 0) then (
(ao r28.2.1 r28.2.2 l at_ Names Schema Init Procs Cmd bad place).bind fun r39 =>
kk36 (r39.1, r39.2))
else (
bif (r28.1 != want) then (
(ao 4 r14.1.at_ l at_ Names Schema Init Procs Cmd bad place).bind fun r43 =>
kk36 (r43.1, r43.2))
else (
kk36 (bad, place))))))
theorem mG : (nZ).Ok X0.P X0.Γ :=
 az (.c .o (.r [0] (.c .o (.s (.j ⟨[(true, 0, (.bx 58 0 true [.same, .same, .same, .same, .same, .same, .same, (.int .i64), (.int .i64)]))], []⟩ .o .o))))) Tryz.call48 Tryz.func48 (ok1 p7 (ok1 bP (ok1 qG ok0))) ok0 ok0 fun s => (show _ = fl bX duE s.2.2.2.2.2.2.2.2.2 s.1 s.2.1 s.2.2.1 s.2.2.2.1 s.2.2.2.2.1 s.2.2.2.2.2.1 s.2.2.2.2.2.2.1 s.2.2.2.2.2.2.2.1 s.2.2.2.2.2.2.2.2.1 from by kernel_rfl).trans ((congrArg (fun eta => fl eta duE s.2.2.2.2.2.2.2.2.2 s.1 s.2.1 s.2.2.1 s.2.2.2.1 s.2.2.2.2.1 s.2.2.2.2.2.1 s.2.2.2.2.2.2.1 s.2.2.2.2.2.2.2.1 s.2.2.2.2.2.2.2.2.1) aB).trans ((congrArg (fun du => fl id du s.2.2.2.2.2.2.2.2.2 s.1 s.2.1 s.2.2.1 s.2.2.2.1 s.2.2.2.2.1 s.2.2.2.2.2.1 s.2.2.2.2.2.2.1 s.2.2.2.2.2.2.2.1 s.2.2.2.2.2.2.2.2.1) aL).trans (by kernel_rfl)))
def pJ : Ent := ⟨20, [(.bx 58 0 true [(.own (.p (.i .i64) (.p .s (.p (.i .i64) (.i .i64)))) 60 false), (.int .i64), (.own .s 9 false), (.own (.p (.i .i64) (.i .i64)) 43 false), (.own (.i .i64) 3 false), (.own .s 9 false), (.own (.p (.i .i64) (.p .ex (.l (.p (.i .i64) .ex)))) 41 true), (.int .i64), (.int .i64)])], (.tup []), [(true, 0, (.bx 58 0 true [.same, (.int .i64), .same, .same, .same, .same, (.own (.p (.i .i64) (.p .ex (.l (.p (.i .i64) .ex)))) 41 true), (.int .i64), (.int .i64)]))], fun s => eM s.1 s.2.1 s.2.2.1 s.2.2.2.1 s.2.2.2.2.1 s.2.2.2.2.2.1 s.2.2.2.2.2.2.1 s.2.2.2.2.2.2.2.1 s.2.2.2.2.2.2.2.2⟩
def oa (eta : Ex → Ex) (_du : (R : Type) → Option R → Option R) (l : Q1) (Names : Q6) (Schema : Q7) (Init : Q11) (Procs : Q6) (Cmd : Q2) (l28 : Q12) (again32 : Q19 → Option Q15) (r47 : Int) (c66 : Int) (c67 : Int) (c69 : Int) : Option Q15 :=
(aR [61] l c69 Names Schema Init Procs Cmd c66 c67).bind fun r70 =>
(bG 1 l r70.1 Names Schema Init Procs Cmd r70.2.1 r70.2.2).bind fun r73 =>
chk (bu (List.length l28 + List.length ([(r47, (eta r73.1))] : List Q21)) 56) <|
(bd 3 [44] l r73.2.1 Names Schema Init Procs Cmd r73.2.2.1 r73.2.2.2).bind fun r88 =>
bif r88 then (
again32 ((IntKind.i64.wrap (r73.2.1 + 1)), r73.2.2.1, r73.2.2.2, (l28 ++ ([(r47, (eta r73.1))] : List Q21)), r88))
else (
again32 (r73.2.1, r73.2.2.1, r73.2.2.2, (l28 ++ ([(r47, (eta r73.1))] : List Q21)), r88))
def om (eta : Ex → Ex) (du : (R : Type) → Option R → Option R) (l : Q1) (Names : Q6) (Schema : Q7) (Init : Q11) (Procs : Q6) (Cmd : Q2) (c25 : Int) (l28 : Q12) (again32 : Q19 → Option Q15) (r47 : Int) (c66 : Int) (c67 : Int) : Option Q15 :=
ab (fun (s94 : Int) => oa eta du l Names Schema Init Procs Cmd l28 again32 r47 c66 c67 s94) fun kk93 =>
bif (c66 == 0) then (
kk93 (IntKind.i64.wrap (c25 + 1)))
else (
kk93 c25)
def n4 (eta : Ex → Ex) (du : (R : Type) → Option R → Option R) (l : Q1) (Names : Q6) (Schema : Q7) (Init : Q11) (Procs : Q6) (Cmd : Q2) (c25 : Int) (c26 : Int) (c27 : Int) (l28 : Q12) (again32 : Q19 → Option Q15) (e40 : Q10) (r47 : Int) (again53 : (Bool × Int) → Option Q15) : Bool × Int → Option Q15 := fun ⟨twice51, k52⟩ =>
bif (decide (k52 < (List.length l28 : Int))) then (
ax (!twice51) (0, (Ex.mk 0 0 0 [])) (idx l28 k52) fun e55 =>
ab (e55.1 == r47) fun b61 =>
ab (twice51 || b61) fun b63 =>
again53 (b63, (IntKind.i64.wrap (k52 + 1))))
else (
ab (fun (s98 : Int × Int) => om eta du l Names Schema Init Procs Cmd c25 l28 again32 r47 s98.1 s98.2) fun kk97 =>
bif (e40.1 != 1) then (
(ao 2 e40.2.2.2 l c25 Names Schema Init Procs Cmd c26 c27).bind fun r100 =>
kk97 (r100.1, r100.2))
else (
ab (decide (r47 < 0)) fun b103 =>
ab (b103 || twice51) fun b105 =>
bif b105 then (
(ao 3 e40.2.2.2 l c25 Names Schema Init Procs Cmd c26 c27).bind fun r108 =>
kk97 (r108.1, r108.2))
else (
kk97 (c26, c27))))
def oc (eta : Ex → Ex) (du : (R : Type) → Option R → Option R) (l : Q1) (Names : Q6) (Schema : Q7) (Init : Q11) (Procs : Q6) (Cmd : Q2) (r15 : Q8) (again32 : Q19 → Option Q15) : Int × Int × Int × Q12 × Bool → Option Q15 := fun ⟨c25, c26, c27, l28, more31⟩ =>
ab (c26 == 0) fun b33 =>
ab (more31 && b33) fun b35 =>
bif b35 then (
(idx l c25).bind fun e40 =>
(bR Names e40.2.1).bind fun r47 =>
aj (n4 eta du l Names Schema Init Procs Cmd c25 c26 c27 l28 again32 e40 r47) al (false, 0))
else (
(aR [59] l c25 Names Schema Init Procs Cmd c26 c27).bind fun r111 =>
chk (bu (List.length Cmd + List.length ([((IntKind.i64.wrap ((List.length Procs : Int) - 1)), (eta r15.1), l28)] : List Q23)) 80) <|
some (r111.1, (Cmd ++ ([((IntKind.i64.wrap ((List.length Procs : Int) - 1)), (eta r15.1), l28)] : List Q23)), r111.2.1, r111.2.2))
def n3 (eta : Ex → Ex) (du : (R : Type) → Option R → Option R) (l : Q1) (at_ : Int) (Names : Q6) (Schema : Q7) (Init : Q11) (Procs : Q6) (Cmd : Q2) (c10 : Int) (c11 : Int) : Option Q15 :=
(bG 2 l at_ Names Schema Init Procs Cmd c10 c11).bind fun r15 =>
(aR [58] l r15.2.1 Names Schema Init Procs Cmd r15.2.2.1 r15.2.2.2).bind fun r21 =>
aj (oc eta du l Names Schema Init Procs Cmd r15) al (r21.1, r21.2.1, r21.2.2, [], true)
def fZ (eta : Ex → Ex) (du : (R : Type) → Option R → Option R) (l : Q1) (at_ : Int) (Names : Q6) (Schema : Q7) (Init : Q11) (Procs : Q6) (Cmd : Q2) (bad : Int) (place : Int) : Option Q15 :=
ab (fun (s124 : Int × Int) => n3 eta du l at_ Names Schema Init Procs Cmd s124.1 s124.2) fun kk123 =>
bif (decide (256 ≤ (List.length Cmd : Int))) then (
(aF l at_ Names Schema Init Procs Cmd bad place).bind fun r126 =>
(ao 9 r126 l at_ Names Schema Init Procs Cmd bad place).bind fun r129 =>
kk123 (r129.1, r129.2))
else (
kk123 (bad, place))
theorem ob : (pJ).Ok X0.P X0.Γ :=
 az (.j ⟨[(true, 0, (.bx 58 0 true [.same, .same, .same, .same, .same, .same, .same, (.int .i64), (.int .i64)]))], []⟩ .o (.l ⟨[(true, 0, (.bx 58 0 true [.same, (.int .i64), .same, .same, .same, .same, .same, (.int .i64), (.int .i64)])), (true, 2, (.bx 41 0 true [.same, .same, .same, .same, .same, (.own (.p (.i .i64) .ex) 45 true)])), (false, 3, .bool)], []⟩ (.c (.r [] (.r [0] (.l ⟨[(false, 6, .bool), (false, 7, (.int .i64))], []⟩ (.c .o (.j ⟨[(true, 0, (.bx 58 0 true [.same, .same, .same, .same, .same, .same, .same, (.int .i64), (.int .i64)]))], [4]⟩ .o (.j ⟨[(true, 0, (.bx 58 0 true [.same, (.int .i64), .same, .same, .same, .same, .same, .same, .same]))], []⟩ .o .o)))))) (.r [0, 2] .o)))) Tryz.call20 Tryz.func20 (ok1 mG (ok1 gb (ok1 kx (ok1 eP (ok1 bP (ok1 ew ok0)))))) ok0 ok0 fun s => (show _ = fZ bX duE s.1 s.2.1 s.2.2.1 s.2.2.2.1 s.2.2.2.2.1 s.2.2.2.2.2.1 s.2.2.2.2.2.2.1 s.2.2.2.2.2.2.2.1 s.2.2.2.2.2.2.2.2 from by kernel_rfl).trans ((congrArg (fun eta => fZ eta duE s.1 s.2.1 s.2.2.1 s.2.2.2.1 s.2.2.2.2.1 s.2.2.2.2.2.1 s.2.2.2.2.2.2.1 s.2.2.2.2.2.2.2.1 s.2.2.2.2.2.2.2.2) aB).trans ((congrArg (fun du => fZ id du s.1 s.2.1 s.2.2.1 s.2.2.2.1 s.2.2.2.2.1 s.2.2.2.2.2.1 s.2.2.2.2.2.2.1 s.2.2.2.2.2.2.2.1 s.2.2.2.2.2.2.2.2) aL).trans (by kernel_rfl)))
def qn : Ent := ⟨44, [(.bx 58 0 true [(.own (.p (.i .i64) (.p .s (.p (.i .i64) (.i .i64)))) 60 false), (.int .i64), (.own .s 9 false), (.own (.p (.i .i64) (.i .i64)) 43 false), (.own (.i .i64) 3 false), (.own .s 9 false), (.own (.p (.i .i64) (.p .ex (.l (.p (.i .i64) .ex)))) 41 false), (.int .i64), (.int .i64)])], (.int .i64), [(true, 0, (.bx 58 0 true [.same, (.int .i64), .same, .same, .same, .same, .same, (.int .i64), (.int .i64)]))], fun s => cP s.1 s.2.1 s.2.2.1 s.2.2.2.1 s.2.2.2.2.1 s.2.2.2.2.2.1 s.2.2.2.2.2.2.1 s.2.2.2.2.2.2.2.1 s.2.2.2.2.2.2.2.2⟩
theorem oF : (qn).Ok X0.P X0.Γ :=
 az (.s (.s (.j ⟨[(true, 0, (.bx 58 0 true [.same, (.int .i64), .same, .same, .same, .same, .same, .same, .same]))], []⟩ .o (.r [] (.j ⟨[(true, 0, (.bx 58 0 true [.same, .same, .same, .same, .same, .same, .same, (.int .i64), (.int .i64)]))], []⟩ .o .o))))) Tryz.call44 Tryz.func44 (ok1 eP (ok1 bP ok0)) ok0 ok0 fun _ => by kernel_rfl
def u6 : Ent := ⟨45, [(.sli (.p (.i .i64) (.i .i64)))], .bool, [], fun s => iO s⟩
theorem sV : (u6).Ok X0.P X0.Γ :=
 az (.c .o (.l ⟨[(false, 3, (.int .i64))], []⟩ .o)) Tryz.call45 Tryz.func45 ok0 ok0 ok0 fun _ => by kernel_rfl
def pr : Ent := ⟨17, [(.bx 58 0 true [(.own (.p (.i .i64) (.p .s (.p (.i .i64) (.i .i64)))) 60 false), (.int .i64), (.own .s 9 true), (.own (.p (.i .i64) (.i .i64)) 43 true), (.own (.i .i64) 3 true), (.own .s 9 false), (.own (.p (.i .i64) (.p .ex (.l (.p (.i .i64) .ex)))) 41 false), (.int .i64), (.int .i64)])], (.tup []), [(true, 0, (.bx 58 0 true [.same, (.int .i64), (.own .s 9 true), (.own (.p (.i .i64) (.i .i64)) 43 true), (.own (.i .i64) 3 true), .same, .same, (.int .i64), (.int .i64)]))], fun s => eE s.1 s.2.1 s.2.2.1 s.2.2.2.1 s.2.2.2.2.1 s.2.2.2.2.2.1 s.2.2.2.2.2.2.1 s.2.2.2.2.2.2.2.1 s.2.2.2.2.2.2.2.2⟩
theorem nu : (pr).Ok X0.P X0.Γ :=
 az (.s (.s (.s (.s (.s (.s (.s (.s (.j ⟨[(true, 0, (.bx 58 0 true [.same, .same, .same, .same, .same, .same, .same, (.int .i64), (.int .i64)]))], []⟩ .o (.r [0] .o)))))))))) Tryz.call17 Tryz.func17 (ok1 j5 (ok1 ew (ok1 oF (ok1 gb (ok1 sV (ok1 bP ok0)))))) ok0 ok0 fun _ => by kernel_rfl
def vg : Ent := ⟨6, [.str], (.tup [(.dat (.p (.l .s) (.p (.l (.p (.i .i64) (.i .i64))) (.p (.l (.i .i64)) (.p (.l .s) (.l (.p (.i .i64) (.p .ex (.l (.p (.i .i64) .ex))))))))) [some 19, some 87, some 7, some 19, some 83]), (.int .i64), (.int .i64)]), [], fun s => cT s⟩
theorem sI : (vg).Ok X0.P X0.Γ :=
 az (.c .o (.l ⟨[(true, 8, (.bx 58 0 true [.same, (.int .i64), (.own .s 9 true), (.own (.p (.i .i64) (.i .i64)) 43 true), (.own (.i .i64) 3 true), (.own .s 9 true), (.own (.p (.i .i64) (.p .ex (.l (.p (.i .i64) .ex)))) 41 true), (.int .i64), (.int .i64)]))], []⟩ (.c (.s (.s (.j ⟨[(true, 8, (.bx 58 0 true [.same, .same, .same, .same, .same, .same, .same, (.int .i64), (.int .i64)]))], []⟩ .o (.j ⟨[(true, 8, (.bx 58 0 true [.same, (.int .i64), .same, .same, .same, .same, .same, .same, .same]))], []⟩ .o (.j ⟨[(true, 8, (.bx 58 0 true [.same, (.int .i64), (.own .s 9 true), (.own (.p (.i .i64) (.i .i64)) 43 true), (.own (.i .i64) 3 true), .same, .same, (.int .i64), (.int .i64)]))], []⟩ .o (.c (.l ⟨[(true, 8, (.bx 58 0 true [.same, (.int .i64), .same, .same, .same, .same, (.own (.p (.i .i64) (.p .ex (.l (.p (.i .i64) .ex)))) 41 true), (.int .i64), (.int .i64)])), (false, 12, .bool)], []⟩ .o) .o)))))) (.j ⟨[(true, 8, (.bx 58 0 true [.same, .same, .same, .same, .same, .same, .same, (.int .i64), (.int .i64)]))], []⟩ .o (.c (.r [2] .o) .o))))) Tryz.call6 Tryz.func6 (ok1 rn (ok1 eP (ok1 j5 (ok1 gb (ok1 ob (ok1 nu (ok1 ew (ok1 bP ok0)))))))) ok0 ok0 fun _ => by kernel_rfl
def ve : Ent := ⟨21, [(.sli .s), (.sli .s)], .bool, [], fun s => dH s.1 s.2⟩
theorem sA : (ve).Ok X0.P X0.Γ :=
 az (.c .o (.l ⟨[(false, 5, (.int .i64))], []⟩ .o)) Tryz.call21 Tryz.func21 ok0 ok0 ok0 fun _ => by kernel_rfl
def wR : Ent := ⟨22, [(.sli (.i .i64)), (.sli (.i .i64))], .bool, [], fun s => ib s.1 s.2⟩
theorem uj : (wR).Ok X0.P X0.Γ :=
 az (.c .o (.l ⟨[(false, 5, (.int .i64))], []⟩ .o)) Tryz.call22 Tryz.func22 ok0 ok0 ok0 fun _ => by kernel_rfl
def pf : Ent := ⟨23, [(.dat .ex [none]), (.dat .ex [none])], .bool, [], fun s => fa s.1 s.2⟩
def tg (eta : Ex → Ex) (_du : (R : Type) → Option R → Option R) (dp : (Ex × Ex) → Option Bool) (a : Ex) (b : Ex) (again20 : Int → Option Bool) (i19 : Int) : Option Bool :=
bif (decide (i19 < (List.length a.l : Int))) then (
(idx a.l i19).bind fun e24 =>
(idx b.l i19).bind fun e30 =>
(dp ((eta e24), (eta e30))).bind fun r36 =>
bif (!r36) then (
some false)
else (
again20 (IntKind.i64.wrap (i19 + 1))))
else (
some true)
def jJ (eta : Ex → Ex) (du : (R : Type) → Option R → Option R) (dp : (Ex × Ex) → Option Bool) (a : Ex) (b : Ex) : Option Bool :=
ab (a.op != b.op) fun b7 =>
ab (a.n != b.n) fun b9 =>
ab (b7 || b9) fun b11 =>
ab ((List.length a.l : Int) != (List.length b.l : Int)) fun b13 =>
ab (b11 || b13) fun b15 =>
bif b15 then (
some false)
else (
aj (tg eta du dp a b) al 0)
def oK : TK9 → TK9 := fun k9 s => ec k9 s.1 s.2
theorem qR (k9 : TK9) (i9 : OK9 k9) : (g9 (oK k9)).Ok X0.P X0.Γ :=
 az (.c .o (.l ⟨[(false, 5, (.int .i64))], []⟩ .o)) Tryz.call23 Tryz.func23 (ok1 i9 ok0) ok0 ok0 fun s => (show _ = jJ bX duE k9 s.1 s.2 from by kernel_rfl).trans ((congrArg (fun eta => jJ eta duE k9 s.1 s.2) aB).trans ((congrArg (fun du => jJ id du k9 s.1 s.2) aL).trans (by kernel_rfl)))
theorem tq : (pf).Ok X0.P X0.Γ := (show pf = g9 (aj (oK) al) by kernel_rfl) ▸ jg (X := X0) (E := g9) ⟨Tryz.call23, fun _ _ h => nomatch h⟩ (qR) al
def vE : Ent := ⟨7, [(.dat (.p (.l .s) (.p (.l (.p (.i .i64) (.i .i64))) (.p (.l (.i .i64)) (.p (.l .s) (.l (.p (.i .i64) (.p .ex (.l (.p (.i .i64) .ex))))))))) [none, none, none, none, none]), (.dat (.p (.l .s) (.p (.l (.p (.i .i64) (.i .i64))) (.p (.l (.i .i64)) (.p (.l .s) (.l (.p (.i .i64) (.p .ex (.l (.p (.i .i64) .ex))))))))) [none, none, none, none, none])], .bool, [], fun s => gJ s.1 s.2⟩
def tF (eta : Ex → Ex) (_du : (R : Type) → Option R → Option R) (a : Q5) (b : Q5) (i47 : Int) (again48 : Int → Option Bool) (again118 : Int → Option Bool) (k117 : Int) : Option Bool :=
(idx a.2.2.2.2 i47).bind fun e119 =>
bif (decide (k117 < (List.length e119.2.2 : Int))) then (
(idx a.2.2.2.2 i47).bind fun e130 =>
(idx e130.2.2 k117).bind fun e138 =>
(idx b.2.2.2.2 i47).bind fun e144 =>
(idx e144.2.2 k117).bind fun e152 =>
(fa (eta e138.2) (eta e152.2)).bind fun r158 =>
ab (!r158) fun b163 =>
ax (!b163) (0, (Ex.mk 0 0 0 []), []) (idx a.2.2.2.2 i47) fun e165 =>
ax (!b163) (0, (Ex.mk 0 0 0 [])) (idx e165.2.2 k117) fun e173 =>
ax (!b163) (0, (Ex.mk 0 0 0 []), []) (idx b.2.2.2.2 i47) fun e179 =>
ax (!b163) (0, (Ex.mk 0 0 0 [])) (idx e179.2.2 k117) fun e187 =>
ab (e173.1 != e187.1) fun b193 =>
ab (b163 || b193) fun b195 =>
bif b195 then (
some false)
else (
again118 (IntKind.i64.wrap (k117 + 1))))
else (
again48 (IntKind.i64.wrap (i47 + 1)))
def tC (eta : Ex → Ex) (du : (R : Type) → Option R → Option R) (a : Q5) (b : Q5) (again48 : Int → Option Bool) (i47 : Int) : Option Bool :=
bif (decide (i47 < (List.length a.2.2.2.2 : Int))) then (
(idx a.2.2.2.2 i47).bind fun e52 =>
(idx b.2.2.2.2 i47).bind fun e60 =>
(fa (eta e52.2.1) (eta e60.2.1)).bind fun r68 =>
ab (!r68) fun b73 =>
ax (!b73) (0, (Ex.mk 0 0 0 []), []) (idx a.2.2.2.2 i47) fun e75 =>
ax (!b73) (0, (Ex.mk 0 0 0 []), []) (idx b.2.2.2.2 i47) fun e83 =>
ab (e75.1 != e83.1) fun b91 =>
ab (b73 || b91) fun b93 =>
ax (!b93) (0, (Ex.mk 0 0 0 []), []) (idx a.2.2.2.2 i47) fun e95 =>
ax (!b93) (0, (Ex.mk 0 0 0 []), []) (idx b.2.2.2.2 i47) fun e103 =>
ab ((List.length e95.2.2 : Int) != (List.length e103.2.2 : Int)) fun b111 =>
ab (b93 || b111) fun b113 =>
bif b113 then (
some false)
else (
aj (tF eta du a b i47 again48) al 0))
else (
some true)
def sZ (eta : Ex → Ex) (du : (R : Type) → Option R → Option R) (a : Q5) (b : Q5) (again37 : Int → Option Bool) (i36 : Int) : Option Bool :=
bif (decide (i36 < (List.length a.2.1 : Int))) then (
(idx a.2.1 i36).bind fun e41 =>
(idx b.2.1 i36).bind fun e43 =>
bif (!(yA e41.1 e41.2 e43.1 e43.2)) then (
some false)
else (
again37 (IntKind.i64.wrap (i36 + 1))))
else (
aj (tC eta du a b) al 0)
def kQ (eta : Ex → Ex) (du : (R : Type) → Option R → Option R) (a : Q5) (b : Q5) : Option Bool :=
(dH a.1 b.1).bind fun r7 =>
(dH a.2.2.2.1 b.2.2.2.1).bind fun r10 =>
(ib a.2.2.1 b.2.2.1).bind fun r13 =>
ab (!r7) fun b16 =>
ab (!r10) fun b18 =>
ab (b16 || b18) fun b20 =>
ab (!r13) fun b22 =>
ab (b20 || b22) fun b24 =>
ab ((List.length a.2.1 : Int) != (List.length b.2.1 : Int)) fun b26 =>
ab (b24 || b26) fun b28 =>
ab ((List.length a.2.2.2.2 : Int) != (List.length b.2.2.2.2 : Int)) fun b30 =>
ab (b28 || b30) fun b32 =>
bif b32 then (
some false)
else (
aj (sZ eta du a b) al 0)
theorem tn : (vE).Ok X0.P X0.Γ :=
 az (.c .o (.l ⟨[(false, 8, (.int .i64))], []⟩ (.c .o (.l ⟨[(false, 9, (.int .i64))], []⟩ (.c (.r [] (.r [] (.c .o (.l ⟨[(false, 11, (.int .i64))], []⟩ .o)))) .o))))) Tryz.call7 Tryz.func7 (ok1 sA (ok1 uj (ok1 tq ok0))) ok0 ok0 fun s => (show _ = kQ bX duE s.1 s.2 from by kernel_rfl).trans ((congrArg (fun eta => kQ eta duE s.1 s.2) aB).trans ((congrArg (fun du => kQ id du s.1 s.2) aL).trans (by kernel_rfl)))
def mX : Ent := ⟨24, [(.dat .ex [none]), (.dat .ex [none])], .bool, [], fun s => ea s.1 s.2⟩
def rm (eta : Ex → Ex) (_du : (R : Type) → Option R → Option R) (cM : (Ex × Ex) → Option Bool) (a : Ex) (b : Ex) (again24 : Int → Option Bool) (i23 : Int) : Option Bool :=
bif (decide (i23 < (List.length a.l : Int))) then (
(idx a.l i23).bind fun e28 =>
(idx b.l i23).bind fun e34 =>
(cM ((eta e28), (eta e34))).bind fun r40 =>
bif (!r40) then (
some false)
else (
again24 (IntKind.i64.wrap (i23 + 1))))
else (
some true)
def iI (eta : Ex → Ex) (du : (R : Type) → Option R → Option R) (cM : (Ex × Ex) → Option Bool) (a : Ex) (b : Ex) : Option Bool :=
ab (a.at_ != b.at_) fun b7 =>
ab (a.op != b.op) fun b9 =>
ab (b7 || b9) fun b11 =>
ab (a.n != b.n) fun b13 =>
ab (b11 || b13) fun b15 =>
ab ((List.length a.l : Int) != (List.length b.l : Int)) fun b17 =>
ab (b15 || b17) fun b19 =>
bif b19 then (
some false)
else (
aj (rm eta du cM a b) al 0)
def mS : El → El := fun k10 s => dG k10 s.1 s.2
theorem qh (k10 : El) (i10 : O0 k10) : (fS (mS k10)).Ok X0.P X0.Γ :=
 az (.c .o (.l ⟨[(false, 5, (.int .i64))], []⟩ .o)) Tryz.call24 Tryz.func24 (ok1 i10 ok0) ok0 ok0 fun s => (show _ = iI bX duE k10 s.1 s.2 from by kernel_rfl).trans ((congrArg (fun eta => iI eta duE k10 s.1 s.2) aB).trans ((congrArg (fun du => iI id du k10 s.1 s.2) aL).trans (by kernel_rfl)))
theorem rf : (mX).Ok X0.P X0.Γ := (show mX = fS (aj (mS) al) by kernel_rfl) ▸ jg (X := X0) (E := fS) ⟨Tryz.call24, fun _ _ h => nomatch h⟩ (qh) al
def ua : Ent := ⟨8, [(.dat (.p (.l .s) (.p (.l (.p (.i .i64) (.i .i64))) (.p (.l (.i .i64)) (.p (.l .s) (.l (.p (.i .i64) (.p .ex (.l (.p (.i .i64) .ex))))))))) [none, none, none, none, none]), (.dat (.p (.l .s) (.p (.l (.p (.i .i64) (.i .i64))) (.p (.l (.i .i64)) (.p (.l .s) (.l (.p (.i .i64) (.p .ex (.l (.p (.i .i64) .ex))))))))) [none, none, none, none, none])], .bool, [], fun s => ig s.1 s.2⟩
def qV (eta : Ex → Ex) (_du : (R : Type) → Option R → Option R) (a : Q5) (b : Q5) (i9 : Int) (again10 : Int → Option Bool) (again59 : Int → Option Bool) (k58 : Int) : Option Bool :=
(idx a.2.2.2.2 i9).bind fun e60 =>
bif (decide (k58 < (List.length e60.2.2 : Int))) then (
(idx a.2.2.2.2 i9).bind fun e71 =>
(idx e71.2.2 k58).bind fun e79 =>
(idx b.2.2.2.2 i9).bind fun e85 =>
(idx e85.2.2 k58).bind fun e93 =>
(ea (eta e79.2) (eta e93.2)).bind fun r99 =>
bif (!r99) then (
some false)
else (
again59 (IntKind.i64.wrap (k58 + 1))))
else (
again10 (IntKind.i64.wrap (i9 + 1)))
def ri (eta : Ex → Ex) (du : (R : Type) → Option R → Option R) (a : Q5) (b : Q5) (again10 : Int → Option Bool) (i9 : Int) : Option Bool :=
bif (decide (i9 < (List.length a.2.2.2.2 : Int))) then (
(idx a.2.2.2.2 i9).bind fun e14 =>
(idx b.2.2.2.2 i9).bind fun e23 =>
(ea (eta e14.2.1) (eta e23.2.1)).bind fun r31 =>
ab (!r31) fun b34 =>
ax (!b34) (0, (Ex.mk 0 0 0 []), []) (idx a.2.2.2.2 i9) fun e36 =>
ax (!b34) (0, (Ex.mk 0 0 0 []), []) (idx b.2.2.2.2 i9) fun e44 =>
ab ((List.length e36.2.2 : Int) != (List.length e44.2.2 : Int)) fun b52 =>
ab (b34 || b52) fun b54 =>
bif b54 then (
some false)
else (
aj (qV eta du a b i9 again10) al 0))
else (
some true)
def jH (eta : Ex → Ex) (du : (R : Type) → Option R → Option R) (a : Q5) (b : Q5) : Option Bool :=
bif ((List.length a.2.2.2.2 : Int) != (List.length b.2.2.2.2 : Int)) then (
some false)
else (
aj (ri eta du a b) al 0)
theorem q9 : (ua).Ok X0.P X0.Γ :=
 az (.c .o (.l ⟨[(false, 5, (.int .i64))], []⟩ (.c (.r [] (.c .o (.l ⟨[(false, 6, (.int .i64))], []⟩ .o))) .o))) Tryz.call8 Tryz.func8 (ok1 rf ok0) ok0 ok0 fun s => (show _ = jH bX duE s.1 s.2 from by kernel_rfl).trans ((congrArg (fun eta => jH eta duE s.1 s.2) aB).trans ((congrArg (fun du => jH id du s.1 s.2) aL).trans (by kernel_rfl)))
def qH : Ent := ⟨3, [.str, .str], .bool, [], fun s => fw s.1 s.2⟩
theorem pq : (qH).Ok X0.P X0.Γ :=
 az (.c .o (.r [6, 9, 12, 15] .o)) Tryz.call3 Tryz.func3 (ok1 sq (ok1 sG (ok1 sI (ok1 tn (ok1 q9 (ok1 tR ok0)))))) ok0 ok0 fun _ => by kernel_rfl
end
end Go.Proofs.YtdhgpnejphlfpaaGreatDoor
namespace Go.Proofs.YtdhgpnejphlfpaaGreatDoor
open Go.Proofs
set_option maxRecDepth 100000 in
theorem pZ {Φ : Ctx} {w : World} {a0 : Str} {a1 : Str} {r : Bool} (hs : Sat (X0.Γ ++ Φ) w) (hm : fw a0 a1 = some r) :
  o6 Tryz.prog 3 [S a0, S a1] w (fun v w' => v = .bool r ∧ Sat Φ w') := by
 have h := pq.2 (a0, a1) r hm [S a0, S a1] [] [] [] (X0.Γ ++ Φ) w ⟨_, _, _, _, _, _, _, _, _, rfl, ⟨a0, rfl, rfl, rfl, rfl, rfl⟩, ⟨_, _, _, _, _, _, _, _, _, rfl, ⟨a1, rfl, rfl, rfl, rfl, rfl⟩, ⟨rfl, rfl, rfl, rfl, rfl⟩, rfl, rfl, rfl⟩, rfl, rfl, rfl⟩ hs (fun _ hi => List.mem_append_left _ hi)
 refine Calls.mono h fun e w' he => ?_
 cases e with
 | returned v =>
  obtain ⟨N1, N2, D1, D2, I1, I2, X1, X2, ⟨x, h1, h2, h3, _, _⟩, ⟨h4, h5, _, _⟩, hD, hs'⟩ := he
  subst h1 h2 h3 h4 h5
  have e1 : x = r := by
   have hD' : [(⟨.bo, x⟩ : Dyn)] = [⟨.bo, r⟩] := hD
   injection hD' with hD' _
   injection hD' with _ hD'
  exact ⟨by rw [e1], Sat.vq (A := X0.Γ) hs'⟩
 | panicked c => exact he
 | outgrown => exact he
end Go.Proofs.YtdhgpnejphlfpaaGreatDoor
namespace Go.Proofs.YtdhgpnejphlfpaaGreatDoor
namespace Lx
theorem Ml {α : Type} (xs : List α) (k : Nat) : idx xs (k : Int) = xs[k]? := by simp [idx]
theorem Ir {α : Type} {xs : List α} {k : Nat} (h : k < xs.length) : idx xs (k : Int) = some xs[k] := by rw [Ml, List.getElem?_eq_getElem h]
theorem ar {σ ρ : Type} (F : (σ → Option ρ) → σ → Option ρ) (n : Nat) (s : σ) : aj F (n + 1) s = F (aj F n) s := rfl
theorem eV {ρ : Type} (k : Option ρ) : chk true k = k := rfl
theorem mA {ρ : Type} (c : Bool) (k : Option ρ) : ox false c k = k := rfl
theorem l6 {ρ : Type} (k : Option ρ) (g : Bool) : ox g true k = k := by cases g <;> rfl
theorem jw {α ρ : Type} (d : α) (m : Option α) (k : α → Option ρ) : ax true d m k = m.bind k := rfl
theorem lW {α ρ : Type} (d : α) (m : Option α) (k : α → Option ρ) : ax false d m k = k d := rfl
theorem bB {α ρ : Type} (x : α) (k : α → Option ρ) : (some x).bind k = k x := rfl
theorem gh {α ρ : Type} (x : α) (k : α → Option ρ) : ab x k = k x := rfl
theorem jB {i : Int} {n : Nat} (h0 : 0 ≤ i) (h1 : i < n) : inB i n = true := rP.2 ⟨h0, h1⟩
theorem lN {i j : Int} {n : Nat} (h0 : 0 ≤ i) (h1 : i ≤ j) (h2 : j ≤ n) : j8 i j n = true := zn.2 ⟨⟨h0, h1⟩, h2⟩
theorem mB {k b : Nat} (h : k * b ≤ 140737488355328) (h2 : k ≤ 9223372036854775807) : bu k b = true := by
  simp only [bu, Bool.and_eq_true]; exact ⟨Nat.ble_eq_true_of_le h, Nat.ble_eq_true_of_le h2⟩
theorem oO (l : Str) (k : Nat) (h : k < l.length) : dJ l (k : Int) = (l[k].toNat : Int) := by
  simp [dJ, List.getD, h]
theorem Fi (l : Str) (i j : Nat) : cut l (i : Int) (j : Int) = (l.drop i).take (j - i) := rfl
theorem FU (l : Str) (i : Nat) : cut l (i : Int) (l.length : Int) = l.drop i := by
  rw [Fi, List.take_of_length_le (by simp)]
theorem gi {p : Prop} [Decidable p] (h : p) : decide p = true := decide_eq_true h
theorem iM {p : Prop} [Decidable p] (h : ¬ p) : decide p = false := decide_eq_false h
theorem kK : al = 18446744073709551616 := rfl
theorem Mr {σ ρ : Type} {F : (σ → Option ρ) → σ → Option ρ} {N : Nat} (st : Nat → σ) (n : Nat) (r : Option ρ)
    (step : ∀ again k, k < n → F again (st k) = again (st (k + 1))) (last : ∀ again, F again (st n) = r) :
    ∀ k, k ≤ n → n - k < N → aj F N (st k) = r := by
  induction N with
  | zero => intro k _ h; omega
  | succ N ih =>
    intro k hk hN
    rw [ar]
    by_cases hkn : k < n
    · rw [step _ k hkn]; exact ih (k + 1) (by omega) (by omega)
    · have : k = n := by omega
      subst this; exact last _
theorem fixN_upto {σ ρ : Type} {F : (σ → Option ρ) → σ → Option ρ} {N : Nat} (st : Nat → σ) (n m : Nat) (_hm : m ≤ n) (r : Option ρ)
    (step : ∀ again k, k < m → F again (st k) = again (st (k + 1))) (last : ∀ again, F again (st m) = r) (h0 : m < N) : aj F N (st 0) = r :=
  Mr st m r step last 0 (Nat.zero_le _) (by omega)
abbrev Tok := Int × Str × Int × Int
noncomputable def dM (c : UInt8) : Bool := c == 32 || c == 9 || c == 10 || c == 13
noncomputable def cN (c : UInt8) : Bool := (decide (97 ≤ c) && decide (c ≤ 122)) || (decide (65 ≤ c) && decide (c ≤ 90)) || c == 95
noncomputable def isDigit (c : UInt8) : Bool := decide (48 ≤ c) && decide (c ≤ 57)
noncomputable def ca (c : UInt8) : Bool := cN c || isDigit c
noncomputable def fT (c : UInt8) : Bool := c != 10
theorem kS (c d : UInt8) : ((c.toNat : Int) == (d.toNat : Int)) = (c == d) := by
  rw [Bool.eq_iff_iff]
  simp only [beq_iff_eq]
  constructor
  · intro h; exact UInt8.toNat_inj.1 (by omega)
  · intro h; rw [h]
theorem qv (c d : UInt8) : decide ((c.toNat : Int) ≤ (d.toNat : Int)) = decide (c ≤ d) := by
  rw [Bool.eq_iff_iff]
  simp only [decide_eq_true_eq, UInt8.le_iff_toNat_le]
  omega
/-! runs -/
theorem mn {p : UInt8 → Bool} : ∀ (l : Str) (k : Nat), (∀ i (h : i < l.length), i < k → p l[i] = true) → k ≤ l.length → (∀ h : k < l.length, p l[k] = false) → l.takeWhile p = l.take k
  | [], k, _, hk, _ => by simp
  | c :: l, 0, _, _, h2 => by
    have := h2 (by simp)
    simp at this
    simp [this]
  | c :: l, k + 1, h1, hk, h2 => by
    have hc := h1 0 (by simp) (by omega)
    simp at hc
    rw [List.takeWhile_cons, if_pos hc, List.take_succ_cons, mn l k (fun i h hik => by
      have := h1 (i + 1) (by simp; omega) (by omega)
      simpa using this) (by simpa using hk) (fun h => by
      have := h2 (by simp; omega)
      simpa using this)]
theorem Bd {p : UInt8 → Bool} {f : Int → Option Bool} (hf : ∀ c : UInt8, f (c.toNat : Int) = some (p c)) {text : Str} (hlen : text.length < 9223372036854775807)
    {F : (Int → Option Str) → Int → Option Str}
    (hF : ∀ again t1, F again t1 = bif (decide (t1 < (List.length text : Int))) then (chk (inB t1 (List.length text)) <| (f (dJ text t1)).bind fun r6 => bif (!r6) then (chk (j8 0 t1 (List.length text)) <| some (cut text 0 t1)) else (again (IntKind.i64.wrap (t1 + 1)))) else (some text)) :
    aj F al 0 = some (text.takeWhile p) := by
  have key : ∀ N k, k ≤ text.length → text.length - k < N → (∀ i (h : i < text.length), i < k → p text[i] = true) → aj F N ((k : Nat) : Int) = some (text.takeWhile p) := by
    intro N
    induction N with
    | zero => intro k _ h; omega
    | succ N ih =>
      intro k hk hN hp
      rw [ar, hF]
      by_cases hlt : k < text.length
      · rw [gi (by omega), cond_true, jB (by omega) (by omega), eV, oO _ _ hlt, hf, bB]
        cases hpk : p text[k]
        · simp only [Bool.not_false, cond_true]
          rw [lN (by omega) (by omega) (by omega), eV, mn text k hp hk (fun _ => hpk)]
          simp [cut]
        · simp only [Bool.not_true, cond_false]
          rw [w64 (by omega)]
          exact ih (k + 1) (by omega) (by omega) (fun i h hi => by
            rcases Nat.lt_or_ge i k with h' | h'
            · exact hp i h h'
            · have : i = k := by omega
              subst this; exact hpk)
      · rw [iM (by omega), cond_false, mn text k hp hk (fun h => absurd h hlt), List.take_of_length_le (by omega)]
  exact key al 0 (by omega) (by rw [kK]; omega) (fun i _ h => by omega)
/-! numbers -/
noncomputable def dig (c : UInt8) : Int := (c.toNat : Int) - 48
noncomputable def bf (n : Int) (s : Str) : Int := s.foldl (fun n c => 10 * n + dig c) n
noncomputable def big (n : Int) : Bool := decide (1073741824 < n)
theorem x5 {c : UInt8} (h : isDigit c = true) : 0 ≤ dig c ∧ dig c ≤ 9 := by
  simp only [isDigit, Bool.and_eq_true, decide_eq_true_eq, UInt8.le_iff_toNat_le] at h
  unfold dig
  have h1 : (48 : UInt8).toNat = 48 := rfl
  have h2 : (57 : UInt8).toNat = 57 := rfl
  omega
theorem ml : ∀ (s : Str) (n : Int), 0 ≤ n → s.all isDigit = true → n ≤ bf n s
  | [], n, _, _ => Int.le_refl _
  | c :: s, n, hn, h => by
    simp only [List.all_cons, Bool.and_eq_true] at h
    have hd := x5 h.1
    have := ml s (10 * n + dig c) (by omega) h.2
    show n ≤ bf (10 * n + dig c) s
    omega
theorem Hs (s : Str) (k : Nat) (h : k < s.length) (hd : isDigit s[k] = true) : mT s k = (s[k].toNat : Int) ∧ jk s k = k + 1 := by
  have hc : (s[k].toNat : Nat) < 128 := by
    simp only [isDigit, Bool.and_eq_true, decide_eq_true_eq, UInt8.le_iff_toNat_le] at hd
    have h2 : (57 : UInt8).toNat = 57 := rfl
    omega
  have hget : (⟨s.toArray⟩ : ByteArray).get! k = s[k] := by
    show s.toArray[k]! = s[k]
    simp [h]
  have hdec : Utf8.decode ⟨s.toArray⟩ k = (s[k].toNat, 1) := by
    unfold Utf8.decode
    simp only [Nat.add_zero, hget]
    rw [if_pos hc]
  exact ⟨by simp [mT, hdec], by simp [jk, hdec]⟩
theorem Eg (s : Str) (n : Int) (k : Nat) (h : k < s.length) : bf n (s.take (k + 1)) = 10 * bf n (s.take k) + dig s[k] := by
  unfold bf
  rw [List.take_succ_eq_append_getElem h, List.foldl_append]
  rfl
/-! signs -/
noncomputable def bc : List Str := [[60, 45, 62], [45, 62], [61, 61], [33, 61], [60, 61], [62, 61], [60], [62], [61], [43], [45], [42], [40], [41], [123], [125], [59], [44], [58], [38], [124], [33]]
noncomputable def cJ (s : Str) : Str := (bc.find? (fun g => g.isPrefixOf s)).getD []
/-! one step -/
inductive Step where
  | skip (k : Nat)
  | err (e : Int)
  | tok (k : Int) (t : Str) (n : Int)
noncomputable def step : Str → Step
  | [] => .skip 0
  | c :: s =>
    if dM c then .skip 1
    else if c == 35 then .skip ((c :: s).takeWhile fT).length
    else if cN c then (if 32 < ((c :: s).takeWhile ca).length then .err 9 else .tok 1 ((c :: s).takeWhile ca) 0)
    else if isDigit c then (if big (bf 0 ((c :: s).takeWhile isDigit)) then .err 9 else .tok 2 ((c :: s).takeWhile isDigit) (bf 0 ((c :: s).takeWhile isDigit)))
    else if cJ (c :: s) == [] then .err 2 else .tok 3 (cJ (c :: s)) 0
noncomputable def fC : Nat → Nat → Str → Except (Int × Int) (List Tok)
  | 0, _, _ => .ok []
  | _ + 1, at_, [] => .ok [(4, [], 0, (at_ : Int))]
  | f + 1, at_, c :: s =>
    match step (c :: s) with
    | .skip k => fC f (at_ + k) ((c :: s).drop k)
    | .err e => .error (e, at_)
    | .tok k t n => match fC f (at_ + t.length) ((c :: s).drop t.length) with
      | .ok l => .ok ((k, t, n, (at_ : Int)) :: l)
      | .error e => .error e
noncomputable def res : Except (Int × Int) (List Tok) → List Tok × Int × Int
  | .ok l => (l, 0, 0)
  | .error e => ([], e.1, e.2)
noncomputable def tokens (s : Str) : List Tok × Int × Int := if 65536 < s.length then ([], 9, 0) else res (fC (s.length + 1) 0 s)
theorem jh (p : UInt8 → Bool) : ∀ s : Str, (s.takeWhile p).all p = true
  | [] => rfl
  | c :: s => by
    rw [List.takeWhile_cons]
    split
    · rename_i h; simp only [List.all_cons, h, Bool.true_and]; exact jh p s
    · rfl
theorem ji (p : UInt8 → Bool) (s : Str) : (s.takeWhile p).length ≤ s.length := (List.takeWhile_prefix p).length_le
theorem hU {p : UInt8 → Bool} {c : UInt8} {s : Str} (h : p c = true) : 1 ≤ ((c :: s).takeWhile p).length := by
  rw [List.takeWhile_cons, if_pos h]; simp
theorem nw {c : UInt8} (h : cN c = true) : ca c = true := by simp [ca, h]
theorem BI : ∀ g ∈ bc, 1 ≤ g.length := by decide
theorem qS {s : Str} (h : (cJ s == []) = false) : cJ s ∈ bc ∧ cJ s <+: s ∧ bc.find? (fun g => g.isPrefixOf s) = some (cJ s) := by
  unfold cJ at *
  cases hf : bc.find? (fun g => g.isPrefixOf s) with
  | none => rw [hf] at h; simp at h
  | some g =>
    refine ⟨List.mem_of_find?_eq_some hf, ?_, rfl⟩
    have := List.find?_some hf
    simpa using this
theorem step_take {c : UInt8} {s : Str} (hb : dM c = false) (hc : (c == 35) = false) {k : Int} {t : Str} {n : Int} (h : step (c :: s) = .tok k t n) : 1 ≤ t.length ∧ t <+: (c :: s) := by
  simp only [step, hb, hc, Bool.false_eq_true, if_false] at h
  cases hlet : cN c
  · simp only [hlet, Bool.false_eq_true, if_false] at h
    cases hdig : isDigit c
    · simp only [hdig, Bool.false_eq_true, if_false] at h
      cases hsg : (cJ (c :: s) == [])
      · simp only [hsg, Bool.false_eq_true, if_false, Step.tok.injEq] at h
        obtain ⟨_, rfl, _⟩ := h
        obtain ⟨h1, h2, _⟩ := qS hsg
        exact ⟨BI _ h1, h2⟩
      · simp [hsg] at h
    · simp only [hdig, if_true] at h
      split at h
      · cases h
      · simp only [Step.tok.injEq] at h
        obtain ⟨_, rfl, _⟩ := h
        exact ⟨hU hdig, List.takeWhile_prefix _⟩
  · simp only [hlet, if_true] at h
    split at h
    · cases h
    · simp only [Step.tok.injEq] at h
      obtain ⟨_, rfl, _⟩ := h
      exact ⟨hU (nw hlet), List.takeWhile_prefix _⟩
noncomputable def sb (out : List Tok) : Except (Int × Int) (List Tok) → List Tok × Int × Int
  | .ok l => (out ++ l, 0, 0)
  | .error e => ([], e.1, e.2)
theorem wL {s : Str} {k : Nat} {c : UInt8} {r : Str} (h : s.drop k = c :: r) : ∃ hk : k < s.length, s[k] = c := by
  have hk : k < s.length := by
    rcases Nat.lt_or_ge k s.length with h' | h'
    · exact h'
    · rw [List.drop_of_length_le h'] at h; cases h
  refine ⟨hk, ?_⟩
  rw [List.drop_eq_getElem_cons hk] at h
  exact (List.cons.inj h).1
theorem xP {c : UInt8} {s : Str} {e : Int} (h : step (c :: s) = .err e) : e ≠ 0 := by
  simp only [step] at h
  split at h
  · cases h
  · split at h
    · cases h
    · split at h
      · split at h
        · cases h; decide
        · cases h
      · split at h
        · split at h
          · cases h; decide
          · cases h
        · split at h
          · cases h; decide
          · cases h
theorem xk {σ ρ : Type} {F : (σ → Option ρ) → σ → Option ρ} (p : UInt8 → Bool) (s : Str) (st : Nat → σ) (r : Nat → Option ρ)
    (go : ∀ again k (h : k < s.length), p s[k] = true → (∀ i (hi : i < s.length), i < k → p s[i] = true) → F again (st k) = again (st (k + 1)))
    (stop : ∀ again k (h : k < s.length), p s[k] = false → F again (st k) = r k)
    (last : ∀ again, F again (st s.length) = r s.length) (N : Nat) (hN : s.length < N) : aj F N (st 0) = r (s.takeWhile p).length := by
  have key : ∀ N k, k ≤ s.length → s.length - k < N → (∀ i (h : i < s.length), i < k → p s[i] = true) → aj F N (st k) = r (s.takeWhile p).length := by
    intro N
    induction N with
    | zero => intro k _ h; omega
    | succ N ih =>
      intro k hk hN hp
      rw [ar]
      by_cases hlt : k < s.length
      · cases hpk : p s[k]
        · rw [stop _ k hlt hpk, mn s k hp hk (fun _ => hpk), List.length_take, Nat.min_eq_left hk]
        · rw [go _ k hlt hpk hp]
          exact ih (k + 1) (by omega) (by omega) (fun i h hi => by
            rcases Nat.lt_or_ge i k with h' | h'
            · exact hp i h h'
            · have : i = k := by omega
              subst this; exact hpk)
      · have : k = s.length := by omega
        subst this
        rw [last, mn s s.length hp (Nat.le_refl _) (fun h => absurd h hlt), List.length_take, Nat.min_self]
  exact key N 0 (Nat.zero_le _) (by omega) (fun i _ h => by omega)
noncomputable def kindOf (c : UInt8) : Int := if dM c then 0 else if cN c then 1 else if isDigit c then 2 else 3
theorem E3 (c : UInt8) : dM c = (((c == 9 || c == 10) || c == 13) || c == 32) := by
  unfold dM
  cases (c == 32) <;> cases (c == 9) <;> cases (c == 10) <;> cases (c == 13) <;> rfl
theorem uN (c : UInt8) : dU (c.toNat : Int) = some (kindOf c) := by
  unfold dU
  simp only [gh]
  have h1 := kS c 32; have h2 := kS c 9; have h3 := kS c 10; have h4 := kS c 13
  have k1 := qv 97 c; have k2 := qv c 122; have k3 := qv 65 c; have k4 := qv c 90; have k5 := kS c 95
  have d1 := qv 48 c; have d2 := qv c 57
  rw [show ((32 : Int) = ((32 : UInt8).toNat : Int)) from rfl, show ((9 : Int) = ((9 : UInt8).toNat : Int)) from rfl, show ((10 : Int) = ((10 : UInt8).toNat : Int)) from rfl, show ((13 : Int) = ((13 : UInt8).toNat : Int)) from rfl, h1, h2, h3, h4, ← E3]
  rw [show ((97 : Int) = ((97 : UInt8).toNat : Int)) from rfl, show ((122 : Int) = ((122 : UInt8).toNat : Int)) from rfl, show ((65 : Int) = ((65 : UInt8).toNat : Int)) from rfl, show ((90 : Int) = ((90 : UInt8).toNat : Int)) from rfl, show ((95 : Int) = ((95 : UInt8).toNat : Int)) from rfl, k1, k2, k3, k4, k5]
  rw [show ((48 : Int) = ((48 : UInt8).toNat : Int)) from rfl, show ((57 : Int) = ((57 : UInt8).toNat : Int)) from rfl, d1, d2]
  unfold kindOf
  have e1 : ((decide (97 ≤ c) && decide (c ≤ 122)) || (decide (65 ≤ c) && decide (c ≤ 90)) || c == 95) = cN c := rfl
  have e2 : (decide (48 ≤ c) && decide (c ≤ 57)) = isDigit c := rfl
  rw [e1, e2]
  cases dM c <;> cases cN c <;> cases isDigit c <;> rfl
noncomputable def bV (n : Int) (s : Str) : Int := s.foldl (fun n c => if n ≤ 1073741824 then 10 * n + dig c else n) n
theorem DA : ∀ (s : Str) (n : Int), 1073741824 < n → bV n s = n
  | [], _, _ => rfl
  | c :: s, n, h => by
    show bV (if n ≤ 1073741824 then 10 * n + dig c else n) s = n
    rw [if_neg (by omega)]; exact DA s n h
theorem Fu : ∀ (s : Str) (n : Int), 0 ≤ n → s.all isDigit = true → (big (bf n s) = false → bV n s = bf n s) ∧ (big (bf n s) = true → 1073741824 < bV n s)
  | [], n, _, _ => ⟨fun _ => rfl, fun h => of_decide_eq_true (show decide (1073741824 < n) = true from h)⟩
  | c :: s, n, hn, h => by
    simp only [List.all_cons, Bool.and_eq_true] at h
    have hd := x5 h.1
    have ih := Fu s (10 * n + dig c) (by omega) h.2
    have e1 : bf n (c :: s) = bf (10 * n + dig c) s := rfl
    have e2 : bV n (c :: s) = bV (if n ≤ 1073741824 then 10 * n + dig c else n) s := rfl
    rw [e1, e2]
    by_cases hb : n ≤ 1073741824
    · rw [if_pos hb]; exact ih
    · rw [if_neg hb]
      have hm := ml s (10 * n + dig c) (by omega) h.2
      constructor
      · intro hf; simp [big] at hf; omega
      · intro _; rw [DA s n (by omega)]; omega
theorem w9 : ∀ (s : Str) (n : Int), 0 ≤ n → n ≤ 10737418249 → s.all isDigit = true → 0 ≤ bV n s ∧ bV n s ≤ 10737418249
  | [], n, h, h', _ => ⟨h, h'⟩
  | c :: s, n, h, h', hd => by
    simp only [List.all_cons, Bool.and_eq_true] at hd
    have hdl := x5 hd.1
    show 0 ≤ bV (if n ≤ 1073741824 then 10 * n + dig c else n) s ∧ bV (if n ≤ 1073741824 then 10 * n + dig c else n) s ≤ 10737418249
    split
    · exact w9 s _ (by omega) (by omega) hd.2
    · exact w9 s _ h h' hd.2
theorem J7 (s : Str) (k : Nat) (h : k < s.length) : bV 0 (s.take (k + 1)) = if bV 0 (s.take k) ≤ 1073741824 then 10 * bV 0 (s.take k) + dig s[k] else bV 0 (s.take k) := by
  have e : bV 0 (s.take (k + 1)) = bV (bV 0 (s.take k)) [s[k]] := by
    rw [List.take_succ_eq_append_getElem h]; unfold bV; rw [List.foldl_append]
  rw [e]; rfl
theorem uQ (p : UInt8 → Bool) (s : Str) : s.take (s.takeWhile p).length = s.takeWhile p :=
  (List.prefix_iff_eq_take.1 (List.takeWhile_prefix p)).symm
section
variable {text s : Str} {at_ : Nat} (hd : text.drop at_ = s) (hat : at_ ≤ text.length)
include hd hat
theorem xJ : text.length = at_ + s.length := by
  rw [← hd]; simp; omega
theorem rN (k : Nat) (h : k < s.length) : dJ text ((at_ + k : Nat) : Int) = (s[k].toNat : Int) := by
  have hl := xJ hd hat
  rw [oO text (at_ + k) (by omega)]
  congr 2
  subst hd
  rw [List.getElem_drop]
omit hat in
theorem DO (k : Nat) : cut text (at_ : Int) ((at_ + k : Nat) : Int) = s.take k := by
  rw [Fi, hd]; congr 1; omega
theorem OI (hl : text.length ≤ 65536) (out : List Tok) (again7) :
    aj (ey text out again7) al (at_ : Int) = again7 (out, ((at_ + (s.takeWhile fT).length : Nat) : Int)) := by
  have hlen := xJ hd hat
  have h0 : (at_ : Int) = ((at_ + 0 : Nat) : Int) := rfl
  rw [h0]
  refine xk fT s (fun k => ((at_ + k : Nat) : Int)) (fun k => again7 (out, ((at_ + k : Nat) : Int))) ?_ ?_ ?_ al (by rw [kK]; omega)
  · intro again k h hp _
    unfold ey
    simp only [gh]
    rw [gi (by omega), jB (by omega) (by omega), rN hd hat k h, l6]
    have : ((s[k].toNat : Int) != 10) = fT s[k] := by
      have := kS s[k] 10
      unfold fT bne
      rw [show ((10 : Int) = ((10 : UInt8).toNat : Int)) from rfl, this]
    rw [this, hp, Bool.and_self, cond_true, w64 (by omega)]
    rfl
  · intro again k h hp
    unfold ey
    simp only [gh]
    rw [gi (by omega), jB (by omega) (by omega), rN hd hat k h, l6]
    have : ((s[k].toNat : Int) != 10) = fT s[k] := by
      have := kS s[k] 10
      unfold fT bne
      rw [show ((10 : Int) = ((10 : UInt8).toNat : Int)) from rfl, this]
    rw [this, hp, Bool.and_false, cond_false]
  · intro again
    unfold ey
    simp only [gh]
    rw [iM (by omega), mA, Bool.false_and, cond_false]
end
theorem y6 (c : UInt8) : ((kindOf c == 1) || (kindOf c == 2)) = ca c := by
  cases hb : dM c
  · unfold kindOf ca
    rw [hb]
    cases cN c <;> cases isDigit c <;> rfl
  · have : ca c = false := by
      simp only [dM, Bool.or_eq_true, beq_iff_eq] at hb
      rcases hb with ((rfl | rfl) | rfl) | rfl <;> decide
    unfold kindOf
    rw [if_pos hb, this]; rfl
theorem Oi {text s : Str} {at_ : Nat} (hd : text.drop at_ = s) (hat : at_ ≤ text.length) (hl : text.length ≤ 65536) (out : List Tok) (again7) (hout : out.length ≤ 65536) :
    aj (dk text out (at_ : Int) again7) al (at_ : Int) = if 32 < (s.takeWhile ca).length then some ([], 9, (at_ : Int)) else again7 (out ++ [(1, s.takeWhile ca, 0, (at_ : Int))], ((at_ + (s.takeWhile ca).length : Nat) : Int)) := by
  have hlen := xJ hd hat
  have e0 : (if 32 < (s.takeWhile ca).length then some ([], 9, (at_ : Int)) else again7 (out ++ [(1, s.takeWhile ca, 0, (at_ : Int))], ((at_ + (s.takeWhile ca).length : Nat) : Int)))
     = (fun k => if 32 < k then some ([], 9, (at_ : Int)) else again7 (out ++ [(1, s.take k, 0, (at_ : Int))], ((at_ + k : Nat) : Int))) (s.takeWhile ca).length := by
    simp only [uQ]
  rw [e0]
  have tail : ∀ k, k ≤ s.length → (bif (decide (32 < (IntKind.i64.wrap (((at_ + k : Nat) : Int) - (at_ : Int))))) then (
some ([], 9, (at_ : Int)))
else (
chk (j8 (at_ : Int) ((at_ + k : Nat) : Int) (List.length text)) <|
chk (bu (List.length out + List.length ([(1, (cut text (at_ : Int) ((at_ + k : Nat) : Int)), 0, (at_ : Int))] : List (Int × Str × Int × Int))) 40) <|
again7 ((out ++ ([(1, (cut text (at_ : Int) ((at_ + k : Nat) : Int)), 0, (at_ : Int))] : List (Int × Str × Int × Int))), ((at_ + k : Nat) : Int)))) = (if 32 < k then some ([], 9, (at_ : Int)) else again7 (out ++ [(1, s.take k, 0, (at_ : Int))], ((at_ + k : Nat) : Int))) := by
    intro k hk
    rw [w64 (by omega)]
    by_cases h32 : 32 < k
    · rw [gi (by omega), cond_true, if_pos h32]
    · rw [iM (by omega), cond_false, if_neg h32, lN (by omega) (by omega) (by omega), eV, mB (by simp; omega) (by simp; omega), eV, DO hd]
  refine xk (F := dk text out (at_ : Int) again7) ca s (fun k => ((at_ + k : Nat) : Int)) (fun k => if 32 < k then some ([], 9, (at_ : Int)) else again7 (out ++ [(1, s.take k, 0, (at_ : Int))], ((at_ + k : Nat) : Int))) ?_ ?_ ?_ al (by rw [kK]; omega)
  · intro again k h hp _
    unfold dk
    simp only [gh]
    have ke := y6 s[k]
    rw [hp] at ke
    rw [gi (by omega), jB (by omega) (by omega), rN hd hat k h]
    simp only [l6, uN, jw, bB, Bool.true_and]
    cases hk1 : (kindOf s[k] == 1)
    · rw [hk1] at ke
      simp only [Bool.not_false, jw, bB, Bool.false_or] at ke ⊢
      rw [ke, cond_true, w64 (by omega)]; rfl
    · simp only [Bool.not_true, lW, Bool.true_or, cond_true]
      rw [w64 (by omega)]; rfl
  · intro again k h hp
    unfold dk
    simp only [gh]
    have ke := y6 s[k]
    rw [hp] at ke
    simp only [Bool.or_eq_false_iff] at ke
    rw [gi (by omega), jB (by omega) (by omega), rN hd hat k h]
    simp only [l6, uN, jw, bB, Bool.true_and, ke.1, ke.2, Bool.not_false, Bool.or_self, cond_false]
    exact tail k (by omega)
  · intro again
    unfold dk
    simp only [gh]
    rw [iM (by omega)]
    simp only [mA, lW, Bool.false_and, cond_false]
    exact tail s.length (Nat.le_refl _)
theorem G0 (c : UInt8) (h : cN c = false) : (kindOf c == 2) = isDigit c := by
  unfold kindOf
  rw [h]
  cases hb : dM c
  · cases isDigit c <;> rfl
  · have : isDigit c = false := by
      simp only [dM, Bool.or_eq_true, beq_iff_eq] at hb
      rcases hb with ((rfl | rfl) | rfl) | rfl <;> decide
    rw [this]; rfl
theorem Ey {c : UInt8} (h : cN c = true) : isDigit c = false := by
  simp only [cN, Bool.or_eq_true, Bool.and_eq_true, decide_eq_true_eq, beq_iff_eq, UInt8.le_iff_toNat_le] at h
  cases hd : isDigit c
  · rfl
  · simp only [isDigit, Bool.and_eq_true, decide_eq_true_eq, UInt8.le_iff_toNat_le] at hd
    have h1 : (48 : UInt8).toNat = 48 := rfl
    have h2 : (57 : UInt8).toNat = 57 := rfl
    have h3 : (97 : UInt8).toNat = 97 := rfl
    have h4 : (65 : UInt8).toNat = 65 := rfl
    rcases h with (h | h) | h
    · omega
    · omega
    · subst h; have : (95 : UInt8).toNat = 95 := rfl; omega
theorem wJ (c : UInt8) : (kindOf c == 2) = isDigit c := by
  cases hl : cN c
  · exact G0 c hl
  · unfold kindOf
    rw [Ey hl, hl]
    cases dM c <;> rfl
theorem Oo {text s : Str} {at_ : Nat} (hd : text.drop at_ = s) (hat : at_ ≤ text.length) (hl : text.length ≤ 65536) (out : List Tok) (again7) (hout : out.length ≤ 65536) :
    aj (dj text out (at_ : Int) again7) al ((at_ : Int), 0) = if big (bf 0 (s.takeWhile isDigit)) then some ([], 9, (at_ : Int)) else again7 (out ++ [(2, s.takeWhile isDigit, bf 0 (s.takeWhile isDigit), (at_ : Int))], ((at_ + (s.takeWhile isDigit).length : Nat) : Int)) := by
  have hlen := xJ hd hat
  have hsat := Fu (s.takeWhile isDigit) 0 (Int.le_refl _) (jh _ _)
  have e0 : (if big (bf 0 (s.takeWhile isDigit)) then some ([], 9, (at_ : Int)) else again7 (out ++ [(2, s.takeWhile isDigit, bf 0 (s.takeWhile isDigit), (at_ : Int))], ((at_ + (s.takeWhile isDigit).length : Nat) : Int)))
     = (fun k => if 1073741824 < bV 0 (s.take k) then some ([], 9, (at_ : Int)) else again7 (out ++ [(2, s.take k, bV 0 (s.take k), (at_ : Int))], ((at_ + k : Nat) : Int))) (s.takeWhile isDigit).length := by
    simp only [uQ]
    cases hb : big (bf 0 (s.takeWhile isDigit))
    · have h1 := hsat.1 hb
      rw [h1]
      have : ¬ 1073741824 < bf 0 (s.takeWhile isDigit) := by simpa [big] using hb
      rw [if_neg this]; rfl
    · rw [if_pos (hsat.2 hb)]; rfl
  rw [e0]
  have tail : ∀ k, k ≤ s.length → (bif (decide (1073741824 < bV 0 (s.take k))) then (
some ([], 9, (at_ : Int)))
else (
chk (j8 (at_ : Int) ((at_ + k : Nat) : Int) (List.length text)) <|
chk (bu (List.length out + List.length ([(2, (cut text (at_ : Int) ((at_ + k : Nat) : Int)), bV 0 (s.take k), (at_ : Int))] : List (Int × Str × Int × Int))) 40) <|
again7 ((out ++ ([(2, (cut text (at_ : Int) ((at_ + k : Nat) : Int)), bV 0 (s.take k), (at_ : Int))] : List (Int × Str × Int × Int))), ((at_ + k : Nat) : Int)))) = (if 1073741824 < bV 0 (s.take k) then some ([], 9, (at_ : Int)) else again7 (out ++ [(2, s.take k, bV 0 (s.take k), (at_ : Int))], ((at_ + k : Nat) : Int))) := by
    intro k hk
    by_cases h32 : 1073741824 < bV 0 (s.take k)
    · rw [gi (by omega), cond_true, if_pos h32]
    · rw [iM (by omega), cond_false, if_neg h32, lN (by omega) (by omega) (by omega), eV, mB (by simp; omega) (by simp; omega), eV, DO hd]
  refine xk (F := dj text out (at_ : Int) again7) isDigit s (fun k => (((at_ + k : Nat) : Int), bV 0 (s.take k))) (fun k => if 1073741824 < bV 0 (s.take k) then some ([], 9, (at_ : Int)) else again7 (out ++ [(2, s.take k, bV 0 (s.take k), (at_ : Int))], ((at_ + k : Nat) : Int))) ?_ ?_ ?_ al (by rw [kK]; omega)
  · intro again k h hp hall
    unfold dj
    simp only [gh]
    have ke := wJ s[k]
    rw [hp] at ke
    have hdl := x5 hp
    have hb := w9 (s.take k) 0 (Int.le_refl _) (by omega) (by
      rw [List.all_eq_true]; intro c hc
      obtain ⟨i, hi, rfl⟩ := List.mem_iff_getElem.1 hc
      rw [List.getElem_take]
      exact hall i (by simp at hi; omega) (by simp at hi; omega))
    rw [gi (by omega), jB (by omega) (by omega), rN hd hat k h]
    simp only [l6, uN, jw, bB, Bool.true_and, ke, cond_true]
    rw [J7 s k h, w64 (x := ((at_ + k : Nat) : Int) + 1) (by omega)]
    unfold dig at hdl ⊢
    by_cases hs : bV 0 (s.take k) ≤ 1073741824
    · rw [gi hs, cond_true, eV, if_pos hs, w64 (x := 10 * _) (by omega), w64 (x := (s[k].toNat : Int)) (by omega), w64 (x := 10 * _ + _) (by omega), w64 (by omega)]
      congr 2
      omega
    · rw [iM hs, cond_false, if_neg hs]; rfl
  · intro again k h hp
    unfold dj
    simp only [gh]
    have ke := wJ s[k]
    rw [hp] at ke
    rw [gi (by omega), jB (by omega) (by omega), rN hd hat k h]
    simp only [l6, uN, jw, bB, Bool.true_and, ke, cond_false]
    exact tail k (by omega)
  · intro again
    unfold dj
    simp only [gh]
    rw [iM (by omega)]
    simp only [mA, lW, Bool.false_and, cond_false]
    exact tail s.length (Nat.le_refl _)
theorem E4 : lv = some bc := rfl
theorem Nz {text : Str} {out : List Tok} {i5 : Int} {again7} {again122} {g : Str} {j : Int} (hg : (g == []) = false)
    (hr : out.length ≤ 65536) (hi : 0 ≤ i5 ∧ i5 ≤ 65536) (hgl : g.length ≤ 65536) :
    aQ text out i5 again7 bc again122 (g, j) = again7 (out ++ [(3, g, 0, i5)], i5 + g.length) := by
  unfold aQ
  simp only [gh, hg, Bool.and_false, cond_false]
  rw [mB (by simp; omega) (by simp; omega), eV, w64 (by omega)]
theorem OE {text s : Str} {at_ : Nat} (hd : text.drop at_ = s) (hat : at_ ≤ text.length) (hl : text.length ≤ 65536) (out : List Tok) (again7) (hout : out.length ≤ 65536) :
    aj (aQ text out (at_ : Int) again7 bc) al ([], 0) = if cJ s == [] then some ([], 2, (at_ : Int)) else again7 (out ++ [(3, cJ s, 0, (at_ : Int))], ((at_ + (cJ s).length : Nat) : Int)) := by
  have hlen := xJ hd hat
  have hs22 : bc.length = 22 := rfl
  have key : ∀ N k, k ≤ bc.length → bc.length - k + 1 < N → (∀ i (h : i < bc.length), i < k → bc[i].isPrefixOf s = false) →
      aj (aQ text out (at_ : Int) again7 bc) N ([], ((k : Nat) : Int)) = if cJ s == [] then some ([], 2, (at_ : Int)) else again7 (out ++ [(3, cJ s, 0, (at_ : Int))], ((at_ + (cJ s).length : Nat) : Int)) := by
    intro N
    induction N with
    | zero => intro k _ h; omega
    | succ N ih =>
      intro k hk hN hp
      rw [ar]
      by_cases hlt : k < bc.length
      · have hgmem : bc[k] ∈ bc := List.getElem_mem hlt
        have hgl : ∀ g ∈ bc, g.length ≤ 3 ∧ (g == []) = false := by decide
        have hg3 := hgl _ hgmem
        have body : aQ text out (at_ : Int) again7 bc (aj (aQ text out (at_ : Int) again7 bc) N) ([], ((k : Nat) : Int)) = aj (aQ text out (at_ : Int) again7 bc) N ((if bc[k].isPrefixOf s then bc[k] else []), ((k + 1 : Nat) : Int)) := by
          generalize aj (aQ text out (at_ : Int) again7 bc) N = again
          unfold aQ
          simp only [gh]
          rw [gi (by omega)]
          simp only [show (([] : Str) == []) = true from rfl, Bool.and_self, cond_true]
          rw [Ir hlt]
          simp only [bB]
          rw [w64 (x := (text.length : Int) - (at_ : Int)) (by omega), w64 (x := ((k : Nat) : Int) + 1) (by omega)]
          by_cases hle : bc[k].length ≤ s.length
          · rw [gi (by omega)]
            simp only [jw, bB, Bool.true_and]
            rw [w64 (by omega), lN (by omega) (by omega) (by omega), l6]
            have e2 : (at_ : Int) + (bc[k].length : Int) = ((at_ + bc[k].length : Nat) : Int) := by omega
            rw [e2, DO hd]
            have e3 : (s.take bc[k].length == bc[k]) = bc[k].isPrefixOf s := by
              rw [Bool.eq_iff_iff, List.isPrefixOf_iff_prefix, beq_iff_eq]
              constructor
              · intro h; rw [← h]; exact List.take_prefix ..
              · intro h; exact (List.prefix_iff_eq_take.1 h).symm
            rw [e3]
            cases bc[k].isPrefixOf s
            · rfl
            · rfl
          · rw [iM (by omega)]
            simp only [lW, mA, Bool.false_and, cond_false]
            have : bc[k].isPrefixOf s = false := by
              rw [Bool.eq_false_iff, Ne, List.isPrefixOf_iff_prefix]
              intro h; exact hle h.length_le
            rw [this]; rfl
        rw [body]
        cases hpk : bc[k].isPrefixOf s
        · exact ih (k + 1) (by omega) (by omega) (fun i h hi => by
            rcases Nat.lt_or_ge i k with h' | h'
            · exact hp i h h'
            · have : i = k := by omega
              subst this; exact hpk)
        · have hsg : cJ s = bc[k] := by
            unfold cJ
            have : bc.find? (fun g => g.isPrefixOf s) = some bc[k] := by
              rw [List.find?_eq_some_iff_getElem]
              exact ⟨hpk, k, hlt, rfl, fun j hj => by simp [hp j (by omega) hj]⟩
            rw [this]; rfl
          rw [hsg]
          obtain ⟨N, rfl⟩ : ∃ m, N = m + 1 := ⟨N - 1, by omega⟩
          rw [ar]
          simp only [if_true, hg3.2, Bool.false_eq_true, if_false]
          rw [Nz hg3.2 hout (by omega) (by omega)]
          rfl
      · have : cJ s = [] := by
          unfold cJ
          have : bc.find? (fun g => g.isPrefixOf s) = none := by
            rw [List.find?_eq_none]
            intro g hg
            obtain ⟨i, hi, rfl⟩ := List.mem_iff_getElem.1 hg
            simp [hp i hi (by omega)]
          rw [this]; rfl
        rw [this]
        generalize aj (aQ text out (at_ : Int) again7 bc) N = again
        unfold aQ
        simp only [gh]
        rw [iM (by omega)]
        rfl
  exact key al 0 (by omega) (by rw [kK]; omega) (fun i _ h => by omega)
theorem K4 (text : Str) (hlen : text.length ≤ 65536) : ∀ (N f at_ : Nat) (out : List Tok), at_ ≤ text.length → text.length - at_ < N → text.length - at_ < f → out.length ≤ at_ →
    aj (fU text) N (out, (at_ : Int)) = some (sb out (fC f at_ (text.drop at_))) := by
  intro N
  induction N with
  | zero => intro f at_ out _ h; omega
  | succ N ih =>
    intro f at_ out hat hN hf hout
    obtain ⟨f, rfl⟩ : ∃ g, f = g + 1 := ⟨f - 1, by omega⟩
    rw [ar]
    generalize aj (fU text) N = again at ih ⊢
    unfold fU
    dsimp only
    cases hd : text.drop at_ with
    | nil =>
      have hge' : at_ = text.length := by
        have := congrArg List.length hd
        simp at this; omega
      subst hge'
      rw [iM (by omega)]
      simp only [cond_false]
      rw [mB (by simp; omega) (by simp; omega), eV]
      rfl
    | cons c r =>
      obtain ⟨hlt, hget⟩ := wL hd
      have hdl : (c :: r).length = text.length - at_ := by rw [← hd]; simp
      have hbyte : dJ text (at_ : Int) = (c.toNat : Int) := by rw [oO _ _ hlt, hget]
      have next : ∀ (k : Nat) (out' : List Tok), 1 ≤ k → k ≤ (c :: r).length → out'.length ≤ at_ + k →
          again (out', ((at_ + k : Nat) : Int)) = some (sb out' (fC f (at_ + k) ((c :: r).drop k))) := by
        intro k out' h1 h2 h3
        rw [ih f (at_ + k) out' (by omega) (by omega) (by omega) h3]
        have e2 : text.drop (at_ + k) = (c :: r).drop k := by rw [← hd, List.drop_drop]
        rw [e2]
      rw [gi (by omega)]
      simp only [cond_true, jB (show (0 : Int) ≤ (at_ : Int) by omega) (show (at_ : Int) < (text.length : Int) by omega), eV, hbyte, uN, bB]
      have h35 : ((c.toNat : Int) == 35) = (c == 35) := by
        rw [show ((35 : Int) = ((35 : UInt8).toNat : Int)) from rfl]; exact kS c 35
      rw [h35]
      cases hb : dM c
      · have hk0 : (kindOf c == 0) = false := by
          unfold kindOf; rw [hb]; cases cN c <;> cases isDigit c <;> rfl
        simp only [hk0, cond_false]
        cases hc : (c == 35)
        · simp only [cond_false]
          simp only [fC, step, hb, hc, Bool.false_eq_true, if_false]
          cases hlet : cN c
          · have hk1 : (kindOf c == 1) = false := by
              unfold kindOf; rw [hb, hlet]; cases isDigit c <;> rfl
            simp only [hk1, cond_false, Bool.false_eq_true, if_false]
            rw [wJ]
            cases hdig : isDigit c
            · simp only [cond_false, Bool.false_eq_true, if_false]
              rw [E4, bB, OE hd hat hlen out again (by omega)]
              cases hsg : (cJ (c :: r) == [])
              · simp only [Bool.false_eq_true, if_false]
                obtain ⟨h1, h2, _⟩ := qS hsg
                have h3 := BI _ h1
                have h4 := h2.length_le
                rw [next _ _ h3 h4 (by simp; omega)]
                cases fC f (at_ + (cJ (c :: r)).length) ((c :: r).drop (cJ (c :: r)).length) <;> simp [sb]
              · simp only [if_true]; rfl
            · simp only [cond_true, if_true]
              rw [Oo hd hat hlen out again (by omega)]
              cases hbig : big (bf 0 ((c :: r).takeWhile isDigit))
              · simp only [Bool.false_eq_true, if_false]
                have h3 := hU (s := r) hdig
                have h4 := ji isDigit (c :: r)
                rw [next _ _ h3 h4 (by simp; omega)]
                cases fC f (at_ + ((c :: r).takeWhile isDigit).length) ((c :: r).drop ((c :: r).takeWhile isDigit).length) <;> simp [sb]
              · simp only [if_true]; rfl
          · have hk1 : (kindOf c == 1) = true := by
              unfold kindOf; rw [hb, hlet]; rfl
            simp only [hk1, cond_true, if_true]
            rw [Oi hd hat hlen out again (by omega)]
            by_cases h32 : 32 < ((c :: r).takeWhile ca).length
            · rw [if_pos h32, if_pos h32]; rfl
            · rw [if_neg h32, if_neg h32]
              have h3 := hU (s := r) (nw hlet)
              have h4 := ji ca (c :: r)
              rw [next _ _ h3 h4 (by simp; omega)]
              simp only []
              cases fC f (at_ + ((c :: r).takeWhile ca).length) ((c :: r).drop ((c :: r).takeWhile ca).length) <;> simp [sb]
        · simp only [cond_true]
          rw [OI hd hat hlen out again]
          have hpos : 1 ≤ ((c :: r).takeWhile fT).length := hU (by
            have : c = 35 := by simpa using hc
            subst this; decide)
          have hle := ji fT (c :: r)
          rw [next _ _ hpos hle (by omega)]
          have hst : step (c :: r) = .skip ((c :: r).takeWhile fT).length := by simp [step, hb, hc]
          simp only [fC, hst]
      · have hk0 : (kindOf c == 0) = true := by unfold kindOf; rw [hb]; rfl
        simp only [hk0, cond_true]
        rw [w64 (by omega)]
        have e1 : ((at_ : Int) + 1) = ((at_ + 1 : Nat) : Int) := by omega
        rw [e1, next 1 out (by omega) (by omega) (by omega)]
        have hst : step (c :: r) = .skip 1 := by simp [step, hb]
        simp only [fC, hst]
theorem xT (text : Str) : dZ text = some (tokens text) := by
  unfold dZ tokens
  by_cases h : 65536 < text.length
  · rw [gi (by omega), cond_true, if_pos h]
  · rw [iM (by omega), cond_false, if_neg h]
    have := K4 text (by omega) al (text.length + 1) 0 [] (by omega) (by rw [kK]; omega) (by omega) (by simp)
    simp only [List.drop_zero] at this
    have h0 : ((0 : Nat) : Int) = 0 := rfl
    rw [h0] at this
    rw [this]
    cases fC (text.length + 1) 0 text <;> rfl
abbrev Res := Except (Int × Int) (List Tok)
theorem step_skip {c : UInt8} {s : Str} {k : Nat} (h : step (c :: s) = .skip k) : 1 ≤ k ∧ k ≤ (c :: s).length := by
  cases hb : dM c
  · cases hc : (c == 35)
    · simp only [step, hb, hc, Bool.false_eq_true, if_false] at h
      repeat (split at h <;> try (cases h))
    · simp only [step, hb, hc, Bool.false_eq_true, if_false, if_true, Step.skip.injEq] at h
      subst h
      have : c = 35 := by simpa using hc
      subst this
      exact ⟨hU (by decide), ji _ _⟩
  · simp only [step, hb, if_true, Step.skip.injEq] at h
    subst h; simp
theorem wE {c : UInt8} {s : Str} {k : Int} {t : Str} {n : Int} (h : step (c :: s) = .tok k t n) : dM c = false ∧ (c == 35) = false ∧ 1 ≤ t.length ∧ t <+: (c :: s) := by
  cases hb : dM c
  · cases hc : (c == 35)
    · obtain ⟨h1, h2⟩ := step_take hb hc h; exact ⟨rfl, rfl, h1, h2⟩
    · simp only [step, hb, hc, Bool.false_eq_true, if_false, if_true] at h; cases h
  · simp only [step, hb, if_true] at h; cases h
noncomputable def lex (s : Str) : Res := fC (s.length + 1) 0 s
theorem GL {s : Str} (h : s.length ≤ 65536) : tokens s = res (lex s) := by
  unfold tokens lex; rw [if_neg (by omega)]
theorem lex_ind {P : Str → Prop} (h0 : P [])
    (hs : ∀ c s k, step (c :: s) = .skip k → P ((c :: s).drop k) → P (c :: s))
    (he : ∀ c s e, step (c :: s) = .err e → P (c :: s))
    (ht : ∀ c s k t n, step (c :: s) = .tok k t n → P ((c :: s).drop t.length) → P (c :: s)) : ∀ s, P s := by
  have key : ∀ (m : Nat) (s : Str), s.length < m → P s := by
    intro m
    induction m with
    | zero => intro s h; omega
    | succ m ih =>
      intro s h
      cases s with
      | nil => exact h0
      | cons c s =>
        cases hst : step (c :: s) with
        | skip k =>
          obtain ⟨h1, h2⟩ := step_skip hst
          exact hs c s k hst (ih _ (by simp at *; omega))
        | err e => exact he c s e hst
        | tok k t n =>
          obtain ⟨_, _, h1, h2⟩ := wE hst
          exact ht c s k t n hst (ih _ (by simp at *; omega))
  exact fun s => key _ s (Nat.lt_succ_self _)
/-! what stands behind -/
theorem pA {p : UInt8 → Bool} : ∀ {t : Str}, t.all p = true → t.takeWhile p = t
  | [], _ => rfl
  | c :: t, h => by
    simp only [List.all_cons, Bool.and_eq_true] at h
    rw [List.takeWhile_cons, if_pos h.1, pA h.2]
theorem zQ : ∀ g ∈ bc, cJ g = g ∧ ∃ c s, g = c :: s ∧ dM c = false ∧ (c == 35) = false ∧ cN c = false ∧ isDigit c = false := by
  intro g hg
  have h1 : ∀ g ∈ bc, cJ g = g ∧ (match g with | [] => false | c :: _ => !dM c && !(c == 35) && !cN c && !isDigit c) = true := by decide
  obtain ⟨h1, h2⟩ := h1 g hg
  refine ⟨h1, ?_⟩
  cases g with
  | nil => cases h2
  | cons c s =>
    simp only [Bool.and_eq_true, Bool.not_eq_true'] at h2
    exact ⟨c, s, rfl, h2.1.1.1, h2.1.1.2, h2.1.2, h2.2⟩
theorem step_self {c : UInt8} {s : Str} {k : Int} {t : Str} {n : Int} (h : step (c :: s) = .tok k t n) : step t = .tok k t n ∧ (∃ s', t = c :: s') ∧ (k = 1 ∨ k = 2 ∨ k = 3) ∧ (k ≠ 2 → n = 0) := by
  obtain ⟨hb, hc, ht1, ht2⟩ := wE h
  have hcs : ∃ s', t = c :: s' := by
    cases t with
    | nil => simp at ht1
    | cons d t =>
      obtain ⟨u, hu⟩ := ht2
      simp only [List.cons_append, List.cons.injEq] at hu
      exact ⟨t, by rw [hu.1]⟩
  obtain ⟨s', rfl⟩ := hcs
  simp only [step, hb, hc, Bool.false_eq_true, if_false] at h ⊢
  cases hlet : cN c
  · simp only [hlet, Bool.false_eq_true, if_false] at h ⊢
    cases hdig : isDigit c
    · simp only [hdig, Bool.false_eq_true, if_false] at h ⊢
      cases hsg : (cJ (c :: s) == [])
      · simp only [hsg, Bool.false_eq_true, if_false, Step.tok.injEq] at h
        obtain ⟨rfl, h2, rfl⟩ := h
        obtain ⟨hm, _, _⟩ := qS hsg
        rw [h2] at hm
        rw [(zQ _ hm).1]
        exact ⟨rfl, ⟨s', rfl⟩, .inr (.inr rfl), fun _ => rfl⟩
      · simp [hsg] at h
    · simp only [hdig, if_true] at h ⊢
      split at h
      · cases h
      · rename_i hbig
        simp only [Step.tok.injEq] at h
        obtain ⟨rfl, h2, rfl⟩ := h
        have hall := jh isDigit (c :: s)
        rw [h2] at hall hbig
        rw [pA hall, h2, if_neg hbig]
        exact ⟨rfl, ⟨s', rfl⟩, .inr (.inl rfl), fun h => absurd rfl h⟩
  · simp only [hlet, if_true] at h ⊢
    split at h
    · cases h
    · rename_i h32
      simp only [Step.tok.injEq] at h
      obtain ⟨rfl, h2, rfl⟩ := h
      have hall := jh ca (c :: s)
      rw [h2] at hall h32
      rw [pA hall, if_neg h32]
      exact ⟨rfl, ⟨s', rfl⟩, .inl rfl, fun _ => rfl⟩
/-! two texts with a line feed between them -/
end Lx
end Go.Proofs.YtdhgpnejphlfpaaGreatDoor
