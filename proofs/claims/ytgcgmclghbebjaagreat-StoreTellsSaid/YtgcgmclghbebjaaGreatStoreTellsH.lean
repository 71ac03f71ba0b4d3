/-
  Own texts for the statement StoreTells, cut down to what it needs: DenR, SoA, SoB, SoC, SoD, SoE, SoF, SoG, SeBase, SeAut, SeFind, SeNode, SePut, SeLeave. (cut and joined by a program)
-/
import Derived.Test.YtgcgmclghbebjaaGreatStoreTellsA
import Derived.Test.YtgcgmclghbebjaaGreatStoreTellsB
import Derived.Test.YtgcgmclghbebjaaGreatStoreTellsC
import Derived.Test.YtgcgmclghbebjaaGreatStoreTellsD
import Derived.Test.YtgcgmclghbebjaaGreatStoreTellsE
import Derived.Test.YtgcgmclghbebjaaGreatStoreTellsF
import Derived.Test.YtgcgmclghbebjaaGreatStoreTellsG
namespace Go.Proofs.YtgcgmclghbebjaaGreat
open Go.Proofs
noncomputable section
set_option maxRecDepth 100000
def yq:Ent:=⟨23,[(.sli (.i .i64)),(.sli (.i .i64))],.bool,[],fun s=>gi s.1 s.2⟩
theorem uz:(yq).Ok X0.P X0.Γ:=
 an (.c .o (.l ⟨[(false,5,(.int .i64))],[]⟩ .o)) Tryz.call23 Tryz.func23 ok0 ok0 ok0 fun _=>by kernel_rfl
def zC:Ent:=⟨24,[(.sli (.p (.i .i64) (.i .i64))),(.sli (.i .i64))],(.int .i64),[],fun s=>dj s.1 s.2⟩
theorem fO:(zC).Ok X0.P X0.Γ:=
 an (.c .o (.l ⟨[(false,5,(.int .i64))],[]⟩ .o)) Tryz.call24 Tryz.func24 ok0 ok0 ok0 fun _=>by kernel_rfl
def yh:Ent:=⟨28,[(.sli (.p (.i .i64) (.i .i64))),(.int .i64)],(.tup [(.dat (.p (.l (.p (.i .i64) (.i .i64))) (.p (.i .i64) (.p (.l (.l (.i .i64))) (.l (.p .bo .bo))))) [none,some 61,some 281]),(.int .i64)]),[],fun s=>mw s.1 s.2⟩
theorem uJ:(yh).Ok X0.P X0.Γ:=
 an .o Tryz.call28 Tryz.func28 ok0 ok0 ok0 fun _=>by kernel_rfl
def yp:Ent:=⟨29,[(.int .i64),(.int .i64),(.int .u64)],(.tup [(.dat (.p (.i .i64) (.p (.i .i64) (.p (.i .u64) (.p (.l (.i .i64)) (.p (.l (.i .i64)) (.l (.i .i64))))))) [some 7,some 7,some 7]),(.int .i64)]),[],fun s=>eX s.1 s.2.1 s.2.2⟩
theorem uX:(yp).Ok X0.P X0.Γ:=
 an .o Tryz.call29 Tryz.func29 ok0 ok0 ok0 fun _=>by kernel_rfl
def yf:Ent:=⟨11,[(.sli (.p (.i .i64) (.i .i64))),(.dat (.p (.i .i64) (.p (.i .i64) (.p (.i .i64) (.p (.i .u64) (.p (.i .i64) (.i .i64)))))) [])],(.tup [(.dat (.p (.l (.p (.i .i64) (.i .i64))) (.p .bo (.p (.p (.l (.p (.i .i64) (.i .i64))) (.p (.i .i64) (.p (.l (.l (.i .i64))) (.l (.p .bo .bo))))) (.p (.i .i64) (.p (.i .i64) (.p (.i .u64) (.p (.l (.i .i64)) (.p (.l (.i .i64)) (.l (.i .i64)))))))))) [none,none,some 61,some 281,some 7,some 7,some 7]),(.int .i64)]),[],fun s=>gf s.1 s.2⟩
theorem ug:(yf).Ok X0.P X0.Γ:=
 an .o Tryz.call11 Tryz.func11 (ok1 rQ (ok1 uJ (ok1 uX ok0))) ok0 ok0 fun _=>by kernel_rfl
def xF:Ent:=⟨47,[(.dat (.p (.i .i64) (.i .i64)) [])],(.int .i64),[],fun s=>fG s⟩
theorem mf:(xF).Ok X0.P X0.Γ:=
 an (.l ⟨[(false,3,(.int .i64)),(false,4,(.int .i64))],[]⟩ .o) Tryz.call47 Tryz.func47 ok0 ok0 ok0 fun _=>by kernel_rfl
def xr:Ent:=⟨54,[(.int .u64)],(.int .i64),[],fun s=>jb s⟩
theorem sV:(xr).Ok X0.P X0.Γ:=
 an (.l ⟨[(false,0,(.int .u64)),(false,3,(.int .i64))],[]⟩ .o) Tryz.call54 Tryz.func54 ok0 ok0 ok0 fun _=>by kernel_rfl
def ye:Ent:=⟨61,[(.dat (.p (.l (.i .u8)) (.i .i64)) [none]),(.int .i64)],(.int .i64),[],fun s=>jG s.1 s.2⟩
theorem tZ:(ye).Ok X0.P X0.Γ:=
 an (.l ⟨[(false,5,(.int .i64)),(false,6,(.int .i64))],[]⟩ .o) Tryz.call61 Tryz.func61 ok0 ok0 ok0 fun _=>by kernel_rfl
def xU:Ent:=⟨56,[(.dat (.p (.l (.i .u8)) (.i .i64)) [none])],(.own (.i .i64) 3 true),[],fun s=>jg s⟩
theorem sZ:(xU).Ok X0.P X0.Γ:=
 an (.l ⟨[(false,3,(.own (.i .i64) 3 true)),(false,4,(.int .i64))],[]⟩ .o) Tryz.call56 Tryz.func56 (ok1 tZ ok0) ok0 ok0 fun _=>by kernel_rfl
def x9:Ent:=⟨55,[(.sli (.i .i64))],(.dat (.p (.l (.i .u8)) (.i .i64)) [some 11]),[],fun s=>jx s⟩
theorem ux:(x9).Ok X0.P X0.Γ:=
 an (.l ⟨[(true,2,(.bx 142 0 true [.same,.same])),(true,3,(.bx 142 0 true [(.own (.i .u8) 5 true),.same])),(false,4,(.int .i64))],[]⟩ (.c (.s (.j ⟨[(true,3,(.bx 142 0 true [(.own (.i .u8) 5 true),.same]))],[]⟩ .o (.l ⟨[(false,5,(.int .i64)),(false,6,(.int .i64))],[]⟩ (.c .o (.r [3] .o))))) .o)) Tryz.call55 Tryz.func55 ok0 ok0 ok0 fun _=>by kernel_rfl
def yb:Ent:=⟨46,[(.dat (.p (.l (.i .u8)) (.i .i64)) [none]),(.int .u64),(.int .i64)],(.tup [(.dat (.p (.l (.i .u8)) (.i .i64)) [none]),(.int .i64)]),[],fun s=>jC s.1 s.2.1 s.2.2⟩
theorem va:(yb).Ok X0.P X0.Γ:=
 an (.c .o (.c .o (.l ⟨[(false,1,(.int .u64)),(true,6,(.bx 142 0 true [.same,.same])),(true,8,(.own (.i .i64) 3 true)),(false,9,(.int .i64))],[]⟩ .o))) Tryz.call46 Tryz.func46 (ok1 sV (ok1 sZ (ok1 ux ok0))) ok0 ok0 fun _=>by kernel_rfl
def xm:Ent:=⟨57,[(.sli (.p (.i .i64) (.i .i64)))],(.int .i64),[],fun s=>iT s⟩
theorem sX:(xm).Ok X0.P X0.Γ:=
 an (.l ⟨[(false,3,(.int .i64)),(false,4,(.int .i64))],[]⟩ .o) Tryz.call57 Tryz.func57 (ok1 mf ok0) ok0 ok0 fun _=>by kernel_rfl
def vu:Ent:=⟨48,[(.sli (.p (.i .i64) (.i .i64)))],(.int .i64),[],fun s=>iv s⟩
theorem rY:(vu).Ok X0.P X0.Γ:=
 an .o Tryz.call48 Tryz.func48 (ok1 sX ok0) ok0 ok0 fun _=>by kernel_rfl
def uC:Ent:=⟨33,[(.sli (.p (.i .i64) (.i .i64))),(.sli (.i .i64))],(.tup [(.own (.i .u8) 5 true),(.int .i64)]),[],fun s=>cL s.1 s.2⟩
theorem ez:(uC).Ok X0.P X0.Γ:=
 an (.c .o (.l ⟨[(true,7,(.bx 142 0 true [(.sli (.i .u8)),(.int .i64)])),(false,8,(.int .i64))],[]⟩ (.c (.r [40000] .o) (.l ⟨[(false,11,(.own (.i .u8) 5 true))],[]⟩ .o)))) Tryz.call33 Tryz.func33 (ok1 fO (ok1 mf (ok1 va (ok1 rY ok0)))) ok0 ok0 fun _=>by kernel_rfl
def xP:Ent:=⟨60,[(.sli (.i .u8)),(.int .u64)],(.int .u64),[],fun s=>iV s.1 s.2⟩
theorem sY:(xP).Ok X0.P X0.Γ:=
 an (.l ⟨[(false,5,(.int .u64)),(false,6,(.int .i64))],[]⟩ .o) Tryz.call60 Tryz.func60 ok0 ok0 ok0 fun _=>by kernel_rfl
def vt:Ent:=⟨59,[(.int .u64),(.int .i64)],(.int .i64),[],fun s=>ix s.1 s.2⟩
theorem ss:(vt).Ok X0.P X0.Γ:=
 an .o Tryz.call59 Tryz.func59 ok0 ok0 ok0 fun _=>by kernel_rfl
def uw:Ent:=⟨50,[(.sli (.i .u8)),(.int .u64),(.int .i64),(.int .i64)],(.own (.i .i64) 3 true),[],fun s=>bf s.1 s.2.1 s.2.2.1 s.2.2.2⟩
theorem eA:(uw).Ok X0.P X0.Γ:=
 an (.l ⟨[(false,9,(.own (.i .i64) 3 true)),(false,10,(.int .i64))],[]⟩ .o) Tryz.call50 Tryz.func50 (ok1 sY (ok1 ss ok0)) ok0 ok0 fun _=>by kernel_rfl
def wh:Ent:=⟨58,[(.own (.i .i64) 3 false),(.int .i64)],.bool,[],fun s=>kR s.1 s.2⟩
theorem se:(wh).Ok X0.P X0.Γ:=
 an (.l ⟨[(false,5,(.int .i64))],[]⟩ .o) Tryz.call58 Tryz.func58 ok0 ok0 ok0 fun _=>by kernel_rfl
def vU:Ent:=⟨45,[(.dat (.p (.l (.p (.i .i64) (.i .i64))) (.p (.i .i64) (.p (.l (.l (.i .i64))) (.l (.p .bo .bo))))) [none,none,none]),(.sli (.i .i64))],(.int .i64),[],fun s=>cR s.1 s.2⟩
theorem ie:(vU).Ok X0.P X0.Γ:=
 an (.l ⟨[(false,5,(.int .i64))],[]⟩ .o) Tryz.call45 Tryz.func45 (ok1 uz ok0) ok0 ok0 fun _=>by kernel_rfl
def uV:Ent:=⟨32,[(.dat (.p (.l (.p (.i .i64) (.i .i64))) (.p (.i .i64) (.p (.l (.l (.i .i64))) (.l (.p .bo .bo))))) [none,none,none]),(.sli (.i .i64))],(.tup [(.dat (.p (.l (.p (.i .i64) (.i .i64))) (.p (.i .i64) (.p (.l (.l (.i .i64))) (.l (.p .bo .bo))))) [none,none,none]),.bool,(.int .i64)]),[],fun s=>gB s.1 s.2⟩
theorem rk:(uV).Ok X0.P X0.Γ:=
 an (.c .o (.c .o (.c .o (.r [4,40000] .o)))) Tryz.call32 Tryz.func32 (ok1 fO (ok1 ie ok0)) ok0 ok0 fun _=>by kernel_rfl
def zt:Ent:=⟨58,[(.sli (.i .i64)),(.int .i64)],.bool,[],fun s=>fy s.1 s.2⟩
theorem vG:(zt).Ok X0.P X0.Γ:=
 an (.l ⟨[(false,5,(.int .i64))],[]⟩ .o) Tryz.call58 Tryz.func58 ok0 ok0 ok0 fun _=>by kernel_rfl
def yc:Ent:=⟨52,[(.sli (.i .i64)),(.sli (.i .i64))],.bool,[],fun s=>dD s.1 s.2⟩
theorem mI:(yc).Ok X0.P X0.Γ:=
 an (.l ⟨[(false,5,(.int .i64))],[]⟩ .o) Tryz.call52 Tryz.func52 (ok1 vG ok0) ok0 ok0 fun _=>by kernel_rfl
def uW:Ent:=⟨40,[(.dat (.p (.i .i64) (.p (.i .i64) (.p (.i .u64) (.p (.l (.i .i64)) (.p (.l (.i .i64)) (.l (.i .i64))))))) [none,none,none]),(.sli (.i .u8))],.bool,[],fun s=>cH s.1 s.2⟩
theorem eB:(uW).Ok X0.P X0.Γ:=
 an .o Tryz.call40 Tryz.func40 (ok1 eA (ok1 mI ok0)) ok0 ok0 fun _=>by kernel_rfl
def wu:Ent:=⟨49,[(.sli (.i .i64)),(.sli (.i .i64))],(.own (.i .i64) 3 true),[],fun s=>dn s.1 s.2⟩
theorem me:(wu).Ok X0.P X0.Γ:=
 an (.l ⟨[(false,5,(.own (.i .i64) 3 true)),(false,6,(.int .i64))],[]⟩ .o) Tryz.call49 Tryz.func49 (ok1 se ok0) ok0 ok0 fun _=>by kernel_rfl
def uM:Ent:=⟨34,[(.dat (.p (.i .i64) (.p (.i .i64) (.p (.i .u64) (.p (.l (.i .i64)) (.p (.l (.i .i64)) (.l (.i .i64))))))) [none,none,none]),(.sli (.i .u8))],(.tup [(.dat (.p (.i .i64) (.p (.i .i64) (.p (.i .u64) (.p (.l (.i .i64)) (.p (.l (.i .i64)) (.l (.i .i64))))))) [some 7,none,none]),.bool]),[],fun s=>gw s.1 s.2⟩
theorem qO:(uM).Ok X0.P X0.Γ:=
 an (.r [2] .o) Tryz.call34 Tryz.func34 (ok1 eB (ok1 eA (ok1 me ok0))) ok0 ok0 fun _=>by kernel_rfl
def uv:Ent:=⟨13,[(.dat (.p (.l (.p (.i .i64) (.i .i64))) (.p .bo (.p (.p (.l (.p (.i .i64) (.i .i64))) (.p (.i .i64) (.p (.l (.l (.i .i64))) (.l (.p .bo .bo))))) (.p (.i .i64) (.p (.i .i64) (.p (.i .u64) (.p (.l (.i .i64)) (.p (.l (.i .i64)) (.l (.i .i64)))))))))) [none,none,none,none,none,none,none]),(.sli (.i .i64))],(.tup [(.dat (.p (.l (.p (.i .i64) (.i .i64))) (.p .bo (.p (.p (.l (.p (.i .i64) (.i .i64))) (.p (.i .i64) (.p (.l (.l (.i .i64))) (.l (.p .bo .bo))))) (.p (.i .i64) (.p (.i .i64) (.p (.i .u64) (.p (.l (.i .i64)) (.p (.l (.i .i64)) (.l (.i .i64)))))))))) [none,none,none,none,none,none,none]),.bool,(.int .i64)]),[],fun s=>dy s.1 s.2⟩
theorem rb:(uv).Ok X0.P X0.Γ:=
 an .o Tryz.call13 Tryz.func13 (ok1 rk (ok1 ez (ok1 qO ok0))) ok0 ok0 fun _=>by kernel_rfl
def uO:Ent:=⟨39,[(.dat (.p (.l (.p (.i .i64) (.i .i64))) (.p (.i .i64) (.p (.l (.l (.i .i64))) (.l (.p .bo .bo))))) [none,none,none]),(.sli (.i .i64))],(.tup [.bool,(.int .i64)]),[],fun s=>gE s.1 s.2⟩
theorem qY:(uO).Ok X0.P X0.Γ:=
 an .o Tryz.call39 Tryz.func39 (ok1 fO (ok1 ie ok0)) ok0 ok0 fun _=>by kernel_rfl
def u5:Ent:=⟨19,[(.dat (.p (.l (.p (.i .i64) (.i .i64))) (.p .bo (.p (.p (.l (.p (.i .i64) (.i .i64))) (.p (.i .i64) (.p (.l (.l (.i .i64))) (.l (.p .bo .bo))))) (.p (.i .i64) (.p (.i .i64) (.p (.i .u64) (.p (.l (.i .i64)) (.p (.l (.i .i64)) (.l (.i .i64)))))))))) [none,none,none,none,none,none,none]),(.sli (.i .i64))],(.tup [.bool,(.int .i64)]),[],fun s=>dv s.1 s.2⟩
theorem q8:(u5).Ok X0.P X0.Γ:=
 an .o Tryz.call19 Tryz.func19 (ok1 qY (ok1 ez (ok1 eB ok0))) ok0 ok0 fun _=>by kernel_rfl
def wZ:Ent:=⟨21,[(.dat (.p (.l (.p (.i .i64) (.i .i64))) (.p .bo (.p (.p (.l (.p (.i .i64) (.i .i64))) (.p (.i .i64) (.p (.l (.l (.i .i64))) (.l (.p .bo .bo))))) (.p (.i .i64) (.p (.i .i64) (.p (.i .u64) (.p (.l (.i .i64)) (.p (.l (.i .i64)) (.l (.i .i64)))))))))) [none,none,none,none,none,none,none])],(.int .i64),[],fun s=>dY s⟩
theorem s4:(wZ).Ok X0.P X0.Γ:=
 an .o Tryz.call21 Tryz.func21 ok0 ok0 ok0 fun _=>by kernel_rfl
def yC:Ent:=⟨51,[(.dat (.p (.l (.p (.i .i64) (.i .i64))) (.p (.i .i64) (.p (.l (.l (.i .i64))) (.l (.p .bo .bo))))) [none,none,none]),(.sli (.i .i64)),(.int .i64)],(.tup [(.int .i64),(.int .i64)]),[],fun s=>fC s.1 s.2.1 s.2.2⟩
theorem nM:(yC).Ok X0.P X0.Γ:=
 an .o Tryz.call51 Tryz.func51 (ok1 fO (ok1 ie ok0)) ok0 ok0 fun _=>by kernel_rfl
def yl:Ent:=⟨35,[(.dat (.p (.l (.p (.i .i64) (.i .i64))) (.p (.i .i64) (.p (.l (.l (.i .i64))) (.l (.p .bo .bo))))) [none,none,none]),(.sli (.i .i64)),(.int .i64)],(.tup [(.dat (.p (.l (.p (.i .i64) (.i .i64))) (.p (.i .i64) (.p (.l (.l (.i .i64))) (.l (.p .bo .bo))))) [none,none,none]),(.int .i64)]),[],fun s=>jB s.1 s.2.1 s.2.2⟩
theorem uu:(yl).Ok X0.P X0.Γ:=
 an .o Tryz.call35 Tryz.func35 (ok1 nM ok0) ok0 ok0 fun _=>by kernel_rfl
def yd:Ent:=⟨36,[(.dat (.p (.i .i64) (.p (.i .i64) (.p (.i .u64) (.p (.l (.i .i64)) (.p (.l (.i .i64)) (.l (.i .i64))))))) [none,none,none]),(.sli (.i .u8)),(.int .i64)],(.tup [(.dat (.p (.i .i64) (.p (.i .i64) (.p (.i .u64) (.p (.l (.i .i64)) (.p (.l (.i .i64)) (.l (.i .i64))))))) [none,none,none]),(.int .i64)]),[],fun s=>jF s.1 s.2.1 s.2.2⟩
theorem tY:(yd).Ok X0.P X0.Γ:=
 an (.c .o (.c .o (.r [3] .o))) Tryz.call36 Tryz.func36 (ok1 eB (ok1 eA (ok1 me ok0))) ok0 ok0 fun _=>by kernel_rfl
def xv:Ent:=⟨15,[(.dat (.p (.l (.p (.i .i64) (.i .i64))) (.p .bo (.p (.p (.l (.p (.i .i64) (.i .i64))) (.p (.i .i64) (.p (.l (.l (.i .i64))) (.l (.p .bo .bo))))) (.p (.i .i64) (.p (.i .i64) (.p (.i .u64) (.p (.l (.i .i64)) (.p (.l (.i .i64)) (.l (.i .i64)))))))))) [none,none,none,none,none,none,none]),(.sli (.i .i64)),(.int .i64)],(.tup [(.dat (.p (.l (.p (.i .i64) (.i .i64))) (.p .bo (.p (.p (.l (.p (.i .i64) (.i .i64))) (.p (.i .i64) (.p (.l (.l (.i .i64))) (.l (.p .bo .bo))))) (.p (.i .i64) (.p (.i .i64) (.p (.i .u64) (.p (.l (.i .i64)) (.p (.l (.i .i64)) (.l (.i .i64)))))))))) [none,none,none,none,none,none,none]),(.int .i64)]),[],fun s=>dV s.1 s.2.1 s.2.2⟩
theorem tl:(xv).Ok X0.P X0.Γ:=
 an .o Tryz.call15 Tryz.func15 (ok1 uu (ok1 ez (ok1 tY ok0))) ok0 ok0 fun _=>by kernel_rfl
def yk:Ent:=⟨37,[(.dat (.p (.l (.p (.i .i64) (.i .i64))) (.p (.i .i64) (.p (.l (.l (.i .i64))) (.l (.p .bo .bo))))) [none,none,none]),(.sli (.i .i64)),(.int .i64)],(.tup [.bool,(.int .i64)]),[],fun s=>jA s.1 s.2.1 s.2.2⟩
theorem uK:(yk).Ok X0.P X0.Γ:=
 an .o Tryz.call37 Tryz.func37 (ok1 nM ok0) ok0 ok0 fun _=>by kernel_rfl
def yo:Ent:=⟨38,[(.dat (.p (.i .i64) (.p (.i .i64) (.p (.i .u64) (.p (.l (.i .i64)) (.p (.l (.i .i64)) (.l (.i .i64))))))) [none,none,none]),(.sli (.i .u8)),(.int .i64)],(.tup [.bool,(.int .i64)]),[],fun s=>jH s.1 s.2.1 s.2.2⟩
theorem uR:(yo).Ok X0.P X0.Γ:=
 an .o Tryz.call38 Tryz.func38 (ok1 eB (ok1 eA (ok1 mI ok0))) ok0 ok0 fun _=>by kernel_rfl
def yg:Ent:=⟨17,[(.dat (.p (.l (.p (.i .i64) (.i .i64))) (.p .bo (.p (.p (.l (.p (.i .i64) (.i .i64))) (.p (.i .i64) (.p (.l (.l (.i .i64))) (.l (.p .bo .bo))))) (.p (.i .i64) (.p (.i .i64) (.p (.i .u64) (.p (.l (.i .i64)) (.p (.l (.i .i64)) (.l (.i .i64)))))))))) [none,none,none,none,none,none,none]),(.sli (.i .i64)),(.int .i64)],(.tup [.bool,(.int .i64)]),[],fun s=>eW s.1 s.2.1 s.2.2⟩
theorem u7:(yg).Ok X0.P X0.Γ:=
 an .o Tryz.call17 Tryz.func17 (ok1 uK (ok1 ez (ok1 uR ok0))) ok0 ok0 fun _=>by kernel_rfl
def qy:Ent:=⟨3,[(.sli (.p (.i .i64) (.i .i64))),(.dat (.p (.i .i64) (.p (.i .i64) (.p (.i .i64) (.p (.i .u64) (.p (.i .i64) (.i .i64)))))) []),(.sli (.p (.i .u8) (.p (.l (.i .i64)) (.i .i64))))],.bool,[],fun s=>eM s.1 s.2.1 s.2.2⟩
theorem oO:(qy).Ok X0.P X0.Γ:=
 an (.c .o (.c .o (.c .o (.r [30000,20010] (.l ⟨[(true,8,(.bx 50 0 true [(.int .i64),(.sli (.p (.i .i64) (.i .i64))),(.int .i64),(.int .i64),(.sli (.l (.i .u8))),(.sli (.i .i64)),(.sli (.i .u8)),(.sli (.p (.i .i64) (.p (.l (.l (.i .u8))) (.l (.i .i64))))),(.int .i64),(.sli (.l (.i .u8))),(.sli (.i .i64)),(.sli (.i .u8)),(.sli (.p (.i .i64) (.p (.l (.l (.i .u8))) (.l (.i .i64))))),(.sli (.i .u8)),(.int .i64),(.sli (.p (.l (.p (.i .u8) (.i .i64))) (.i .i64))),(.int .i64),(.int .i64),(.sli (.i .i64)),(.int .i64),(.sli (.p (.l (.p (.i .u8) (.i .i64))) (.i .i64))),(.int .i64),(.int .i64),(.sli (.i .i64)),(.int .i64),(.sli (.p (.l (.p (.i .u8) (.i .i64))) (.i .i64))),(.int .i64),(.int .i64),(.sli (.i .i64)),(.int .i64),(.int .i64),(.int .u64),(.sli (.i .u8)),(.sli (.i .u8)),(.sli (.i .u8))])),(true,10,(.bx 62 0 true [(.sli (.p (.i .i64) (.i .i64))),.bool,(.sli (.p (.i .i64) (.i .i64))),(.int .i64),(.sli (.l (.i .i64))),(.sli (.p .bo .bo)),(.int .i64),(.int .i64),(.int .u64),(.sli (.i .i64)),(.sli (.i .i64)),(.sli (.i .i64))])),(false,12,(.int .i64))],[]⟩ (.c (.s (.s (.j ⟨[(true,8,(.bx 50 0 true [(.int .i64),(.sli (.p (.i .i64) (.i .i64))),(.int .i64),(.int .i64),(.sli (.l (.i .u8))),(.sli (.i .i64)),(.sli (.i .u8)),(.sli (.p (.i .i64) (.p (.l (.l (.i .u8))) (.l (.i .i64))))),(.int .i64),(.sli (.l (.i .u8))),(.sli (.i .i64)),(.sli (.i .u8)),(.sli (.p (.i .i64) (.p (.l (.l (.i .u8))) (.l (.i .i64))))),(.sli (.i .u8)),(.int .i64),(.sli (.p (.l (.p (.i .u8) (.i .i64))) (.i .i64))),(.int .i64),(.int .i64),(.sli (.i .i64)),(.int .i64),(.sli (.p (.l (.p (.i .u8) (.i .i64))) (.i .i64))),(.int .i64),(.int .i64),(.sli (.i .i64)),(.int .i64),(.sli (.p (.l (.p (.i .u8) (.i .i64))) (.i .i64))),(.int .i64),(.int .i64),(.sli (.i .i64)),(.int .i64),(.int .i64),(.int .u64),(.sli (.i .u8)),(.sli (.i .u8)),(.sli (.i .u8))])),(true,10,(.bx 62 0 true [(.sli (.p (.i .i64) (.i .i64))),.bool,(.sli (.p (.i .i64) (.i .i64))),(.int .i64),(.sli (.l (.i .i64))),(.sli (.p .bo .bo)),(.int .i64),(.int .i64),(.int .u64),(.sli (.i .i64)),(.sli (.i .i64)),(.sli (.i .i64))]))],[]⟩ .o .o))) .o)))))) Tryz.call3 Tryz.func3 (ok1 rP (ok1 uh (ok1 ve (ok1 ug (ok1 qM (ok1 q8 (ok1 tL (ok1 s4 (ok1 qI (ok1 rb (ok1 vf (ok1 tl (ok1 vz (ok1 u7 ok0)))))))))))))) ok0 ok0 fun _=>by kernel_rfl
end
end Go.Proofs.YtgcgmclghbebjaaGreat
namespace Go.Proofs.YtgcgmclghbebjaaGreat
namespace So
theorem ab {α ρ:Type} (x:α) (k:α→Option ρ):(some x).bind k=k x:=id rfl
theorem aP {α ρ:Type} (x:α) (k:α→Option ρ):aj x k=k x:=id rfl
theorem aG {ρ:Type} {c:Bool} (h:c=true) (k:Option ρ):chk c k=k:=by rw [h];rfl
theorem bP {α ρ:Type} (d:α) (m:Option α) (k:α→Option ρ):cf true d m k=m.bind k:=id rfl
theorem cU {α ρ:Type} (d:α) (m:Option α) (k:α→Option ρ):cf false d m k=k d:=id rfl
theorem jX {α:Type} (xs:List α) (k:Nat):idx xs (k:Int)=xs[k]? :=by simp [idx]
theorem bA {α:Type} {xs:List α} {k:Nat} (h:k<xs.length):idx xs (k:Int)=some xs[k]:=by rw [jX,List.getElem?_eq_getElem h]
theorem bL {α:Type} {xs:List α} {k:Nat} {x:α} (h:xs[k]? =some x):idx xs (k:Int)=some x:=by rw [jX,h]
theorem tC {α:Type} {xs:List α} {x:α} (h:xs[0]? =some x):idx xs 0=some x:=bL (k:=0) h
theorem cj {k n:Nat} (h:k<n):decide ((k:Int)<(n:Int))=true:=decide_eq_true (by omega)
theorem cT {k n:Nat} (h: ¬ k<n):decide ((k:Int)<(n:Int))=false:=decide_eq_false (by omega)
theorem nx {n:Nat} (h:n<9223372036854775807):IntKind.i64.wrap ((n:Int)+1)=((n+1:Nat):Int):=by rw [w64 (by omega)];omega
theorem bg {k b:Nat} (h:k*b≤140737488355328) (h2:k≤9223372036854775807):aw k b=true:=by
 simp only [aw,Bool.and_eq_true];exact ⟨Nat.ble_eq_true_of_le h,Nat.ble_eq_true_of_le h2⟩
/-! loops that count -/
theorem Vq {σ ρ:Type} {F:(σ→Option ρ)→σ→Option ρ} (f:Nat→σ) {r:Option ρ} (n:Nat) (hs: ∀ i,i<n→ ∀ k,F k (f i)=k (f (i+1))) (he: ∀ k,F k (f n)=r):
  ∀ (d i M:Nat),i+d=n→d<M→aq F M (f i)=r
 | 0,i,M,h,hM=>by
  obtain ⟨m,rfl⟩: ∃ m,M=m+1:=⟨M-1,by omega⟩
  rw [aE,show i=n by omega];exact he _
 | d+1,i,M,h,hM=>by
  obtain ⟨m,rfl⟩: ∃ m,M=m+1:=⟨M-1,by omega⟩
  rw [aE,hs i (by omega)]
  exact Vq f n hs he d (i+1) m (by omega) (by omega)
theorem fw {σ ρ:Type} {F:(σ→Option ρ)→σ→Option ρ} (f:Nat→σ) {r:Option ρ} (n:Nat) {s:σ} (h0:s=f 0) (hn:n<9223372036854775807) (hs: ∀ i,i<n→ ∀ k,F k (f i)=k (f (i+1))) (he: ∀ k,F k (f n)=r):
  aq F au s=r:=by
 rw [h0];exact Vq f n hs he n 0 au (by omega) (by show n<2^64;omega)
theorem Bt (p:Nat→Bool): ∀ n,(∃ i,i<n∧p i=true∧ ∀ j,j<i→p j=false)∨ ∀ j,j<n→p j=false
 | 0=> .inr fun j h=>by omega
 | n+1=>by
  rcases Bt p n with ⟨i,h1,h2,h3⟩ | h
  ·exact .inl ⟨i,by omega,h2,h3⟩
  ·cases hp:p n
   ·refine .inr fun j hj=> ?_
    by_cases e:j=n
    ·rw [e];exact hp
    ·exact h j (by omega)
   ·exact .inl ⟨n,by omega,hp,h⟩
theorem findF {σ ρ:Type} {F:(σ→Option ρ)→σ→Option ρ} (f:Nat→σ) (p:Nat→Bool) {r:Nat→Option ρ} (n:Nat) {s:σ} (h0:s=f 0) (hn:n<9223372036854775807)
  (hs: ∀ i,i<n→p i=false→ ∀ k,F k (f i)=k (f (i+1))) (hx: ∀ i,i<n→p i=true→ ∀ k,F k (f i)=r i) (he: ∀ k,F k (f n)=r n):
  (∃ i,i<n∧p i=true∧(∀ j,j<i→p j=false)∧aq F au s=r i)∨((∀ j,j<n→p j=false)∧aq F au s=r n):=by
 rcases Bt p n with ⟨i,h1,h2,h3⟩ | h
 ·exact .inl ⟨i,h1,h2,h3,fw f i h0 (by omega) (fun j hj=>hs j (by omega) (h3 j hj)) (hx i h1 h2)⟩
 ·exact .inr ⟨h,fw f n h0 hn (fun j hj=>hs j hj (h j hj)) he⟩
/-! ranges -/
abbrev Fd:=Int×Int
noncomputable def mO (f:Fd):Bool:=decide (-1073741824≤f.1)&&decide (f.2≤1073741824)&&decide (f.1≤f.2)&&decide (f.2-f.1≤65535)
noncomputable def oI (s:List Fd):Bool:=decide (1≤s.length)&&decide (s.length≤17)&&s.all mO
structure ey (s:List Fd):Prop where
 pos:1≤s.length
 few:s.length≤17
 each: ∀ f∈s,-1073741824≤f.1∧f.2≤1073741824∧f.1≤f.2∧f.2-f.1≤65535
theorem tR {s:List Fd}:oI s=true↔ey s:=by
 simp only [oI,mO,Bool.and_eq_true,decide_eq_true_eq,List.all_eq_true]
 constructor
 ·rintro ⟨⟨h1,h2⟩,h3⟩;exact ⟨h1,h2,fun f hf=>by have:=h3 f hf;omega⟩
 ·rintro ⟨h1,h2,h3⟩;exact ⟨⟨h1,h2⟩,fun f hf=>by have:=h3 f hf;omega⟩
abbrev I64 (n:Int):Prop:= -9223372036854775808≤n∧n≤9223372036854775807
abbrev FI (s:List Fd):Prop:= ∀ f∈s,I64 f.1∧I64 f.2
theorem NT {f:Fd} (h1:I64 f.1) (h2:I64 f.2):la f=some (mO f):=by
 unfold la mO
 simp only [aP,Option.some.injEq]
 rw [Bool.eq_iff_iff]
 simp only [Bool.and_eq_true,Bool.not_eq_true',Bool.or_eq_false_iff,decide_eq_true_eq,decide_eq_false_iff_not]
 by_cases h:f.1< -1073741824∨1073741824<f.2
 ·omega
 ·by_cases h':f.1≤f.2
  ·rw [w64 (by omega)];omega
  ·omega
theorem Ib {α:Type} {d:α} {s:List Fd} {g:Fd→α} (F:(List α×Int→Option (List α))→List α×Int→Option (List α)) (hs: ∀ i (hi:i<s.length) (k:List α×Int→Option (List α)) (l:List α),i<l.length→F k (l,(i:Int))=k (l.set i (g s[i]),((i+1:Nat):Int)))
  (he: ∀ (k:List α×Int→Option (List α)) (l:List α),F k (l,(s.length:Int))=some l) (hn:s.length<4611686018427387904):aq F au (List.replicate (Int.toNat (List.length s:Int)) d,0)=some (s.map g):=by
 refine fw (fun i=>((s.take i).map g++List.replicate (s.length-i) d,(i:Int))) s.length (by simp) (by omega) (fun i hi k=> ?_) (fun k=> ?_)
 ·rw [hs i hi k _ (by simp only [List.length_append,List.length_map,List.length_take,List.length_replicate];omega)]
  refine congrArg k (Prod.ext ?_ rfl)
  show List.set _ i _=_
  rw [List.set_append,if_neg (by rw [List.length_map,List.length_take];omega)]
  rw [show s.length-i=(s.length-(i+1))+1 by omega,List.replicate_succ]
  rw [show i-((s.take i).map g).length=0 by rw [List.length_map,List.length_take];omega,List.set_cons_zero,List.take_add_one,List.map_append,List.getElem?_eq_getElem hi]
  simp
 ·rw [he];simp
theorem Hr {s:List Fd} (hs:FI s) (hn:s.length<100000000):kq s=some (s.map mO):=by
 unfold kq
 rw [aG (decide_eq_true (by omega)),aG (bg (by simp;omega) (by simp;omega))]
 refine Ib (d:=false) _ (fun i hi k l hl=> ?_) (fun k l=> ?_) (by omega)
 ·have:=hs s[i] (List.getElem_mem hi)
  simp only [kY,cj hi,cond_true,bA hi,ab,NT this.1 this.2,bA hl,nx (show i<9223372036854775807 by omega),Int.toNat_natCast]
 ·simp only [kY,cT (Nat.lt_irrefl _),cond_false]
theorem contains_eq {l:List Bool} (hn:l.length<100000000) (b:Bool):eo l b=some (l.contains b):=by
 unfold eo jq
 refine (findF (F:=cX l b) (fun i=>(i:Int)) (fun i=>l[i]? ==some b) (r:=fun i=>if i<l.length then some (i:Int) else some (-1)) l.length (s:=0) rfl (by omega) (fun i hi hp k=> ?_) (fun i hi hp k=> ?_) (fun k=> ?_)).elim (fun ⟨i,h1,h2,h3,h4⟩=> ?_) (fun ⟨h1,h4⟩=> ?_)
 ·simp only [cX,cj hi,cond_true,bA hi,ab,nx (show i<9223372036854775807 by omega)]
  rw [List.getElem?_eq_getElem hi] at hp
  have:(b==l[i])=false:=by simp at hp ⊢; exact fun e=>hp e.symm
  rw [this,cond_false]
 ·simp only [cX,cj hi,cond_true,bA hi,ab,if_pos hi]
  rw [List.getElem?_eq_getElem hi] at hp
  have:(b==l[i])=true:=by simp at hp ⊢; exact hp.symm
  rw [this,cond_true]
 ·simp only [cX,cT (Nat.lt_irrefl _),cond_false,if_neg (Nat.lt_irrefl _)]
 ·rw [h4,if_pos h1,ab,decide_eq_true (by omega)]
  rw [List.getElem?_eq_getElem h1] at h2
  have:l[i]=b:=by simpa using h2
  rw [← this,List.contains_iff_mem.2 (List.getElem_mem h1)]
 ·rw [h4,if_neg (by omega),ab,decide_eq_false (by omega)]
  have: ¬ b∈l:=fun hm=>by
   obtain ⟨i,hi,e⟩:=List.getElem_of_mem hm
   have:=h1 i hi
   rw [List.getElem?_eq_getElem hi,e] at this;simp at this
  rw [show l.contains b=false by rw [← Bool.not_eq_true];exact fun h=>this (List.contains_iff_mem.1 h)]
theorem Jy {s:List Fd} (hs:FI s):od s=some (oI s):=by
 unfold od oI
 simp only [aP]
 by_cases h:1≤s.length∧s.length≤17
 ·rw [decide_eq_true (show (1:Int)≤s.length by omega),decide_eq_true (show (s.length:Int)≤17 by omega),decide_eq_true h.1,decide_eq_true h.2,Bool.and_self,bP,Hr hs (by omega),ab,bP,contains_eq (by simp;omega),ab]
  simp only [Bool.true_and,Option.some.injEq]
  rw [Bool.eq_iff_iff]
  simp
 ·have e:(decide ((1:Int)≤(s.length:Int))&&decide ((s.length:Int)≤17))=false:=by
   rw [← Bool.not_eq_true,Bool.and_eq_true,decide_eq_true_eq,decide_eq_true_eq];omega
  have e':(decide (1≤s.length)&&decide (s.length≤17))=false:=by
   rw [← Bool.not_eq_true,Bool.and_eq_true,decide_eq_true_eq,decide_eq_true_eq];omega
  rw [e,e',cU,cU,Bool.false_and,Bool.false_and]
noncomputable def inB (s:List Fd) (v:List Int):Bool:=(List.zip s v).all fun p=>decide (p.1.1≤p.2)&&decide (p.2≤p.1.2)
noncomputable def inC (s:List Fd) (v:List Int):Int:=if v.length=s.length then (if inB s v=true then 0 else 5) else 1
structure In (s:List Fd) (v:List Int):Prop where
 len:v.length=s.length
 each: ∀ i (h:i<s.length),s[i].1≤v[i]∧v[i]≤s[i].2
theorem jR {s:List Fd} {v:List Int} (hl:v.length=s.length):inB s v=true↔In s v:=by
 simp only [inB,List.all_eq_true,Bool.and_eq_true,decide_eq_true_eq]
 constructor
 ·intro h
  refine ⟨hl,fun i hi=> ?_⟩
  exact h (s[i],v[i]) (List.mem_iff_getElem.2 ⟨i,by simp;omega,by simp⟩)
 ·rintro ⟨_,h⟩ ⟨f,n⟩ hm
  obtain ⟨i,hi,e⟩:=List.mem_iff_getElem.1 hm
  simp at hi e
  have:=h i (by omega)
  rw [e.1,e.2] at this;exact this
theorem ed {s:List Fd} {v:List Int}:inC s v=0↔In s v:=by
 unfold inC
 by_cases hl:v.length=s.length
 ·rw [if_pos hl]
  by_cases h:inB s v=true
  ·rw [if_pos h];exact ⟨fun _=>(jR hl).1 h,fun _=>rfl⟩
  ·rw [if_neg h];exact ⟨fun h=>by omega,fun h'=>absurd ((jR hl).2 h') h⟩
 ·rw [if_neg hl];exact ⟨fun h=>by omega,fun h=>absurd h.len hl⟩
theorem Jb {s:List Fd} {v:List Int} (hl:v.length=s.length) (i:Nat) (hi:i<s.length) (h: ¬ (s[i].1≤v[i]∧v[i]≤s[i].2)):inC s v=5:=by
 unfold inC
 rw [if_pos hl,if_neg (fun h'=>h (((jR hl).1 h').each i hi))]
theorem jz (s:List Fd) (v:List Int) (hn:v.length<100000000):bV s v=some (inC s v):=by
 unfold bV
 by_cases hl:v.length=s.length
 ·rw [show ((v.length:Int) != (s.length:Int))=false by simp;omega,cond_false]
  have hsv: ∀ i,i<v.length→i<s.length:=fun i h=>by omega
  refine (findF (F:=lG s v) (fun i=>(i:Int)) (fun i=>if h:i<v.length then !(decide ((s[i]'(hsv i h)).1≤v[i])&&decide (v[i]≤(s[i]'(hsv i h)).2)) else false) (r:=fun i=>if i<v.length then some 5 else some 0) v.length (s:=0) rfl (by omega) (fun i hi hp k=> ?_) (fun i hi hp k=> ?_) (fun k=> ?_)).elim (fun ⟨i,h1,h2,h3,h4⟩=> ?_) (fun ⟨h1,h4⟩=> ?_)
  ·simp only [dif_pos hi,Bool.not_eq_false'] at hp
   simp only [lG,ld,aP,cj hi,cond_true,bA hi,bA (hsv i hi),ab,hp,Bool.not_true,cond_false,nx (show i<9223372036854775807 by omega)]
  ·simp only [dif_pos hi,Bool.not_eq_true'] at hp
   simp only [lG,ld,aP,cj hi,cond_true,bA hi,bA (hsv i hi),ab,hp,Bool.not_false,if_pos hi]
  ·simp only [lG,cT (Nat.lt_irrefl _),cond_false,if_neg (Nat.lt_irrefl _)]
  ·rw [h4,if_pos h1,Jb hl i (by omega)]
   rw [dif_pos h1] at h2
   simp at h2;omega
  ·rw [h4,if_neg (by omega),ed.2 ⟨hl,fun i hi=> ?_⟩]
   have:=h1 i (by omega)
   rw [dif_pos (by omega)] at this
   simpa using this
 ·rw [show ((v.length:Int) != (s.length:Int))=true by simp;omega,cond_true]
  unfold inC;rw [if_neg hl]
/-! how many bits a number has -/
noncomputable def bl (n:Nat):Nat:=if n=0 then 0 else bl (n/2)+1
theorem VS (n:Nat):n<2^bl n:=by
 induction n using Nat.strongRecOn with
 | _ n ih=>
  unfold bl
  by_cases h:n=0
  ·rw [if_pos h,h];decide
  ·rw [if_neg h,Nat.pow_succ]
   have:=ih (n/2) (by omega)
   omega
theorem C7 {n w:Nat} (h:n<2^w):bl n≤w:=by
 induction w generalizing n with
 | zero=>rw [Nat.pow_zero] at h;rw [show n=0 by omega];unfold bl;simp
 | succ w ih=>
  unfold bl
  by_cases h0:n=0
  ·rw [if_pos h0];omega
  ·rw [if_neg h0]
   have:=ih (n:=n/2) (by rw [Nat.pow_succ] at h;omega)
   omega
theorem E8: ∀ (M n k:Nat),bl n<M→k+bl n<1000→aq sG M ((n:Int),(k:Int))=some ((k+bl n:Nat):Int)
 | 0,_,_,h,_=>by omega
 | M+1,n,k,h,hk=>by
  rw [aE]
  unfold bl at h hk ⊢
  by_cases h0:n=0
  ·subst h0;rfl
  ·rw [if_neg h0] at h hk ⊢
   have:=E8 M (n/2) (k+1) (by omega) (by omega)
   simp only [sG,decide_eq_true (show (0:Int)<(n:Int) by omega),cond_true,nx (show k<9223372036854775807 by omega)]
   rw [show ar .u64 (n:Int) 1=((n/2:Nat):Int) by
    show (n:Int)/2^1=_;omega,this]
   congr 2;omega
theorem KZ {n:Nat} (h:n<18446744073709551616):qq (n:Int)=some (bl n:Int):=by
 unfold qq
 have hb:=C7 (n:=n) (w:=64) (by omega)
 have:=E8 au n 0 (by show bl n<2^64;omega) (by omega)
 rw [Nat.zero_add] at this;exact this
noncomputable def wd (f:Fd):Nat:=bl (f.2-f.1).toNat
theorem GM {f:Fd} (h:f.2-f.1≤65535):wd f≤16:=C7 (by omega)
abbrev Sub (c s:List Fd):Prop:= ∀ f∈c,f∈s
structure Fds (s:List Fd):Prop where
 few:s.length≤17
 each: ∀ f∈s,-1073741824≤f.1∧f.2≤1073741824∧f.1≤f.2∧f.2-f.1≤65535
theorem ey.fds {s:List Fd} (h:ey s):Fds s:=⟨h.few,h.each⟩
theorem Rk {s:List Fd} (hs:Fds s) {f:Fd} (hf:f∈s):kH f=some (wd f:Int):=by
 have h:=hs.each f hf
 unfold kH
 rw [w64 (by omega),qx (by omega)]
 obtain ⟨n,hn⟩:=Int.eq_ofNat_of_zero_le (show 0≤f.2-f.1 by omega)
 rw [hn,KZ (by omega),ab]
 unfold wd;rw [hn];rfl
theorem A9 {s:List Fd} (hs:Fds s):iY s=some (s.map fun f=>(wd f:Int)):=by
 have hn:=hs.few
 unfold iY
 rw [aG (decide_eq_true (by omega)),aG (bg (by simp;omega) (by simp;omega))]
 refine Ib (d:=0) _ (fun i hi k l hl=> ?_) (fun k l=> ?_) (by omega)
 ·simp only [lu,cj hi,cond_true,bA hi,ab,Rk hs (List.getElem_mem hi),bA hl,nx (show i<9223372036854775807 by omega),Int.toNat_natCast]
 ·simp only [lu,cT (Nat.lt_irrefl _),cond_false]
noncomputable def dh (s:List Fd):Nat:=(s.map wd).sum
theorem jo {s:List Fd} (hs:Fds s):dh s≤16*s.length:=by
 have h:=hs.each
 clear hs
 induction s with
 | nil=>simp [dh]
 | cons f s ih=>
  have h1:=GM (f:=f) (by have:=h f (by simp);omega)
  have h2:=ih (fun g hg=>h g (by simp [hg]))
  simp only [dh,List.map_cons,List.sum_cons,List.length_cons] at *; omega
theorem ri {s:List Fd} {i:Nat} (hi:i<s.length):dh (s.take (i+1))=dh (s.take i)+wd s[i]:=by
 unfold dh
 rw [List.take_add_one,List.getElem?_eq_getElem hi,List.map_append,List.sum_append]
 simp
theorem Fds.take {s:List Fd} (hs:Fds s) (i:Nat):Fds (s.take i):=⟨by simp;have:=hs.few;omega,fun f hf=>hs.each f (List.mem_of_mem_take hf)⟩
theorem Fds.drop {s:List Fd} (hs:Fds s) (i:Nat):Fds (s.drop i):=⟨by simp;have:=hs.few;omega,fun f hf=>hs.each f (List.mem_of_mem_drop hf)⟩
theorem Uj {s:List Fd} (hs:Fds s):pX s=some (dh s:Int):=by
 unfold pX
 rw [A9 hs,ab]
 have hn:=hs.few
 refine fw (fun i=>((dh (s.take i):Int),(i:Int))) s.length (by simp [dh]) (by omega) (fun i hi k=> ?_) (fun k=> ?_)
 ·have h1:=jo (hs.take (i+1))
  have h2:=ri hi
  simp at h1
  simp only [pB,List.length_map,cj hi,cond_true,jX,List.getElem?_map,List.getElem?_eq_getElem hi,Option.map_some,ab,nx (show i<9223372036854775807 by omega)]
  rw [w64 (by omega),h2];rfl
 ·simp only [pB,List.length_map,cT (Nat.lt_irrefl _),cond_false,List.take_length]
noncomputable def cm (s:List Fd):Nat:=max 1 ((dh s+7)/8)
theorem Hs {s:List Fd} (hs:Fds s):jW s=some (cm s:Int):=by
 unfold jW
 have h:=jo hs
 have:=hs.few
 rw [Uj hs,ab,w64 (show _∧(dh s:Int)+7≤_ by omega)]
 rw [show Int.tdiv ((dh s:Int)+7) 8=(((dh s+7)/8:Nat):Int) from rfl,w64 (by omega)]
 unfold cm
 congr 1;omega
end So
end Go.Proofs.YtgcgmclghbebjaaGreat
namespace Go.Proofs.YtgcgmclghbebjaaGreat
namespace So
/-! eight bits are a byte -/
noncomputable def b8 (a b c d e f g h:Bool):Int:=128*a.toNat+64*b.toNat+32*c.toNat+16*d.toNat+8*e.toNat+4*f.toNat+2*g.toNat+h.toNat
noncomputable def bt (m:List Bool) (j:Nat):Bool:=m[j]? ==some true
noncomputable def byt (m:List Bool):Int:=b8 (bt m 0) (bt m 1) (bt m 2) (bt m 3) (bt m 4) (bt m 5) (bt m 6) (bt m 7)
theorem tO (m:List Bool):0≤byt m∧byt m≤255:=by
 unfold byt b8
 have (b:Bool):b.toNat≤1:=by cases b <;> decide
 have h0:=this (bt m 0);have h1:=this (bt m 1);have h2:=this (bt m 2);have h3:=this (bt m 3)
 have h4:=this (bt m 4);have h5:=this (bt m 5);have h6:=this (bt m 6);have h7:=this (bt m 7)
 omega
theorem EZ {m m':List Bool} (h: ∀ j,j<8→bt m j=bt m' j):byt m=byt m':=by
 unfold byt
 rw [h 0 (by omega),h 1 (by omega),h 2 (by omega),h 3 (by omega),h 4 (by omega),h 5 (by omega),h 6 (by omega),h 7 (by omega)]
theorem U3 (a b c d e f g h:Bool):
  decide (b8 a b c d e f g h/128%2=1)=a∧decide (b8 a b c d e f g h/64%2=1)=b∧decide (b8 a b c d e f g h/32%2=1)=c∧decide (b8 a b c d e f g h/16%2=1)=d∧
  decide (b8 a b c d e f g h/8%2=1)=e∧decide (b8 a b c d e f g h/4%2=1)=f∧decide (b8 a b c d e f g h/2%2=1)=g∧decide (b8 a b c d e f g h/1%2=1)=h:=by
 cases a <;> cases b <;> cases c <;> cases d <;> cases e <;> cases f <;> cases g <;> cases h <;> decide
theorem Ey (m:List Bool) (j:Nat) (hj:j<8):decide (byt m/2^(7-j)%2=1)=bt m j:=by
 obtain ⟨h0,h1,h2,h3,h4,h5,h6,h7⟩:=U3 (bt m 0) (bt m 1) (bt m 2) (bt m 3) (bt m 4) (bt m 5) (bt m 6) (bt m 7)
 match j with
 | 0=>exact h0
 | 1=>exact h1
 | 2=>exact h2
 | 3=>exact h3
 | 4=>exact h4
 | 5=>exact h5
 | 6=>exact h6
 | 7=>exact h7
 | _+8=>omega
theorem Dw: ∀ m:List Bool,m.length<8→byt (m++[false])=byt m
 | m,h=>EZ fun j _=>by
  unfold bt
  rw [List.getElem?_append]
  split
  ·rfl
  ·rename_i hj
   rw [List.getElem?_eq_none (show m.length≤j by omega)]
   by_cases e:j-m.length=0
   ·rw [e];rfl
   ·rw [List.getElem?_eq_none (by simp;omega)]
theorem MJ: ∀ m:List Bool,m.length<8→orI .u8 (byt m) (ar .u8 128 (m.length:Int))=byt (m++[true])
 | [],_=>by decide
 | [a],_=>by cases a <;> decide
 | [a,b],_=>by cases a <;> cases b <;> decide
 | [a,b,c],_=>by cases a <;> cases b <;> cases c <;> decide
 | [a,b,c,d],_=>by cases a <;> cases b <;> cases c <;> cases d <;> decide
 | [a,b,c,d,e],_=>by cases a <;> cases b <;> cases c <;> cases d <;> cases e <;> decide
 | [a,b,c,d,e,f],_=>by cases a <;> cases b <;> cases c <;> cases d <;> cases e <;> cases f <;> decide
 | [a,b,c,d,e,f,g],_=>by cases a <;> cases b <;> cases c <;> cases d <;> cases e <;> cases f <;> cases g <;> decide
 | _::_::_::_::_::_::_::_::_,h=>by simp at h;omega
noncomputable def pk (l:List Bool):List Int:=(List.range ((l.length+7)/8)).map fun i=>byt (l.drop (8*i))
theorem dW (l:List Bool):(pk l).length=(l.length+7)/8:=by simp [pk]
theorem qa (l:List Bool) (i:Nat):(pk l)[i]? =if i<(l.length+7)/8 then some (byt (l.drop (8*i))) else none:=by
 unfold pk
 by_cases h:i<(l.length+7)/8
 ·rw [if_pos h,List.getElem?_map,List.getElem?_range h];rfl
 ·rw [if_neg h,List.getElem?_eq_none (by simp;omega)]
theorem vO (l:List Bool) (k j:Nat):bt (l.drop k) j=bt l (k+j):=by unfold bt;rw [List.getElem?_drop]
theorem Tu (l:List Bool) (b:Bool) (j:Nat) (h:j≠l.length):bt (l++[b]) j=bt l j:=by
 unfold bt
 rw [List.getElem?_append]
 split
 ·rfl
 ·rw [List.getElem?_eq_none (by simp;omega),List.getElem?_eq_none (by omega)]
theorem UY {l m:List Bool} (hl:l.length=m.length) (h:pk l=pk m):l=m:=by
 refine List.ext_getElem? fun k=> ?_
 by_cases hk:k<l.length
 ·have h1:=congrArg (fun x=>x[k/8]?) h
  simp only [qa] at h1
  rw [if_pos (by omega),if_pos (by omega)] at h1
  have h2:=Option.some.inj h1
  have h3:=Ey (l.drop (8*(k/8))) (k%8) (by omega)
  rw [h2,Ey _ _ (by omega),vO,vO,Nat.div_add_mod] at h3
  unfold bt at h3
  rw [List.getElem?_eq_getElem hk,List.getElem?_eq_getElem (by omega)] at h3 ⊢
  cases hx:l[k] <;> cases hy:m[k] <;> simp_all
 ·rw [List.getElem?_eq_none (by omega),List.getElem?_eq_none (by omega)]
abbrev By (l:List Int):Prop:= ∀ x∈l,0≤x∧x≤255
theorem VN (l:List Bool):By (pk l):=by
 intro x hx
 simp only [pk,List.mem_map] at hx
 obtain ⟨i,_,rfl⟩:=hx
 exact tO _
theorem Hb (l:List Bool) (b:Bool) (i:Nat) (h:8*i+8≤l.length):byt ((l++[b]).drop (8*i))=byt (l.drop (8*i)):=
 EZ fun j hj=>by rw [vO,vO,Tu _ _ _ (by omega)]
theorem GZ (l:List Bool) (b:Bool) (h:l.length%8=0):pk (l++[b])=pk l++[byt [b]]:=by
 refine List.ext_getElem? fun i=> ?_
 rw [qa,List.getElem?_append,dW,qa,List.length_append,List.length_singleton]
 by_cases h1:i<(l.length+7)/8
 ·rw [if_pos (by omega),if_pos h1,if_pos h1,Hb _ _ _ (by omega)]
 ·rw [if_neg h1]
  by_cases h2:i=l.length/8
  ·rw [if_pos (by omega),show i-(l.length+7)/8=0 by omega]
   rw [List.drop_append,List.drop_eq_nil_of_le (by omega),show 8*i-l.length=0 by omega];rfl
  ·rw [if_neg (by omega),List.getElem?_eq_none (by simp;omega)]
theorem Ir (l:List Bool) (b:Bool) (h:l.length%8≠0):pk (l++[b])=(pk l).set (l.length/8) (byt (l.drop (8*(l.length/8))++[b])):=by
 refine List.ext_getElem? fun i=> ?_
 rw [qa,List.getElem?_set,dW,qa,List.length_append,List.length_singleton]
 by_cases h1:l.length/8=i
 ·rw [if_pos (by omega),if_pos h1,if_pos (by omega),← h1,List.drop_append_of_le_length (by omega)]
 ·rw [if_neg h1]
  by_cases h2:i<(l.length+7)/8
  ·rw [if_pos (by omega),if_pos h2,Hb _ _ _ (by omega)]
  ·rw [if_neg (by omega),if_neg h2]
theorem add_eq (l:List Bool) (b:Bool) (hl:l.length<1000000):nX b (pk l) (l.length:Int)=some (pk (l++[b]),((l.length+1:Nat):Int)):=by
 have hd:IntKind.i64.wrap (Int.tdiv (l.length:Int) 8)=((l.length/8:Nat):Int):=by
  rw [show Int.tdiv (l.length:Int) 8=((l.length/8:Nat):Int) from rfl,w64 (by omega)]
 have hm:Int.tmod (l.length:Int) 8=((l.length%8:Nat):Int):=rfl
 have hk: ∀ c:List Int,c.length=l.length/8+1→c[l.length/8]? =some (byt (l.drop (8*(l.length/8))))→oL b (l.length:Int) c=some (c.set (l.length/8) (byt (l.drop (8*(l.length/8))++[b])),((l.length+1:Nat):Int)):=by
  intro c hc h0
  have hdl:(l.drop (8*(l.length/8))).length=l.length%8:=by simp;omega
  unfold oL tE
  simp only [aP]
  rw [nx (show l.length<9223372036854775807 by omega)]
  cases b
  ·rw [cond_false,Dw _ (by omega)]
   have hi:l.length/8<c.length:=by omega
   rw [List.getElem?_eq_getElem hi] at h0
   rw [← Option.some.inj h0,List.set_getElem_self]
  ·rw [cond_true,hd,hm,bL h0,ab,aG (decide_eq_true (by omega)),ab,Int.toNat_natCast,← MJ _ (by omega),hdl]
 unfold nX
 simp only [aP]
 rw [hm]
 by_cases h:l.length%8=0
 ·rw [h,show (((0:Nat):Int)==0)=true from rfl,cond_true,aG (bg (by simp [dW];omega) (by simp [dW];omega)),hk]
  ·rw [GZ l b h]
   have:l.length/8=(pk l).length:=by rw [dW];omega
   rw [List.drop_eq_nil_of_le (by omega),this,List.set_append_right _ _ (Nat.le_refl _),Nat.sub_self];rfl
  ·simp [dW];omega
  ·rw [List.getElem?_append_right (by rw [dW];omega),dW,show l.length/8-(l.length+7)/8=0 by omega,List.drop_eq_nil_of_le (by omega)];rfl
 ·rw [show (((l.length%8:Nat):Int)==0)=false by simp;omega,cond_false,hk]
  ·rw [Ir l b h]
  ·rw [dW];omega
  ·rw [qa,if_pos (by omega)]
noncomputable def be (n:Nat):Nat→List Bool
 | 0=>[]
 | w+1=>decide (n/2^w%2=1)::be n w
theorem jY (n:Nat): ∀ w,(be n w).length=w
 | 0=>rfl
 | w+1=>by simp [be,jY n w]
theorem zp (n:Nat): ∀ w t,t<w→(be n w)[t]? =some (decide (n/2^(w-1-t)%2=1))
 | 0,t,h=>by omega
 | w+1,0,_=>by simp [be]
 | w+1,t+1,h=>by
  rw [be,List.getElem?_cons_succ,zp n w t (by omega)]
  rw [show w+1-1-(t+1)=w-1-t by omega]
theorem Od {n m:Nat}: ∀ w,n<2^w→m<2^w→be n w=be m w→n=m
 | 0,h1,h2,_=>by simp at h1 h2;omega
 | w+1,h1,h2,h=>by
  simp only [be,List.cons.injEq] at h
  have hmod: ∀ n w,be (n%2^w) w=be n w:=by
   intro n w
   refine List.ext_getElem? fun t=> ?_
   by_cases ht:t<w
   ·rw [zp _ _ _ ht,zp _ _ _ ht]
    have:n%2^w/2^(w-1-t)%2=n/2^(w-1-t)%2:=by
     rw [show 2^w=2^(w-1-t)*2^(t+1) by rw [← Nat.pow_add];congr 1;omega,Nat.mod_mul_right_div_self]
     rw [Nat.pow_succ,Nat.mul_comm,Nat.mod_mul_right_mod]
    rw [this]
   ·rw [List.getElem?_eq_none (by rw [jY];omega),List.getElem?_eq_none (by rw [jY];omega)]
  have h3:=Od (n:=n%2^w) (m:=m%2^w) w (Nat.mod_lt _ (Nat.two_pow_pos w)) (Nat.mod_lt _ (Nat.two_pow_pos w)) (by rw [hmod,hmod];exact h.2)
  have h4:n/2^w<2:=Nat.div_lt_of_lt_mul (by rw [Nat.pow_succ] at h1;exact h1)
  have h5:m/2^w<2:=Nat.div_lt_of_lt_mul (by rw [Nat.pow_succ] at h2;exact h2)
  have h6:n/2^w=m/2^w:=by
   have:=h.1
   rw [decide_eq_decide] at this
   generalize n/2^w=x at*
   generalize m/2^w=y at*
   by_cases hx:x%2=1
   ·have:=this.1 hx;omega
   ·have:=fun h=>hx (this.2 h);omega
  rw [← Nat.div_add_mod n (2^w),← Nat.div_add_mod m (2^w),h6,h3]
theorem Wc {x:Nat} (h:x<18446744073709551616):gC .u64 (x:Int) 1=((x%2:Nat):Int):=by
 unfold gC
 rw [BitVec.toNat_and,BitVec.toNat_ofInt,BitVec.toNat_ofInt]
 rw [show ((x:Int)%((2^IntKind.u64.bits:Nat):Int)).toNat=x by
  show ((x:Int)%((18446744073709551616:Nat):Int)).toNat=x
  omega]
 rw [show ((1:Int)%((2^IntKind.u64.bits:Nat):Int)).toNat=1 from rfl,Nat.and_one_is_mod,qx (by omega)]
theorem Me {k:IntKind} (hk:k.bits=64) (n i:Nat) (hi:i<64):ar k (n:Int) (i:Int)=((n/2^i:Nat):Int):=by
 unfold ar
 rw [hk,Int.toNat_natCast,Nat.min_eq_left (by omega)]
 simp
theorem xX (l:List Int) (h:l.length<100000000):mG l=some l:=by
 unfold mG
 rw [aG (bg (by omega) (by omega))]
theorem U5 (l:List Bool) (n w:Nat) (hl:l.length<100000) (hw:w≤64) (hn:n<2^w):xt (pk l,(l.length:Int)) (n:Int) (w:Int)=some ((pk (l++be n w),((l.length+w:Nat):Int)),0):=by
 have hn64:n<18446744073709551616:=Nat.lt_of_lt_of_le hn (Nat.le_trans (Nat.pow_le_pow_right (by omega) hw) (by decide))
 have hb:=C7 hn
 unfold xt EB
 simp only [aP]
 rw [decide_eq_false (show ¬ (w:Int)<0 by omega),decide_eq_false (show ¬ (64:Int)<(w:Int) by omega),Bool.or_self,cond_false,KZ hn64,ab,decide_eq_false (by omega),cond_false,
  xX _ (by rw [dW];omega),ab,ab]
 refine fw (fun t=>(pk (l++(be n w).take t),((l.length+t:Nat):Int),(w:Int)-1-t)) w (by rw [w64 (by omega)];simp) (by omega) (fun t ht k=> ?_) (fun k=> ?_)
 ·have hi:(w:Int)-1-t=((w-1-t:Nat):Int):=by omega
  have hlt:(l++(be n w).take t).length=l.length+t:=by simp only [List.length_append,List.length_take,jY];omega
  have ha:=add_eq (l++(be n w).take t) (decide (n/2^(w-1-t)%2=1)) (by rw [hlt];omega)
  rw [hlt] at ha
  have hbit:(gC .u64 (ar .u64 (n:Int) ((w-1-t:Nat):Int)) 1==1)=decide (n/2^(w-1-t)%2=1):=by
   rw [Me rfl _ _ (by omega),Wc (Nat.lt_of_le_of_lt (Nat.div_le_self _ _) hn64),Bool.eq_iff_iff,beq_iff_eq,decide_eq_true_eq]
   generalize n/2^(w-1-t)=x
   omega
  simp only [uk,hi,decide_eq_true (show (0:Int)≤((w-1-t:Nat):Int) by omega),cond_true,hbit,aG rfl,ha,ab]
  rw [w64 (by omega),List.append_assoc,show List.take t (be n w)++[decide (n/2^(w-1-t)%2=1)]=(be n w).take (t+1) by
   rw [List.take_add_one,zp _ _ _ ht];rfl]
  congr 3
  omega
 ·simp only [uk]
  rw [decide_eq_false (by omega),cond_false,List.take_of_length_le (by rw [jY];omega)]
/-! a vector's bytes -/
noncomputable def iu (s:List Fd) (v:List Int):List Bool:=(List.zip s v).flatMap fun p=>be (p.2-p.1.1).toNat (wd p.1)
theorem wA (f:Fd) (s:List Fd) (n:Int) (v:List Int):iu (f::s) (n::v)=be (n-f.1).toNat (wd f)++iu s v:=rfl
theorem kb: ∀ (s:List Fd) (v:List Int),v.length=s.length→(iu s v).length=dh s
 | [],[],_=>rfl
 | f::s,n::v,h=>by
  have:=kb s v (by simpa using h)
  rw [wA,List.length_append,jY,this];simp [dh]
 | [],_::_,h=>by simp at h
 | _::_,[],h=>by simp at h
theorem Dy {s:List Fd} {v:List Int} {i:Nat} (h1:i<s.length) (h2:i<v.length):iu (s.take (i+1)) (v.take (i+1))=iu (s.take i) (v.take i)++be (v[i]-s[i].1).toNat (wd s[i]):=by
 unfold iu
 have hz (k:Nat):List.zip (s.take k) (v.take k)=(List.zip s v).take k:=by simp only [List.zip,List.take_zipWith]
 rw [hz,hz,List.take_add_one,List.getElem?_eq_getElem (by simp;omega),List.flatMap_append]
 simp
theorem Dc {s:List Fd} {v:List Int} (hi:In s v) {i:Nat} (h:i<s.length) (h2:i<v.length):(v[i]-s[i].1).toNat<2^wd s[i]:=by
 have:=hi.each i h
 have:=VS (s[i].2-s[i].1).toNat
 unfold wd
 omega
noncomputable def enc (s:List Fd) (v:List Int):List Int:=pk (iu s v)++List.replicate (cm s-(pk (iu s v)).length) 0
theorem nP {s:List Fd} {v:List Int} (h:v.length=s.length):(enc s v).length=cm s:=by
 have:=kb s v h
 simp only [enc,List.length_append,List.length_replicate,dW,this,cm];omega
theorem Cs (s:List Fd) (v:List Int):By (enc s v):=by
 intro x hx
 rcases List.mem_append.1 hx with h | h
 ·exact VN _ x h
 ·rw [(List.mem_replicate.1 h).2];omega
theorem Fw: ∀ {s:List Fd} {v v':List Int},In s v→In s v'→iu s v=iu s v'→v=v'
 | [],[],[],_,_,_=>rfl
 | [],_::_,_,h,_,_=>by have:=h.len;simp at this
 | [],_,_::_,_,h,_=>by have:=h.len;simp at this
 | _::_,[],_,h,_,_=>by have:=h.len;simp at this
 | _::_,_,[],_,h,_=>by have:=h.len;simp at this
 | f::s,n::v,n'::v',h,h',e=>by
  rw [wA,wA] at e
  have e':=List.append_inj e (by rw [jY,jY])
  have h1:=h.each 0 (by simp)
  have h2:=h'.each 0 (by simp)
  have f1:=Dc h (i:=0) (by simp) (by simp)
  have f2:=Dc h' (i:=0) (by simp) (by simp)
  simp at h1 h2 f1 f2
  have hn:=Od _ f1 f2 e'.1
  have hv:=Fw (s:=s) (v:=v) (v':=v') ⟨by have:=h.len;simpa using this,fun i hi=>h.each (i+1) (by simp;omega)⟩ ⟨by have:=h'.len;simpa using this,fun i hi=>h'.each (i+1) (by simp;omega)⟩ e'.2
  rw [hv,show n=n' by omega]
theorem KB {s:List Fd} {v v':List Int} (h:In s v) (h':In s v') (e:enc s v=enc s v'):v=v':=by
 have l1:=kb s v h.len
 have l2:=kb s v' h'.len
 have e':=List.append_inj e (by rw [dW,dW,l1,l2])
 exact Fw h h' (UY (by rw [l1,l2]) e'.1)
theorem In.take {s:List Fd} {v:List Int} (h:In s v) (i:Nat):In (s.take i) (v.take i):=
 ⟨by simp [h.len],fun j hj=>by simp at hj ⊢; exact h.each j (by omega)⟩
theorem In.drop {s:List Fd} {v:List Int} (h:In s v) (i:Nat):In (s.drop i) (v.drop i):=
 ⟨by simp [h.len],fun j hj=>by simp at hj ⊢; exact h.each (i+j) (by omega)⟩
theorem yL {s:List Fd} {v:List Int} (hs:Fds s) (hv:In s v):fW s v=some (enc s v,0):=by
 have hf:=hs.few
 have hl:=hv.len
 have hbn:=jo hs
 unfold fW
 rw [jz s v (by omega),ed.2 hv,ab,show ((0:Int) != 0)=false from rfl,cond_false,A9 hs,ab]
 refine fw (fun i=>(pk (iu (s.take i) (v.take i)),((dh (s.take i):Nat):Int),(i:Int))) s.length (by simp [dh];rfl) (by omega) (fun i hi k=> ?_) (fun k=> ?_)
 ·have hi':i<v.length:=by omega
  have hfi:=hs.each s[i] (List.getElem_mem hi)
  have hvi:=hv.each i hi
  have hbl:=kb (s.take i) (v.take i) (by simp [hl])
  have hbi:=jo (hs.take i)
  have hP:=U5 (iu (s.take i) (v.take i)) (v[i]-s[i].1).toNat (wd s[i]) (by rw [hbl];simp at hbi;omega) (by have:=GM (f:=s[i]) (by omega);omega) (Dc hv hi hi')
  rw [hbl,← Dy hi hi',← ri hi] at hP
  rw [show (((v[i]-s[i].1).toNat:Nat):Int)=v[i]-s[i].1 by omega] at hP
  simp only [nb,List.length_map,cj hi,cond_true,jX,List.getElem?_map,List.getElem?_eq_getElem hi,List.getElem?_eq_getElem hi',Option.map_some,ab,nx (show i<9223372036854775807 by omega)]
  rw [w64 (by omega),qx (by omega),hP,ab]
 ·simp only [nb,List.length_map,cT (Nat.lt_irrefl _),cond_false,Hs hs,ab,Int.toNat_natCast]
  have hb:cm s≤40:=by unfold cm;omega
  rw [aG (decide_eq_true (by omega)),aG (bg (by omega) (by omega)),List.take_length,List.take_of_length_le (by omega)]
  unfold oB enc
  have:(pk (iu s v)).length≤cm s:=by rw [dW,kb s v hl];unfold cm;omega
  rw [List.length_replicate,List.take_of_length_le this,List.drop_replicate]
end So
end Go.Proofs.YtgcgmclghbebjaaGreat
namespace Go.Proofs.YtgcgmclghbebjaaGreat
namespace So
theorem Fe: ∀ {x y:List Int},By x→By y→strOf x=strOf y→x=y
 | [],[],_,_,_=>rfl
 | [],_::_,_,_,h=>by simp [strOf] at h
 | _::_,[],_,_,h=>by simp [strOf] at h
 | a::x,b::y,hx,hy,h=>by
  simp only [strOf,List.map_cons,List.cons.injEq] at h
  have ha:=hx a (by simp)
  have hb:=hy b (by simp)
  have h1:=congrArg UInt8.toNat h.1
  rw [UInt8.toNat_ofNat',UInt8.toNat_ofNat'] at h1
  rw [Fe (fun x hx'=>hx x (by simp [hx'])) (fun y hy'=>hy y (by simp [hy'])) h.2,show a=b by omega]
theorem G9 {x y:List Int} (hx:By x) (hy:By y):mF x y=some (decide (x=y)):=by
 unfold mF
 congr 1
 by_cases h:x=y
 ·rw [h];simp
 ·rw [decide_eq_false h,beq_eq_false_iff_ne];exact fun e=>h (Fe hx hy e)
/-! the hash -/
noncomputable def hst (h c:Int):Int:=IntKind.u64.wrap ((gM .u64 h (IntKind.u64.wrap c))*1099511628211)
noncomputable def hsh (b:List Int) (seed:Int):Int:=
 let h:=b.foldl hst (gM .u64 seed 11400714819323198485)
 let h1:=gM .u64 h (ar .u64 h 29)
 let h2:=IntKind.u64.wrap (h1*13787848793156543929)
 gM .u64 h2 (ar .u64 h2 32)
theorem tN (x:Int):0≤IntKind.u64.wrap x∧IntKind.u64.wrap x<18446744073709551616:=by rw [IntKind.wrap_u64];omega
theorem Fc (b:List Int) (seed:Int):0≤hsh b seed∧hsh b seed<18446744073709551616:=tN _
theorem KC (b:List Int) (seed:Int) (hl:b.length<100000000):pd b seed=some (hsh b seed):=by
 unfold pd
 refine fw (fun i=>((b.take i).foldl hst (gM .u64 seed 11400714819323198485),(i:Int))) b.length rfl (by omega) (fun i hi k=> ?_) (fun k=> ?_)
 ·simp only [uH,cj hi,cond_true,bA hi,ab,nx (show i<9223372036854775807 by omega)]
  rw [List.take_add_one,List.getElem?_eq_getElem hi,List.foldl_append]
  rfl
 ·simp only [uH,cT (Nat.lt_irrefl _),cond_false,ur,ue,u9,ab,List.take_length]
  rfl
noncomputable def home (key:List Int) (n:Nat):Nat:=(hsh key 0).toNat%n
theorem HZ (b:List Int) (seed:Int) {n:Nat} (h0:0<n) (hn:n<1000000000):nE (hsh b seed) (n:Int)=some (((hsh b seed).toNat%n:Nat):Int):=by
 unfold nE
 have h:=Fc b seed
 rw [decide_eq_false (by omega),cond_false,qx (by omega),aG (by simp;omega)]
 have:Int.tmod (hsh b seed) (n:Int)=(((hsh b seed).toNat%n:Nat):Int):=by
  obtain ⟨m,hm⟩:=Int.eq_ofNat_of_zero_le h.1
  rw [hm];rfl
 have hlt:=Nat.mod_lt (hsh b seed).toNat h0
 rw [this,w64 (by omega)]
theorem DA {α:Type} {l m:List α} (hl:l.Nodup) (h: ∀ x∈l,x∈m):l.length≤m.length:=by
 classical
 induction l generalizing m with
 | nil=>simp
 | cons x l ih=>
  have hx:=h x (by simp)
  have hn:=List.nodup_cons.1 hl
  obtain ⟨s,t,rfl⟩:=List.append_of_mem hx
  have:=ih (m:=s++t) hn.2 fun y hy=>by
   have:=h y (by simp [hy])
   simp only [List.mem_append,List.mem_cons] at this ⊢
   rcases this with h | rfl | h
   ·exact .inl h
   ·exact absurd hy hn.1
   ·exact .inr h
  simp at this ⊢; omega
theorem dq {α:Type} {l:List α} {i j:Nat} {a:α} (h:i<l.length):(l.set i a)[j]? =if i=j then some a else l[j]? :=by
 rw [List.getElem?_set]
 by_cases e:i=j
 ·rw [if_pos e,if_pos e];simp [h]
 ·rw [if_neg e,if_neg e]
theorem JA {α:Type} {l:List α} (h:l.Nodup) {i j:Nat} (hi:i<l.length) (hj:j<l.length) (e:l[i]=l[j]):i=j:=by
 have hp:=List.pairwise_iff_getElem.1 h
 rcases Nat.lt_trichotomy i j with hij | hij | hij
 ·exact absurd e (hp i j hi hj hij)
 ·exact hij
 ·exact absurd e.symm (hp j i hj hi hij)
theorem fe {α:Type} {l:List α} {x:α} {i:Nat} (h:l[i]? =some x):i<l.length:=by
 rcases Nat.lt_or_ge i l.length with h' | h'
 ·exact h'
 ·rw [List.getElem?_eq_none h'] at h;cases h
theorem CL {α:Type} {l:List α} (h:l.Nodup) {i j:Nat} {x:α} (hi:l[i]? =some x) (hj:l[j]? =some x):i=j:=by
 have h1:=fe hi
 have h2:=fe hj
 rw [List.getElem?_eq_getElem h1] at hi
 rw [List.getElem?_eq_getElem h2] at hj
 exact JA h h1 h2 ((Option.some.inj hi).trans (Option.some.inj hj).symm)
/-! slots -/
structure Laid (K:List (List Int)) (S:List Int) (m:Nat):Prop where
 le:m≤K.length
 lt:m<S.length
 val: ∀ (p:Nat) (x:Int),S[p]? =some x→x=0∨ ∃ i:Nat,i<m∧x=(i:Int)+1
 uniq: ∀ (p q:Nat) (x:Int),S[p]? =some x→S[q]? =some x→x≠0→p=q
 path: ∀ (i:Nat) (k:List Int),i<m→K[i]? =some k→ ∃ d,d<S.length∧S[(home k S.length+d)%S.length]? =some ((i:Int)+1)∧ ∀ e,e<d→S[(home k S.length+e)%S.length]? ≠some 0
theorem Laid.free {K:List (List Int)} {S:List Int} {m:Nat} (h:Laid K S m): ∃ p,p<S.length∧S[p]? =some 0:=by
 by_cases hp: ∃ p,p<S.length∧S[p]? =some 0
 ·exact hp
 ·exfalso
  have hne: ∀ p,p<S.length→S[p]? ≠some 0:=fun p h1 h2=>hp ⟨p,h1,h2⟩
  have hnd:S.Nodup:=by
   refine List.pairwise_iff_getElem.2 fun i j hi hj hij e=> ?_
   have:=h.uniq i j _ ((List.getElem?_eq_getElem hi).trans (congrArg some e)) (List.getElem?_eq_getElem hj) (fun e0=>hne j hj (by rw [List.getElem?_eq_getElem hj,e0]))
   omega
  have hsub: ∀ x∈S,x∈(List.range m).map fun i:Nat=>(i:Int)+1:=by
   intro x hx
   obtain ⟨p,hp',e⟩:=List.getElem_of_mem hx
   have e':S[p]? =some x:=by rw [List.getElem?_eq_getElem hp',e]
   rcases h.val p x e' with rfl | ⟨i,hi,rfl⟩
   ·exact absurd e' (hne p hp')
   ·exact List.mem_map.2 ⟨i,List.mem_range.2 hi,rfl⟩
  have:=DA hnd hsub
  simp at this
  have:=h.lt
  omega
theorem zn {K:List (List Int)} {S:List Int} {m:Nat} {cap:Int} (h:Laid K S m) (hK: ∀ k∈K,By k) {key:List Int} (hk:By key) (hl:key.length<100000000) (hn:S.length<1000000000) (hn2:K.length<1000000000):
  ∃ d,d<S.length∧da (cap,K,S) key=some (((home key S.length+d)%S.length:Nat):Int)∧(∀ e,e<d→S[(home key S.length+e)%S.length]? ≠some 0)∧
   ((S[(home key S.length+d)%S.length]? =some 0∧ ∀ i:Nat,i<m→K[i]? ≠some key)∨ ∃ i:Nat,i<m∧K[i]? =some key∧S[(home key S.length+d)%S.length]? =some ((i:Int)+1)):=by
 have h0:0<S.length:=by have:=h.lt;omega
 have hmod (t:Nat):(home key S.length+t)%S.length<S.length:=Nat.mod_lt _ h0
 have hhome:home key S.length<S.length:=Nat.mod_lt _ h0
 -- where it stops
 let q:Nat→Bool:=fun t=>match S[(home key S.length+t)%S.length]? with
  | some x=>x==0||K[(x-1).toNat]? ==some key
  | none=>true
 have hq (t:Nat) (x:Int) (hx:S[(home key S.length+t)%S.length]? =some x):q t=(x==0||K[(x-1).toNat]? ==some key):=by simp only [q,hx]
 have hstep: ∀ t,t<S.length→q t=false→ ∀ k,dp (cap,K,S) key k (((home key S.length+t)%S.length:Nat):Int)=k (((home key S.length+(t+1))%S.length:Nat):Int):=by
  intro t ht hqt k
  have hx:=List.getElem?_eq_getElem (hmod t)
  rw [hq t _ hx] at hqt
  rcases h.val _ _ hx with e | ⟨i,hi,e⟩
  ·rw [e] at hqt;simp at hqt
  ·rw [e] at hx hqt
   have hi':i<K.length:=by have:=h.le;omega
   have hki:K[i]? =some K[i]:=List.getElem?_eq_getElem hi'
   have hne: ¬ K[i]=key:=by
    simp only [Bool.or_eq_false_iff] at hqt
    have:=hqt.2
    rw [show ((i:Int)+1-1).toNat=i by omega,hki] at this
    simpa using this
   simp only [dp,aP,bL hx,ab]
   rw [show ((i:Int)+1==0)=false by simp;omega]
   simp only [Bool.not_false,bP]
   rw [w64 (by omega),show (i:Int)+1-1=(i:Int) by omega,bL hki,ab,G9 (hK _ (List.getElem_mem hi')) hk,ab,decide_eq_false hne,Bool.or_self,cond_false]
   have hm:=hmod t
   rw [aG (show ((S.length:Int) != 0)=true from bne_iff_ne.2 (by omega)),nx (show (home key S.length+t)%S.length<9223372036854775807 by omega)]
   congr 1
   show ((((home key S.length+t)%S.length+1)%S.length:Nat):Int)=_
   rw [Nat.mod_add_mod,Nat.add_assoc]
 have hstop: ∀ t,t<S.length→q t=true→ ∀ k,dp (cap,K,S) key k (((home key S.length+t)%S.length:Nat):Int)=some (((home key S.length+t)%S.length:Nat):Int):=by
  intro t ht hqt k
  have hx:=List.getElem?_eq_getElem (hmod t)
  rw [hq t _ hx] at hqt
  rcases h.val _ _ hx with e | ⟨i,hi,e⟩
  ·rw [e] at hx
   simp only [dp,aP,bL hx,ab]
   rfl
  ·rw [e] at hx hqt
   have hi':i<K.length:=by have:=h.le;omega
   have hki:K[i]? =some K[i]:=List.getElem?_eq_getElem hi'
   have hne:K[i]=key:=by
    rw [show ((i:Int)+1==0)=false by simp;omega,Bool.false_or,show ((i:Int)+1-1).toNat=i by omega,hki] at hqt
    simpa using hqt
   simp only [dp,aP,bL hx,ab]
   rw [show ((i:Int)+1==0)=false by simp;omega]
   simp only [Bool.not_false,bP]
   rw [w64 (by omega),show (i:Int)+1-1=(i:Int) by omega,bL hki,ab,G9 (hK _ (List.getElem_mem hi')) hk,ab,decide_eq_true hne,Bool.or_true,cond_true]
 -- it stops somewhere
 have hex: ∃ t,t<S.length∧q t=true:=by
  obtain ⟨p,hp,e⟩:=h.free
  refine ⟨(p+S.length-home key S.length)%S.length,Nat.mod_lt _ h0,?_⟩
  have:(home key S.length+(p+S.length-home key S.length)%S.length)%S.length=p:=by
   rw [Nat.add_mod_mod,show home key S.length+(p+S.length-home key S.length)=p+S.length by omega,Nat.add_mod_right,Nat.mod_eq_of_lt hp]
  rw [hq _ 0 (by rw [this];exact e)];rfl
 rcases Bt q S.length with ⟨d,hd,hqd,hmin⟩ | hno
 ·refine ⟨d,hd,?_,?_,?_⟩
  ·unfold da
   rw [KC key 0 hl,ab,HZ key 0 h0 hn,ab]
   exact fw (fun t=>(((home key S.length+t)%S.length:Nat):Int)) d (by rw [Nat.add_zero,Nat.mod_eq_of_lt hhome];rfl) (by omega) (fun t ht=>hstep t (by omega) (hmin t ht)) (hstop d hd hqd)
  ·intro e he e0
   have:=hmin e he
   rw [hq e 0 e0] at this;simp at this
  ·have hx:=List.getElem?_eq_getElem (hmod d)
   rcases h.val _ _ hx with e | ⟨i,hi,e⟩
   ·rw [e] at hx
    refine .inl ⟨hx,fun i hi hki=> ?_⟩
    obtain ⟨d',h1,h2,h3⟩:=h.path i key hi hki
    have hq':q d'=true:=by
     rw [hq d' _ h2,show ((i:Int)+1-1).toNat=i by omega,hki];simp
    have:d≤d':=by
     rcases Nat.lt_or_ge d' d with hlt | hge
     ·rw [hmin d' hlt] at hq';cases hq'
     ·exact hge
    by_cases e':d=d'
    ·subst e';rw [hx] at h2;simp at h2;omega
    ·exact h3 d (by omega) hx
   ·rw [e] at hx
    have hi':i<K.length:=by have:=h.le;omega
    rw [hq d _ hx,show ((i:Int)+1==0)=false by simp;omega,Bool.false_or,show ((i:Int)+1-1).toNat=i by omega] at hqd
    exact .inr ⟨i,hi,by simpa using hqd,hx⟩
 ·obtain ⟨t,ht,e⟩:=hex
  rw [hno t ht] at e;cases e
theorem HF {K:List (List Int)} {S:List Int} {m:Nat} {key:List Int} (h:Laid K S m) (hk:K[m]? =some key) (hm:m+1<S.length) {d:Nat} (hd:d<S.length) (hz:S[(home key S.length+d)%S.length]? =some 0) (hp: ∀ e,e<d→S[(home key S.length+e)%S.length]? ≠some 0):
  Laid K (S.set ((home key S.length+d)%S.length) ((m:Int)+1)) (m+1):=by
 have hmK:m<K.length:=by
  rcases Nat.lt_or_ge m K.length with h | h
  ·exact h
  ·rw [List.getElem?_eq_none h] at hk;cases hk
 have h0:0<S.length:=by omega
 have hlt:(home key S.length+d)%S.length<S.length:=Nat.mod_lt _ h0
 refine ⟨hmK,by simpa using hm,fun p x hx=> ?_,fun p q x hx hy hne=> ?_,fun i k hi hki=> ?_⟩
 ·rw [dq hlt] at hx
  split at hx
  ·exact .inr ⟨m,by omega,(Option.some.inj hx).symm⟩
  ·rcases h.val p x hx with e | ⟨i,hi,e⟩
   ·exact .inl e
   ·exact .inr ⟨i,by omega,e⟩
 ·have hnew: ∀ p:Nat,S[p]? =some ((m:Int)+1)→False:=fun p hp=>by
   rcases h.val p _ hp with e | ⟨i,hi,e⟩ <;> omega
  rw [dq hlt] at hx hy
  split at hx <;> split at hy
  ·omega
  ·rw [← Option.some.inj hx] at hy
   exact absurd hy (fun h=>hnew q h)
  ·rw [← Option.some.inj hy] at hx
   exact absurd hx (fun h=>hnew p h)
  ·exact h.uniq p q x hx hy hne
 ·rw [List.length_set]
  have hkeep: ∀ p:Nat,S[p]? ≠some 0→(S.set ((home key S.length+d)%S.length) ((m:Int)+1))[p]? ≠some 0:=by
   intro p hp' e
   rw [dq hlt] at e
   split at e
   ·have:=Option.some.inj e;omega
   ·exact hp' e
  by_cases him:i=m
  ·subst him
   rw [hk] at hki
   cases hki
   refine ⟨d,hd,?_,fun e he=>hkeep _ (hp e he)⟩
   rw [dq hlt,if_pos rfl]
  ·obtain ⟨d',h1,h2,h3⟩:=h.path i k (by omega) hki
   refine ⟨d',h1,?_,fun e he=>hkeep _ (h3 e he)⟩
   rw [dq hlt,if_neg (fun e=>by rw [← e,hz] at h2;simp at h2;omega)]
   exact h2
theorem HC {K:List (List Int)} {n:Nat} (hn:0<n):Laid K (List.replicate n 0) 0:=
 ⟨Nat.zero_le _,by simpa using hn,fun p x hx=> .inl (by rw [List.getElem?_replicate] at hx;split at hx;(exact (Option.some.inj hx).symm);(cases hx)),
  fun p q x hx _ hne=>(by rw [List.getElem?_replicate] at hx;split at hx;(exact absurd (Option.some.inj hx).symm hne);(cases hx)),fun i k hi=>by omega⟩
theorem OZ {K:List (List Int)} {S:List Int} {m:Nat} (h:Laid K S m) (key:List Int):Laid (K++[key]) S m:=
 ⟨by simp;have:=h.le;omega,h.lt,h.val,h.uniq,fun i k hi hk=>by
  rw [List.getElem?_append_left (by have:=h.le;omega)] at hk
  exact h.path i k hi hk⟩
theorem S4: @np= @dp:=rfl
theorem RH (t:Int×List (List Int)×List Int) (key:List Int):iR t key=da t key:=by
 unfold iR da;rw [S4]
/-! the table -/
abbrev Tb:=Int×List (List Int)×List Int
structure Key (k:List Int):Prop where
 by_:By k
 short:k.length<100000
structure TI (t:Tb):Prop where
 cap0:0≤t.1
 cap1:t.1≤1048576
 few:(t.2.1.length:Int)≤t.1
 nd:t.2.1.Nodup
 keys: ∀ k∈t.2.1,Key k
 eight:8≤t.2.2.length
 half:2*t.2.1.length≤t.2.2.length
 small:t.2.2.length≤8+4*t.2.1.length
 laid:Laid t.2.1 t.2.2 t.2.1.length
theorem TI.n {t:Tb} (h:TI t):t.2.1.length≤1048576:=by have:=h.few;have:=h.cap1;omega
theorem Dh (most:Int):jc most=if most<0∨1048576<most then some ((0,[],[]),1) else some ((most,[],List.replicate 8 0),0):=by
 unfold jc
 simp only [aP]
 by_cases h:most<0∨1048576<most
 ·rw [if_pos h,show (decide (most<0)||decide (1048576<most))=true by simpa using h];rfl
 ·rw [if_neg h,show (decide (most<0)||decide (1048576<most))=false by simp;omega];rfl
theorem C4 {most:Int} (h0:0≤most) (h1:most≤1048576):TI (most,[],List.replicate 8 0):=
 ⟨h0,h1,h0,List.nodup_nil,fun k hk=>by simp at hk,by simp,by simp,by simp,HC (by omega)⟩
theorem gI {t:Tb} (h:TI t) {key:List Int} (hk:Key key):(∀ i:Nat,t.2.1[i]? =some key→bS t key=some ((i:Int),true))∧(key∉t.2.1→bS t key=some (0,false)):=by
 have hn:=h.n
 have hs:=h.small
 have he:=h.eight
 obtain ⟨d,h1,h2,h3,h4⟩:=zn (cap:=t.1) h.laid (fun k hk=>(h.keys k hk).by_) hk.by_ (by have:=hk.short;omega) (by omega) (by omega)
 have hF: ∀ x,t.2.2[(home key t.2.2.length+d)%t.2.2.length]? =some x→bS t key=some (max (IntKind.i64.wrap (x-1)) 0,decide (0<x)):=by
  intro x hx
  unfold bS oJ
  rw [show ((t.2.2.length:Int)==0)=false from beq_eq_false_iff_ne.2 (by omega),cond_false,show da t key=_ from h2,ab,bL hx,ab,ab]
 refine ⟨fun i hi=> ?_,fun hno=> ?_⟩
 ·have hil:i<t.2.1.length:=by
   rcases Nat.lt_or_ge i t.2.1.length with h | h
   ·exact h
   ·rw [List.getElem?_eq_none h] at hi;cases hi
  rcases h4 with ⟨_,h5⟩ | ⟨j,hj,h5,h6⟩
  ·exact absurd hi (h5 i hil)
  ·have:i=j:=by
    exact CL h.nd hi h5
   subst this
   rw [hF _ h6,w64 (by omega),decide_eq_true (by omega)]
   congr 2;omega
 ·rcases h4 with ⟨h5,_⟩ | ⟨j,hj,h5,_⟩
  ·rw [hF _ h5];rfl
  ·exact absurd (List.mem_of_getElem? h5) hno
theorem EY {l:List Int} (h:l.length<1000000000):dw l=some l:=by
 unfold dw
 rw [aG (bg (by omega) (by omega))]
theorem z6 {α:Type} (l:List α):bd l 0 (l.length:Int)=l:=by
 unfold bd;simp
theorem wW {α:Type} (l:List α):(jj 0 (l.length:Int) (l.length:Int) l.length&&((l.length:Int)==(l.length:Int)))=true:=by
 simp [jj]
theorem TU {K:List (List Int)} (nd:K.Nodup) (hK: ∀ k∈K,Key k) (hn:K.length≤1048577) {n:Nat} (h1:K.length<n) (h2:n<100000000) (cap:Int) (S0:List Int): ∃ S,kC (n:Int) cap K S0=some (K,S)∧S.length=n∧Laid K S K.length:=by
 have key: ∀ (d i:Nat) (S:List Int) (M:Nat),i+d=K.length→d<M→S.length=n→Laid K S i→ ∃ S',aq (il cap K) M (K,S,(i:Int))=some (K,S')∧S'.length=n∧Laid K S' K.length:=by
  intro d
  induction d with
  | zero=>
   intro i S M hi hM hS hL
   obtain ⟨m,rfl⟩: ∃ m,M=m+1:=⟨M-1,by omega⟩
   rw [aE]
   have:i=K.length:=by omega
   subst this
   exact ⟨S,by simp only [il,cT (Nat.lt_irrefl _),cond_false],hS,hL⟩
  | succ d ih=>
   intro i S M hi hM hS hL
   obtain ⟨m,rfl⟩: ∃ m,M=m+1:=⟨M-1,by omega⟩
   rw [aE]
   have hiK:i<K.length:=by omega
   have hki:=List.getElem?_eq_getElem hiK
   have hkey:=hK _ (List.getElem_mem hiK)
   obtain ⟨e,e1,e2,e3,e4⟩:=zn (cap:=cap) hL (fun k hk=>(hK k hk).by_) hkey.by_ (by have:=hkey.short;omega) (by omega) (by omega)
   have hz:S[(home K[i] S.length+e)%S.length]? =some 0:=by
    rcases e4 with ⟨h,_⟩ | ⟨j,hj,h,_⟩
    ·exact h
    ·rw [List.getElem?_eq_getElem (show j<K.length by omega)] at h
     have:=JA nd _ _ (Option.some.inj h)
     omega
   obtain ⟨S',s1,s2,s3⟩:=ih (i+1) (S.set ((home K[i] S.length+e)%S.length) ((i:Int)+1)) m (by omega) (by omega) (by simpa using hS) (HF hL hki (by omega) e1 hz e3)
   refine ⟨S',?_,s2,s3⟩
   rw [show ((i:Int)+1)=((i+1:Nat):Int) by omega] at s1
   unfold il
   dsimp only
   rw [cj hiK,cond_true,bL hki,ab,RH,e2,ab,bL hz,ab,Int.toNat_natCast,nx (show i<9223372036854775807 by omega)]
   exact s1
 unfold kC
 rw [aG (decide_eq_true (by omega)),aG (bg (by simp;omega) (by simp;omega)),Int.toNat_natCast]
 have:=key K.length 0 (List.replicate n 0) au (by omega) (by show _<2^64;omega) (by simp) (HC (by omega))
 rw [show ((0:Nat):Int)=0 from rfl] at this
 exact this
theorem Fa {t:Tb} (h:TI t) {key:List Int} (hk:Key key) {i:Nat} (hi:t.2.1[i]? =some key):bk t key=some (t,(i:Int),false,0):=by
 unfold bk
 rw [(gI h hk).1 i hi,ab];rfl
theorem Kg {t:Tb} (h:TI t) {key:List Int} (hk:Key key) (hn:key∉t.2.1) (hf:t.1≤t.2.1.length):bk t key=some (t,0,false,7):=by
 unfold bk
 rw [(gI h hk).2 hn,ab,cond_false,decide_eq_true hf];rfl
theorem w7 {t:Tb} (h:TI t) {key:List Int} (hk:Key key) (hn:key∉t.2.1) (hf:(t.2.1.length:Int)<t.1):
  ∃ t',bk t key=some (t',(t.2.1.length:Int),true,0)∧t'.1=t.1∧t'.2.1=t.2.1++[key]∧TI t':=by
 have hN:=h.n
 have hs:=h.small
 have he:=h.eight
 have hh:=h.half
 have hc1:=h.cap1
 have nd':(t.2.1++[key]).Nodup:=List.nodup_append.2 ⟨h.nd,by simp,fun a ha b hb=>by simp at hb;subst hb;exact fun e=>hn (e▸ha)⟩
 have hK': ∀ k∈t.2.1++[key],Key k:=fun k hk'=>by
  rcases List.mem_append.1 hk' with h' | h'
  ·exact h.keys k h'
  ·simp at h';subst h';exact hk
 unfold bk
 rw [(gI h hk).2 hn,ab,cond_false,decide_eq_false (by omega),cond_false,aG (wW _),xX key (by have:=hk.short;omega),ab,z6,aG (bg (by simp;omega) (by simp;omega))]
 simp only [aP,tK]
 rw [nx (show t.2.1.length<9223372036854775807 by omega),w64 (show _∧2*((t.2.1.length+1:Nat):Int)≤_ by omega)]
 by_cases hg:t.2.2.length<2*(t.2.1.length+1)
 ·rw [decide_eq_true (by omega),cond_true,w64 (by omega)]
  obtain ⟨S,g1,g2,g3⟩:=TU nd' hK' (by simp;omega) (n:=2*t.2.2.length) (by simp;omega) (by omega) t.1 t.2.2
  rw [show (2*max (t.2.2.length:Int) 8)=((2*t.2.2.length:Nat):Int) by omega,g1,ab]
  exact ⟨_,rfl,rfl,rfl,h.cap0,h.cap1,by simp;omega,nd',hK',by show 8≤S.length;omega,by show 2*(t.2.1++[key]).length≤S.length;simp;omega,by show S.length≤8+4*(t.2.1++[key]).length;simp;omega,g3⟩
 ·rw [decide_eq_false (by omega),cond_false,EY (by omega),ab]
  obtain ⟨d,e1,e2,e3,e4⟩:=zn (cap:=t.1) h.laid (fun k hk=>(h.keys k hk).by_) hk.by_ (by have:=hk.short;omega) (by omega) (by omega)
  have hz:t.2.2[(home key t.2.2.length+d)%t.2.2.length]? =some 0:=by
   rcases e4 with ⟨h,_⟩ | ⟨j,hj,h,_⟩
   ·exact h
   ·exact absurd (List.mem_of_getElem? h) hn
  rw [show da t key=_ from e2,ab,bL hz,ab,Int.toNat_natCast]
  have hL:=HF (OZ h.laid key) (key:=key) (by simp) (by omega) e1 hz e3
  exact ⟨_,rfl,rfl,rfl,h.cap0,h.cap1,by simp;omega,nd',hK',by simpa using h.eight,by simp;omega,by simp;omega,by simpa using hL⟩
end So
end Go.Proofs.YtgcgmclghbebjaaGreat
namespace Go.Proofs.YtgcgmclghbebjaaGreat
namespace So
/-! flags -/
noncomputable def fl (a b:Bool):Int:=a.toNat+2*b.toNat
abbrev Gf:=Bool→List Int→Bool
noncomputable def upd (g:Gf) (b:Bool) (v:List Int):Gf:=fun b' v'=>g b' v'||(b'==b&&v'==v)
structure Flags (V:List (List Int)) (g:Gf) (F:List Int):Prop where
 len:F.length=V.length
 at_: ∀ (i:Nat) v,V[i]? =some v→F[i]? =some (fl (g false v) (g true v))
 out: ∀ b v,v∉V→g b v=false
theorem Flags.nil:Flags [] (fun _ _=>false) []:=⟨rfl,fun i v h=>by simp at h,fun _ _ _=>rfl⟩
theorem Flags.add {V:List (List Int)} {g:Gf} {F:List Int} (h:Flags V g F) {v:List Int} (hv:v∉V):Flags (V++[v]) g (F++[0]):=by
 refine ⟨by simp [h.len],fun i u hu=> ?_,fun b u hu=>h.out b u (fun hm=>hu (List.mem_append_left _ hm))⟩
 rw [List.getElem?_append] at hu ⊢
 rw [h.len]
 split at hu
 ·rename_i hi;rw [if_pos hi];exact h.at_ i u hu
 ·rename_i hi
  rw [if_neg hi]
  have h0:i-V.length=0:=by
   by_cases e:i-V.length=0
   ·exact e
   ·rw [List.getElem?_eq_none (by simp;omega)] at hu;cases hu
  rw [h0] at hu ⊢
  simp at hu;subst hu
  rw [h.out false v hv,h.out true v hv];rfl
theorem Flags.set {V:List (List Int)} {g:Gf} {F:List Int} (h:Flags V g F) (nd:V.Nodup) {v:List Int} {i:Nat} (hi:V[i]? =some v) (b:Bool):
  Flags V (upd g b v) (F.set i (fl (g false v|| !b) (g true v||b))):=by
 have hil:i<V.length:=by
  rcases Nat.lt_or_ge i V.length with h | h
  ·exact h
  ·rw [List.getElem?_eq_none h] at hi;cases hi
 refine ⟨by simp [h.len],fun j u hu=> ?_,fun b' u hu=> ?_⟩
 ·rw [dq (by rw [h.len];exact hil)]
  by_cases e:i=j
  ·subst e
   rw [hi] at hu;cases hu
   rw [if_pos rfl]
   unfold upd
   cases b <;> simp
  ·rw [if_neg e,h.at_ j u hu]
   have hne:u≠v:=by
    rintro rfl
    have hjl:j<V.length:=by
     rcases Nat.lt_or_ge j V.length with h | h
     ·exact h
     ·rw [List.getElem?_eq_none h] at hu;cases hu
    rw [List.getElem?_eq_getElem hil] at hi
    rw [List.getElem?_eq_getElem hjl] at hu
    exact e (JA nd _ _ ((Option.some.inj hi).trans (Option.some.inj hu).symm))
   unfold upd
   rw [beq_eq_false_iff_ne.2 hne];simp
 ·unfold upd
  rw [h.out b' u hu,beq_eq_false_iff_ne.2 (fun e=>hu (e▸List.mem_of_getElem? hi):u≠v)];simp
theorem Hi (a b:Bool):orI .u8 (fl a b) 1=fl (a|| !false) (b||false)∧orI .u8 (fl a b) 2=fl (a|| !true) (b||true)∧orI .u8 (fl a b) (fT .u8 1 0)=fl (a|| !false) (b||false)∧orI .u8 (fl a b) (fT .u8 1 1)=fl (a|| !true) (b||true):=by
 cases a <;> cases b <;> decide
theorem Iq (a b:Bool):(gC .u8 (fl a b) 1 != 0)=a∧(gC .u8 (fl a b) 2 != 0)=b∧(gC .u8 (ar .u8 (fl a b) 0) 1==1)=a∧(gC .u8 (ar .u8 (fl a b) 1) 1==1)=b∧(gC .u8 (fl a b) (fT .u8 1 0) != 0)=a∧(gC .u8 (fl a b) (fT .u8 1 1) != 0)=b:=by
 cases a <;> cases b <;> decide
theorem lW {l:List Int} (h:l.length<1000000000):br l=some l:=by
 unfold br
 rw [aG (bg (by omega) (by omega))]
/-! what comes of a set of vectors with flags -/
noncomputable def oh (cap:Int) (V:List (List Int)) (v:List Int):List (List Int)×Bool×Int:=if v∈V then (V,false,0) else if cap≤V.length then (V,false,7) else (V++[v],true,0)
noncomputable def cq (V:List (List Int)) (v:List Int) (flag:Int):Int:=if flag<0∨1<flag then 1 else if v∈V then 0 else 10
noncomputable def DT (V:List (List Int)) (g:Gf) (v:List Int) (flag:Int):Gf:=if cq V v flag=0 then upd g (flag==1) v else g
noncomputable def DJ (V:List (List Int)) (g:Gf) (v:List Int) (flag:Int):Bool:=if cq V v flag=0 then g (flag==1) v else false
theorem jP {α:Type} {l:List α} {x:α} (h:x∈l): ∃ i:Nat,i<l.length∧l[i]? =some x:=by
 obtain ⟨i,hi,e⟩:=List.getElem_of_mem h
 exact ⟨i,hi,by rw [List.getElem?_eq_getElem hi,e]⟩
/-! the plain store -/
abbrev Fl:=Tb×List Int
structure OkF (s:List Fd) (t:Fl) (V:List (List Int)) (g:Gf):Prop where
 tab:TI t.1
 keys:t.1.2.1=V.map (enc s)
 ins: ∀ v∈V,In s v
 flags:Flags V g t.2
theorem iG {s:List Fd} (hs:Fds s) {v:List Int} (hv:In s v):Key (enc s v):=
 ⟨Cs s v,by rw [nP hv.len];have:=jo hs;have:=hs.few;unfold cm;omega⟩
theorem nG {s:List Fd} {V:List (List Int)} (hV: ∀ v∈V,In s v) {v:List Int} (hv:In s v):enc s v∈V.map (enc s)↔v∈V:=by
 rw [List.mem_map]
 exact ⟨fun ⟨u,hu,e⟩=>KB (hV u hu) hv e▸hu,fun h=>⟨v,h,rfl⟩⟩
theorem OkF.nd {s:List Fd} {t:Fl} {V:List (List Int)} {g:Gf} (h:OkF s t V g):V.Nodup:=by
 have:=h.tab.nd
 rw [h.keys] at this
 exact (List.pairwise_map.1 this).imp fun {a b} h e=>h (congrArg (enc s) e)
theorem OkF.len {s:List Fd} {t:Fl} {V:List (List Int)} {g:Gf} (h:OkF s t V g):t.1.2.1.length=V.length:=by rw [h.keys];simp
theorem OkF.at_ {s:List Fd} {t:Fl} {V:List (List Int)} {g:Gf} (h:OkF s t V g) {v:List Int} {i:Nat} (hi:V[i]? =some v):t.1.2.1[i]? =some (enc s v):=by rw [h.keys,List.getElem?_map,hi];rfl
theorem CN (most:Int):wP most=if most<0∨1048576<most then some (((0,[],[]),[]),1) else some (((most,[],List.replicate 8 0),[]),0):=by
 unfold wP
 rw [Dh]
 by_cases h:most<0∨1048576<most
 ·rw [if_pos h,if_pos h];rfl
 ·rw [if_neg h,if_neg h];rfl
theorem Nn (s:List Fd) {most:Int} (h0:0≤most) (h1:most≤1048576):OkF s ((most,[],List.replicate 8 0),[]) [] (fun _ _=>false):=
 ⟨C4 h0 h1,rfl,fun v hv=>by simp at hv,Flags.nil⟩
theorem Mc {s:List Fd} (hs:Fds s) {t:Fl} {V:List (List Int)} {g:Gf} (h:OkF s t V g) {v:List Int} (hv:In s v):
  ∃ t',pK t (enc s v)=some (t',(oh t.1.1 V v).2)∧OkF s t' (oh t.1.1 V v).1 g∧t'.1.1=t.1.1:=by
 have hk:=iG hs hv
 have hN:=h.tab.n
 unfold pK oh
 by_cases hm:v∈V
 ·obtain ⟨i,hi,e⟩:=jP hm
  rw [Fa h.tab hk (h.at_ e),ab,if_pos hm]
  exact ⟨t,rfl,h,rfl⟩
 ·have hn:enc s v∉t.1.2.1:=by rw [h.keys,nG h.ins hv];exact hm
  rw [if_neg hm]
  by_cases hc:t.1.1≤(V.length:Int)
  ·rw [if_pos hc,Kg h.tab hk hn (by rw [h.len];exact hc),ab]
   exact ⟨t,rfl,h,rfl⟩
  ·obtain ⟨t',e1,e2,e3,e4⟩:=w7 h.tab hk hn (by rw [h.len];omega)
   rw [if_neg hc,e1,ab]
   have hfl:=h.flags.len
   have hVl:=h.len
   refine ⟨(t',t.2++[0]),?_,⟨e4,by rw [e3,h.keys];simp,fun u hu=> ?_,h.flags.add hm⟩,e2⟩
   ·simp only [Bool.not_true,cond_false]
    rw [aG (wW _),z6,aG (bg (by simp;omega) (by simp;omega))]
   ·rcases List.mem_append.1 hu with hu | hu
    ·exact h.ins u hu
    ·simp at hu;subst hu;exact hv
theorem Ck {s:List Fd} (hs:Fds s) {t:Fl} {V:List (List Int)} {g:Gf} (h:OkF s t V g) {v:List Int} (hv:In s v):
  (∃ i:Nat,i<V.length∧V[i]? =some v∧v∈V∧bS t.1 (enc s v)=some ((i:Int),true))∨(v∉V∧bS t.1 (enc s v)=some (0,false)):=by
 have hk:=iG hs hv
 by_cases hm:v∈V
 ·obtain ⟨i,hi,e⟩:=jP hm
  exact .inl ⟨i,hi,e,hm,(gI h.tab hk).1 i (h.at_ e)⟩
 ·exact .inr ⟨hm,(gI h.tab hk).2 (by rw [h.keys,nG h.ins hv];exact hm)⟩
theorem Nx {s:List Fd} (hs:Fds s) {t:Fl} {V:List (List Int)} {g:Gf} (h:OkF s t V g) {v:List Int} (hv:In s v):pM t (enc s v)=some (decide (v∈V)):=by
 unfold pM
 rcases Ck hs h hv with ⟨i,_,_,hm,e⟩ | ⟨hm,e⟩
 ·rw [e,ab,decide_eq_true hm]
 ·rw [e,ab,decide_eq_false hm]
theorem Oo (flag:Int):su flag=some (if flag=0 then 1 else if flag=1 then 2 else 0):=by
 unfold su
 by_cases h0:flag=0
 ·subst h0;rfl
 ·by_cases h1:flag=1
  ·subst h1;rfl
  ·rw [if_neg h0,if_neg h1,beq_eq_false_iff_ne.2 h0,beq_eq_false_iff_ne.2 h1];rfl
theorem oX (flag:Int):(flag<0∨1<flag)∨flag=0∨flag=1:=by omega
theorem ML {s:List Fd} (hs:Fds s) {t:Fl} {V:List (List Int)} {g:Gf} (h:OkF s t V g) {v:List Int} (hv:In s v) (flag:Int):
  ∃ t',wC t (enc s v) flag=some (t',cq V v flag)∧OkF s t' V (DT V g v flag)∧t'.1.1=t.1.1:=by
 have hN:=h.tab.n
 have hl:=h.len
 have hfl:=h.flags.len
 unfold wC DW DT cq
 rw [Oo,ab]
 rcases oX flag with hb | hb
 ·rw [if_pos hb,if_neg (by omega),if_neg (by omega),if_neg (by omega)]
  exact ⟨t,rfl,h,rfl⟩
 ·rw [if_neg (show ¬ (flag<0∨1<flag) by omega)]
  have hb0:((if flag=0 then 1 else if flag=1 then 2 else 0:Int)==0)=false:=by
   rcases hb with rfl | rfl <;> rfl
  rw [hb0,cond_false]
  rcases Ck hs h hv with ⟨i,hi,e,hm,ef⟩ | ⟨hm,ef⟩
  ·rw [ef,ab,if_pos hm,if_pos rfl]
   have hF:=h.flags.at_ i v e
   simp only [Bool.not_true,cond_false,uU]
   rw [lW (by omega),ab,bL hF,ab,ab,ab,Int.toNat_natCast]
   refine ⟨(t.1,t.2.set i (fl (g false v|| !(flag==1)) (g true v||(flag==1)))),?_,⟨h.tab,h.keys,h.ins,h.flags.set h.nd e _⟩,rfl⟩
   have hh:=Hi (g false v) (g true v)
   rcases hb with rfl | rfl
   ·rw [if_pos rfl,hh.1];rfl
   ·rw [if_neg (show ¬ (1:Int)=0 by decide),if_pos rfl,hh.2.1];rfl
  ·rw [ef,ab,if_neg hm,if_neg (show ¬ (10:Int)=0 by decide)]
   exact ⟨t,rfl,h,rfl⟩
theorem Lx {s:List Fd} (hs:Fds s) {t:Fl} {V:List (List Int)} {g:Gf} (h:OkF s t V g) {v:List Int} (hv:In s v) (flag:Int):
  wx t (enc s v) flag=some (DJ V g v flag,cq V v flag):=by
 unfold wx wB DJ cq
 rw [Oo,ab]
 rcases oX flag with hb | hb
 ·rw [if_pos hb,if_neg (by omega),if_neg (by omega),if_neg (by omega)];rfl
 ·rw [if_neg (show ¬ (flag<0∨1<flag) by omega)]
  have hb0:((if flag=0 then 1 else if flag=1 then 2 else 0:Int)==0)=false:=by
   rcases hb with rfl | rfl <;> rfl
  rw [hb0,cond_false]
  rcases Ck hs h hv with ⟨i,hi,e,hm,ef⟩ | ⟨hm,ef⟩
  ·rw [ef,ab,if_pos hm,if_pos rfl]
   simp only [Bool.not_true,cond_false,uB]
   rw [bL (h.flags.at_ i v e),ab,ab,ab]
   have hh:=Iq (g false v) (g true v)
   rcases hb with rfl | rfl
   ·rw [if_pos rfl,hh.1];rfl
   ·rw [if_neg (show ¬ (1:Int)=0 by decide),if_pos rfl,hh.2.1];rfl
  ·rw [ef,ab,if_neg hm,if_neg (show ¬ (10:Int)=0 by decide)];rfl
end So
end Go.Proofs.YtgcgmclghbebjaaGreat
namespace Go.Proofs.YtgcgmclghbebjaaGreat
namespace So
/-! pairs -/
abbrev U32 (n:Int):Prop:=0≤n∧n<4294967296
noncomputable def qu (a:Int) (k:Nat):Int:=IntKind.u8.wrap (ar .u32 a (k:Int))
noncomputable def mD (a b:Int):List Int:=[qu a 0,qu a 8,qu a 16,qu a 24,qu b 0,qu b 8,qu b 16,qu b 24]
theorem we (a:Int):qu a 0=a%256∧qu a 8=a/256%256∧qu a 16=a/65536%256∧qu a 24=a/16777216%256:=by
 refine ⟨?_,?_,?_,?_⟩
 ·show IntKind.u8.wrap (a/1)=_
  rw [IntKind.wrap_u8];omega
 ·show IntKind.u8.wrap (a/256)=_
  rw [IntKind.wrap_u8]
 ·show IntKind.u8.wrap (a/65536)=_
  rw [IntKind.wrap_u8]
 ·show IntKind.u8.wrap (a/16777216)=_
  rw [IntKind.wrap_u8]
theorem Ic {a b c d:Int} (ha:U32 a) (hb:U32 b) (hc:U32 c) (hd:U32 d) (h:mD a b=mD c d):a=c∧b=d:=by
 obtain ⟨a0,a1,a2,a3⟩:=we a
 obtain ⟨b0,b1,b2,b3⟩:=we b
 obtain ⟨c0,c1,c2,c3⟩:=we c
 obtain ⟨d0,d1,d2,d3⟩:=we d
 simp only [mD,List.cons.injEq,and_true] at h
 omega
theorem sI (a b:Int):Key (mD a b):=by
 refine ⟨fun x hx=> ?_,by simp [mD]⟩
 simp only [mD,List.mem_cons,List.not_mem_nil,or_false] at hx
 obtain ⟨a0,a1,a2,a3⟩:=we a
 obtain ⟨b0,b1,b2,b3⟩:=we b
 rcases hx with rfl | rfl | rfl | rfl | rfl | rfl | rfl | rfl <;> omega
theorem OX (a b:Int):(rE a b).bind lS=some (mD a b):=by
 unfold rE
 obtain ⟨m,hm⟩: ∃ m,au=m+5:=⟨2^64-5,rfl⟩
 rw [hm]
 rfl
theorem I0 (p:Tb) (a b:Int):qU p a b=bS p (mD a b):=by
 have h:=OX a b
 unfold qU
 obtain ⟨q,h1,h2⟩:=eP h
 rw [h1,ab,h2,ab]
 cases bS p (mD a b) <;> rfl
theorem SZ (p:Tb) (a b:Int):oy p a b=bk p (mD a b):=by
 have h:=OX a b
 unfold oy
 obtain ⟨q,h1,h2⟩:=eP h
 rw [h1,ab,h2,ab]
 cases bk p (mD a b) <;> rfl
/-! rows of a tree -/
noncomputable abbrev HJ:(Int→Option Int)→Int→Option Int:=fun k s=>kN k s
theorem z4: ∀ (M n:Nat),n≤M→n<1000000→aq HJ (M+1) (n:Int)=some ((n-1:Nat):Int)
 | M,n,h,hn=>by
  have E:aq HJ (M+1) (n:Int)=kN (aq HJ M) (n:Int):=aE
  rw [E]
  by_cases h2:n<2
  ·generalize aq HJ M=k
   unfold kN
   rw [decide_eq_true (by omega),cond_true];congr 1;omega
  ·obtain ⟨M,rfl⟩: ∃ m,M=m+1:=⟨M-1,by omega⟩
   have e1:=z4 M ((n+1)/2) (by omega) (by omega)
   have e2:=z4 M (n-(n+1)/2) (by omega) (by omega)
   generalize aq HJ (M+1)=k at e1 e2 ⊢
   unfold kN
   rw [decide_eq_false (by omega),cond_false]
   rw [nx (show n<9223372036854775807 by omega)]
   rw [show Int.tdiv ((n+1:Nat):Int) 2=(((n+1)/2:Nat):Int) from rfl,w64 (show _∧(((n+1)/2:Nat):Int)≤_ by omega)]
   rw [e1,ab]
   rw [w64 (show _∧(n:Int)-(((n+1)/2:Nat):Int)≤_ by omega),show (n:Int)-(((n+1)/2:Nat):Int)=((n-(n+1)/2:Nat):Int) by omega]
   rw [e2,ab]
   rw [w64 (show _∧(1:Int)+(((n+1)/2-1:Nat):Int)≤_ by omega),w64 (by omega)]
   congr 1;omega
theorem EH (n:Nat) (hn:n<1000000):nH (n:Int)=some ((n-1:Nat):Int):=by
 unfold nH
 obtain ⟨m,hm⟩: ∃ m,au=(m+1000000)+1:=⟨2^64-1000001,rfl⟩
 rw [hm]
 exact z4 _ n (by omega) hn
/-! what stands for numbers -/
noncomputable def Code (P:List Tb):Nat→Nat→List Int→Int→Prop
 | 0,_,_,_=>False
 | d+1,row,l,c=>(l.length=1∧l[0]? =some c)∨(2≤l.length∧ ∃ a b t,Code P d (row+1) (l.take ((l.length+1)/2)) a∧Code P d (row+1+((l.length+1)/2-1)) (l.drop ((l.length+1)/2)) b∧
   U32 a∧U32 b∧P[row]? =some t∧ ∃ i:Nat,c=(i:Int)∧t.2.1[i]? =some (mD a b))
abbrev Nd (P:List Tb):Prop:= ∀ (r:Nat) (t:Tb),P[r]? =some t→t.2.1.Nodup
theorem Code.fn {P:List Tb} (nd:Nd P): ∀ {d row:Nat} {l:List Int} {c c':Int},Code P d row l c→Code P d row l c'→c=c'
 | 0,_,_,_,_,h,_=>h.elim
 | d+1,row,l,c,c',h,h'=>by
  rcases h with ⟨h1,h2⟩ | ⟨h1,a,b,t,ha,hb,_,_,ht,i,rfl,hi⟩ <;> rcases h' with ⟨h1',h2'⟩ | ⟨h1',a',b',t',ha',hb',_,_,ht',i',rfl,hi'⟩
  ·rw [h2] at h2';exact Option.some.inj h2'
  ·omega
  ·omega
  ·have e1:=Code.fn nd ha ha'
   have e2:=Code.fn nd hb hb'
   subst e1;subst e2
   rw [ht] at ht';cases ht'
   rw [CL (nd row t ht) hi hi']
theorem Code.inj {P:List Tb}: ∀ {d row:Nat} {l l':List Int} {c:Int},l.length=l'.length→Code P d row l c→Code P d row l' c→l=l'
 | 0,_,_,_,_,_,h,_=>h.elim
 | d+1,row,l,l',c,hl,h,h'=>by
  rcases h with ⟨h1,h2⟩ | ⟨h1,a,b,t,ha,hb,ua,ub,ht,i,rfl,hi⟩ <;> rcases h' with ⟨h1',h2'⟩ | ⟨h1',a',b',t',ha',hb',ua',ub',ht',i',e,hi'⟩
  ·refine List.ext_getElem? fun j=> ?_
   by_cases hj:j=0
   ·rw [hj,h2,h2']
   ·rw [List.getElem?_eq_none (by omega),List.getElem?_eq_none (by omega)]
  ·omega
  ·omega
  ·have:i=i':=by omega
   subst this
   rw [ht] at ht';cases ht'
   rw [hi] at hi'
   obtain ⟨e1,e2⟩:=Ic ua ub ua' ub' (Option.some.inj hi')
   subst e1;subst e2
   rw [← hl] at ha' hb'
   have e3:=Code.inj (by simp [hl]) ha ha'
   have e4:=Code.inj (by simp [hl]) hb hb'
   rw [← List.take_append_drop ((l.length+1)/2) l,← List.take_append_drop ((l.length+1)/2) l',e3,e4]
noncomputable def Ext (P P':List Tb):Prop:= ∀ (r:Nat) (t:Tb),P[r]? =some t→ ∃ t',P'[r]? =some t'∧t.2.1 <+: t'.2.1
theorem Ext.refl (P:List Tb):Ext P P:=fun _r t h=>⟨t,h,List.prefix_refl _⟩
theorem Ext.trans {P Q R:List Tb} (h:Ext P Q) (h':Ext Q R):Ext P R:=fun r t ht=>by
 obtain ⟨t1,h1,h2⟩:=h r t ht
 obtain ⟨t2,h3,h4⟩:=h' r t1 h1
 exact ⟨t2,h3,h2.trans h4⟩
theorem IZ {α:Type} {l l':List α} (h:l <+: l') {i:Nat} {x:α} (hi:l[i]? =some x):l'[i]? =some x:=by
 obtain ⟨r,rfl⟩:=h
 rw [List.getElem?_append_left (fe hi)];exact hi
theorem Code.ext {P P':List Tb} (he:Ext P P'): ∀ {d row:Nat} {l:List Int} {c:Int},Code P d row l c→Code P' d row l c
 | 0,_,_,_,h=>h.elim
 | d+1,row,l,c,h=>by
  rcases h with h | ⟨h1,a,b,t,ha,hb,ua,ub,ht,i,e,hi⟩
  ·exact .inl h
  ·obtain ⟨t',h2,h3⟩:=he row t ht
   exact .inr ⟨h1,a,b,t',ha.ext he,hb.ext he,ua,ub,h2,i,e,IZ h3 hi⟩
structure pz (P:List Tb) (cap:Int):Prop where
 ti: ∀ (r:Nat) (t:Tb),P[r]? =some t→TI t
 cap: ∀ (r:Nat) (t:Tb),P[r]? =some t→t.1=cap
theorem pz.nd {P:List Tb} {cap:Int} (h:pz P cap):Nd P:=fun r t ht=>(h.ti r t ht).nd
theorem O0 {n:Nat} (h:2≤n) (hn:n<1000):IntKind.i64.wrap (Int.tdiv (IntKind.i64.wrap ((n:Int)+1)) 2)=(((n+1)/2:Nat):Int):=by
 rw [nx (by omega),show Int.tdiv ((n+1:Nat):Int) 2=(((n+1)/2:Nat):Int) from rfl,w64 (by omega)]
theorem vN {i j n:Nat} (h:i≤j) (h':j≤n):fX (i:Int) (j:Int) n=true:=by
 unfold fX;simp;omega
theorem OW {j n:Nat} (h:j≤n):fX 0 (j:Int) n=true:=by
 unfold fX;simp;omega
theorem He {α:Type} (l:List α) (k:Nat):bd l 0 (k:Int)=l.take k:=by unfold bd;simp
theorem HV {α:Type} (l:List α) (k:Nat):bd l (k:Int) (l.length:Int)=l.drop k:=by
 unfold bd;simp only [Int.toNat_natCast];rw [List.take_of_length_le (by simp)]
noncomputable abbrev CT:((Int×List Int×List Tb)→Option (Except Int Int))→(Int×List Int×List Tb)→Option (Except Int Int):=fun k s=>gV k s.1 s.2.1 s.2.2
theorem Fi {P:List Tb} {cap:Int} (hP:pz P cap): ∀ (d M row:Nat) (l:List Int),1≤l.length→l.length≤d→l.length<1000→row+l.length≤1000000→d≤M→row+(l.length-1)≤P.length→(∀ x∈l,U32 x)→
  (∃ c,U32 c∧Code P d row l c∧aq CT M ((row:Int),l,P)=some (.ok c))∨
  ((∀ c,¬ Code P d row l c)∧ ∃ e,aq CT M ((row:Int),l,P)=some (.error e))
 | 0,_,_,_,h1,h2,_,_,_,_,_=>by omega
 | d+1,M,row,l,h1,h2,hn,hr,hM,hlen,hu=>by
  obtain ⟨M,rfl⟩: ∃ m,M=m+1:=⟨M-1,by omega⟩
  have E:aq CT (M+1) ((row:Int),l,P)=gV (aq CT M) (row:Int) l P:=aE
  rw [E]
  have IH:=fun row l=>Fi hP d M row l
  generalize aq CT M=k at IH ⊢
  clear E
  unfold gV
  by_cases h:l.length=1
  ·have h0:l[0]? =some (l[0]'(by omega)):=List.getElem?_eq_getElem _
   refine .inl ⟨l[0]'(by omega),hu _ (List.getElem_mem _),.inl ⟨h,h0⟩,?_⟩
   rw [show ((l.length:Int)==1)=true by simp;omega,cond_true,tC h0,ab]
  ·rw [show ((l.length:Int)==1)=false by simp;omega,cond_false,O0 (by omega) hn,aG (OW (by omega)),He,nx (by omega)]
   have hh:(l.take ((l.length+1)/2)).length=(l.length+1)/2:=by simp;omega
   have hh2:(l.drop ((l.length+1)/2)).length=l.length-(l.length+1)/2:=by simp
   rcases IH (row+1) (l.take ((l.length+1)/2)) (by omega) (by omega) (by omega) (by omega) (by omega) (by omega) (fun x hx=>hu x (List.mem_of_mem_take hx)) with ⟨a,ua,ha,ea⟩ | ⟨ha,e,ea⟩
   ·rw [ea]
    simp only [Al,ab]
    rw [aG (vN (by omega) (Nat.le_refl _)),HV,EH _ (by omega),ab,w64 (by omega)]
    rw [show ((row+1:Nat):Int)+(((l.length+1)/2-1:Nat):Int)=((row+1+((l.length+1)/2-1):Nat):Int) by omega]
    rcases IH (row+1+((l.length+1)/2-1)) (l.drop ((l.length+1)/2)) (by omega) (by omega) (by omega) (by omega) (by omega) (by omega) (fun x hx=>hu x (List.mem_of_mem_drop hx)) with ⟨b,ub,hb,eb⟩ | ⟨hb,e,eb⟩
    ·rw [eb]
     simp only [ab]
     have hrow:row<P.length:=by omega
     have hPr:P[row]? =some P[row]:=List.getElem?_eq_getElem hrow
     have hT:=hP.ti row _ hPr
     unfold jV
     rw [bL hPr,ab,I0]
     by_cases hm:mD a b∈P[row].2.1
     ·obtain ⟨i,hi,ei⟩:=jP hm
      have:=hT.n
      refine .inl ⟨(i:Int),⟨by omega,by omega⟩,.inr ⟨by omega,a,b,P[row],ha,hb,ua,ub,hPr,i,rfl,ei⟩,?_⟩
      rw [(gI hT (sI a b)).1 i ei,ab,Bool.not_true,cond_false,ab,Nq (by omega)]
     ·refine .inr ⟨fun c hc=> ?_,⟨(row:Int),?_⟩⟩
      ·rcases hc with ⟨h',_⟩ | ⟨_,a',b',t',ha',hb',_,_,ht',i',_,hi'⟩
       ·omega
       ·rw [hPr] at ht';cases ht'
        rw [ha.fn hP.nd ha',hb.fn hP.nd hb'] at hm
        exact hm (List.mem_of_getElem? hi')
      ·rw [(gI hT (sI a b)).2 hm,ab];rfl
    ·rw [eb]
     refine .inr ⟨fun c hc=> ?_,⟨e,rfl⟩⟩
     rcases hc with ⟨h',_⟩ | ⟨_,_,b',_,_,hb',_⟩
     ·omega
     ·exact hb b' hb'
   ·rw [ea]
    refine .inr ⟨fun c hc=> ?_,⟨e,rfl⟩⟩
    rcases hc with ⟨h',_⟩ | ⟨_,a',_,_,ha',_⟩
    ·omega
    ·exact ha a' ha'
end So
end Go.Proofs.YtgcgmclghbebjaaGreat
namespace Go.Proofs.YtgcgmclghbebjaaGreat
namespace So
theorem K0 {t:Tb} (h:TI t) {k:List Int} (hk:Key k) (hr:k∈t.2.1∨(t.2.1.length:Int)<t.1):
  ∃ t' f e,∃ i:Nat,bk t k=some (t',(i:Int),f,e)∧TI t'∧t'.1=t.1∧t.2.1 <+: t'.2.1∧t'.2.1[i]? =some k∧t'.2.1.length≤t.2.1.length+1:=by
 by_cases hm:k∈t.2.1
 ·obtain ⟨i,hi,e⟩:=jP hm
  exact ⟨t,_,_,i,Fa h hk e,h,rfl,List.prefix_refl _,e,by omega⟩
 ·obtain ⟨t',e1,e2,e3,e4⟩:=w7 h hk hm (hr.resolve_left hm)
  exact ⟨t',_,_,_,e1,e4,e2,⟨[k],e3.symm⟩,by rw [e3];simp,by rw [e3];simp⟩
noncomputable abbrev GN:((Int×List Int×List Tb)→Option (Int×List Tb))→(Int×List Int×List Tb)→Option (Int×List Tb):=fun k s=>fq k s.1 s.2.1 s.2.2
structure Grown (P P':List Tb) (cap:Int) (lo hi:Nat):Prop where
 tabs:pz P' cap
 ext:Ext P P'
 len:P'.length=P.length
 out: ∀ r,(r<lo∨hi≤r)→P'[r]? =P[r]?
 one: ∀ (r:Nat) (t t':Tb),P[r]? =some t→P'[r]? =some t'→t'.2.1.length≤t.2.1.length+1
theorem Kx {P:List Tb} {cap:Int} (hP:pz P cap) {row:Nat} {t:Tb} (ht:P[row]? =some t) {a b:Int} (hr:(t.2.1.length:Int)<cap):
  ∃ c P',∃ i:Nat,ic (row:Int) a b P=some (c,P')∧c=(i:Int)∧U32 c∧Grown P P' cap row (row+1)∧ ∃ t',P'[row]? =some t'∧t'.2.1[i]? =some (mD a b):=by
 have hT:=hP.ti row t ht
 have hrow:=fe ht
 obtain ⟨t',f,e,i,h1,h2,h3,h4,h5,h6⟩:=K0 hT (sI a b) (.inr (by rw [hP.cap row t ht];exact hr))
 have hi:=fe h5
 have hn:=h2.n
 refine ⟨(i:Int),P.set row t',i,?_,rfl,⟨by omega,by omega⟩,⟨⟨fun r u hu=> ?_,fun r u hu=> ?_⟩,fun r u hu=> ?_,by simp,fun r hr=> ?_,fun r u u' hu hu'=> ?_⟩,t',by rw [dq hrow,if_pos rfl],h5⟩
 ·unfold ic
  rw [bL ht,ab,SZ,h1,ab,ab,Int.toNat_natCast]
  show some (IntKind.u32.wrap (i:Int),_)=_
  rw [Nq (show _∧(i:Int)≤_ by omega)]
 ·rw [dq hrow] at hu
  split at hu
  ·cases hu;exact h2
  ·exact hP.ti r u hu
 ·rw [dq hrow] at hu
  split at hu
  ·cases hu;rw [h3];exact hP.cap row t ht
  ·exact hP.cap r u hu
 ·by_cases e:row=r
  ·subst e
   rw [ht] at hu;cases hu
   exact ⟨t',by rw [dq hrow,if_pos rfl],h4⟩
  ·exact ⟨u,by rw [dq hrow,if_neg e];exact hu,List.prefix_refl _⟩
 ·rw [dq hrow,if_neg (by omega)]
 ·rw [dq hrow] at hu'
  split at hu'
  ·rename_i e
   subst e
   cases hu'
   rw [ht] at hu;cases hu;exact h6
  ·rw [hu] at hu';cases hu';omega
theorem IA {cap:Int}: ∀ (d M row:Nat) (l:List Int) (P:List Tb),pz P cap→1≤l.length→l.length≤d→l.length<1000→row+l.length≤1000000→d≤M→row+(l.length-1)≤P.length→(∀ x∈l,U32 x)→
  (∀ (r:Nat) (t:Tb),row≤r→r<row+(l.length-1)→P[r]? =some t→(t.2.1.length:Int)<cap)→
  ∃ c P',aq GN M ((row:Int),l,P)=some (c,P')∧U32 c∧Code P' d row l c∧Grown P P' cap row (row+(l.length-1))
 | 0,_,_,_,_,_,h1,h2,_,_,_,_,_,_=>by omega
 | d+1,M,row,l,P,hP,h1,h2,hn,hr,hM,hlen,hu,hroom=>by
  obtain ⟨M,rfl⟩: ∃ m,M=m+1:=⟨M-1,by omega⟩
  have E:aq GN (M+1) ((row:Int),l,P)=fq (aq GN M) (row:Int) l P:=aE
  rw [E]
  have IH:=fun row l P=>IA (cap:=cap) d M row l P
  generalize aq GN M=k at IH ⊢
  clear E
  unfold fq
  by_cases h:l.length=1
  ·have h0:l[0]? =some (l[0]'(by omega)):=List.getElem?_eq_getElem _
   refine ⟨l[0]'(by omega),P,?_,hu _ (List.getElem_mem _),.inl ⟨h,h0⟩,⟨hP,Ext.refl P,rfl,fun _ _=>rfl,fun r t t' e e'=>by rw [e] at e';cases e';omega⟩⟩
   rw [show ((l.length:Int)==1)=true by simp;omega,cond_true,tC h0,ab]
  ·rw [show ((l.length:Int)==1)=false by simp;omega,cond_false,O0 (by omega) hn,aG (OW (by omega)),He,nx (by omega)]
   have hh:(l.take ((l.length+1)/2)).length=(l.length+1)/2:=by simp;omega
   have hh2:(l.drop ((l.length+1)/2)).length=l.length-(l.length+1)/2:=by simp
   obtain ⟨a,P1,e1,ua,ca,g1⟩:=IH (row+1) (l.take ((l.length+1)/2)) P hP (by omega) (by omega) (by omega) (by omega) (by omega) (by omega) (fun x hx=>hu x (List.mem_of_mem_take hx)) (fun r t hr1 hr2=>hroom r t (by omega) (by omega))
   rw [e1,ab,aG (vN (by omega) (Nat.le_refl _)),HV,EH _ (by omega),ab,w64 (by omega)]
   rw [show ((row+1:Nat):Int)+(((l.length+1)/2-1:Nat):Int)=((row+1+((l.length+1)/2-1):Nat):Int) by omega]
   have hl1:=g1.len
   obtain ⟨b,P2,e2,ub,cb,g2⟩:=IH (row+1+((l.length+1)/2-1)) (l.drop ((l.length+1)/2)) P1 g1.tabs (by omega) (by omega) (by omega) (by omega) (by omega) (by omega) (fun x hx=>hu x (List.mem_of_mem_drop hx))
    (fun r t hr1 hr2 ht=>hroom r t (by omega) (by omega) (by rw [← g1.out r (by omega)];exact ht))
   rw [e2,ab]
   have hl2:=g2.len
   have hPr:P[row]? =some (P[row]'(by omega)):=List.getElem?_eq_getElem _
   have hP2:P2[row]? =some (P[row]'(by omega)):=by rw [g2.out row (by omega),g1.out row (by omega)];exact hPr
   obtain ⟨c,P3,i,e3,ec,uc,g3,t',ht',hk⟩:=Kx g2.tabs hP2 (a:=a) (b:=b) (hroom row _ (Nat.le_refl _) (by omega) hPr)
   rw [e3,ab]
   refine ⟨c,P3,rfl,uc,.inr ⟨by omega,a,b,t',(ca.ext g2.ext).ext g3.ext,cb.ext g3.ext,ua,ub,ht',i,ec,hk⟩,⟨g3.tabs,(g1.ext.trans g2.ext).trans g3.ext,by rw [g3.len,hl2,hl1],fun r hr=> ?_,fun r t t3 ht ht3=> ?_⟩⟩
   ·rw [g3.out r (by omega),g2.out r (by omega),g1.out r (by omega)]
   ·by_cases er:r=row
    ·subst er
     rw [hPr] at ht;cases ht
     exact g3.one r _ _ hP2 ht3
    ·rw [g3.out r (by omega)] at ht3
     by_cases e':row+1+((l.length+1)/2-1)≤r
     ·rw [← g1.out r (by omega)] at ht
      exact g2.one r t t3 ht ht3
     ·rw [g2.out r (by omega)] at ht3
      exact g1.one r t t3 ht ht3
/-! all of a vector -/
noncomputable def km (P:List Tb) (l:List Int) (c:Int):Prop:=(l.length=1∧ ∃ x t,∃ i:Nat,l[0]? =some x∧P[0]? =some t∧c=(i:Int)∧t.2.1[i]? =some (mD x 0))∨(2≤l.length∧Code P l.length 0 l c)
theorem km.top {P:List Tb} {l:List Int} {c:Int} (h:km P l c): ∃ t,∃ i:Nat,P[0]? =some t∧c=(i:Int)∧i<t.2.1.length:=by
 rcases h with ⟨_,x,t,i,_,ht,e,hi⟩ | ⟨h2,h⟩
 ·exact ⟨t,i,ht,e,fe hi⟩
 ·obtain ⟨d,hd⟩: ∃ d,l.length=d+1:=⟨l.length-1,by omega⟩
  rw [hd] at h
  rcases h with ⟨h',_⟩ | ⟨_,a,b,t,_,_,_,_,ht,i,e,hi⟩
  ·omega
  ·exact ⟨t,i,ht,e,fe hi⟩
theorem km.inj {P:List Tb} {l l':List Int} {c:Int} (hl:l.length=l'.length) (hu: ∀ x∈l,U32 x) (hu': ∀ x∈l',U32 x) (h:km P l c) (h':km P l' c):l=l':=by
 rcases h with ⟨h1,x,t,i,h2,h3,h4,h5⟩ | ⟨h1,h2⟩ <;> rcases h' with ⟨h1',x',t',i',h2',h3',h4',h5'⟩ | ⟨h1',h2'⟩
 ·have:i=i':=by omega
  subst this
  rw [h3] at h3';cases h3'
  rw [h5] at h5'
  have e:=(Ic (hu x (List.mem_of_getElem? h2)) (by decide) (hu' x' (List.mem_of_getElem? h2')) (by decide) (Option.some.inj h5')).1
  subst e
  refine List.ext_getElem? fun j=> ?_
  by_cases hj:j=0
  ·rw [hj,h2,h2']
  ·rw [List.getElem?_eq_none (by omega),List.getElem?_eq_none (by omega)]
 ·omega
 ·omega
 ·rw [← hl] at h2';exact h2.inj hl h2'
theorem km.ext {P P':List Tb} (he:Ext P P') {l:List Int} {c:Int} (h:km P l c):km P' l c:=by
 rcases h with ⟨h1,x,t,i,h2,h3,h4,h5⟩ | ⟨h1,h2⟩
 ·obtain ⟨t',e1,e2⟩:=he 0 t h3
  exact .inl ⟨h1,x,t',i,h2,e1,h4,IZ e2 h5⟩
 ·exact .inr ⟨h1,h2.ext he⟩
theorem km.fn {P:List Tb} (nd:Nd P) {l:List Int} {c c':Int} (h:km P l c) (h':km P l c'):c=c':=by
 rcases h with ⟨h1,x,t,i,h2,h3,h4,h5⟩ | ⟨h1,h2⟩ <;> rcases h' with ⟨h1',x',t',i',h2',h3',h4',h5'⟩ | ⟨h1',h2'⟩
 ·rw [h3] at h3';cases h3'
  rw [h2] at h2';cases h2'
  rw [h4,h4',CL (nd 0 t h3) h5 h5']
 ·omega
 ·omega
 ·exact h2.fn nd h2'
theorem M3 {P:List Tb} {cap:Int} (hP:pz P cap) {l:List Int} (h1:1≤l.length) (hn:l.length<1000) (hlen:max 1 (l.length-1)≤P.length) (hu: ∀ x∈l,U32 x):
  (∃ c,U32 c∧km P l c∧iM l P=some (.ok c))∨((∀ c,¬ km P l c)∧ ∃ e,iM l P=some (.error e)):=by
 unfold iM
 by_cases h:l.length=1
 ·have h0:l[0]? =some (l[0]'(by omega)):=List.getElem?_eq_getElem _
  have hP0:P[0]? =some (P[0]'(by omega)):=List.getElem?_eq_getElem _
  have hT:=hP.ti 0 _ hP0
  rw [show ((l.length:Int)==1)=true by simp;omega,cond_true,tC h0,ab]
  unfold jV
  rw [tC hP0,ab,I0]
  by_cases hm:mD (l[0]'(by omega)) 0∈(P[0]'(by omega)).2.1
  ·obtain ⟨i,hi,ei⟩:=jP hm
   have:=hT.n
   refine .inl ⟨(i:Int),⟨by omega,by omega⟩,.inl ⟨h,_,_,i,h0,hP0,rfl,ei⟩,?_⟩
   rw [(gI hT (sI _ _)).1 i ei,ab]
   simp only [Bool.not_true,cond_false]
   rw [Nq (by omega)];rfl
  ·refine .inr ⟨fun c hc=> ?_,⟨((0:Nat):Int),?_⟩⟩
   ·rcases hc with ⟨_,x,t,i,hx,ht,_,hi⟩ | ⟨h',_⟩
    ·rw [h0] at hx;cases hx
     rw [hP0] at ht;cases ht
     exact hm (List.mem_of_getElem? hi)
    ·omega
   ·rw [(gI hT (sI _ _)).2 hm,ab];rfl
 ·rw [show ((l.length:Int)==1)=false by simp;omega,cond_false]
  rcases Fi hP l.length au 0 l h1 (Nat.le_refl _) hn (by omega) (by show l.length≤2^64;omega) (by omega) hu with ⟨c,uc,hc,e⟩ | ⟨hc,e,ee⟩
  ·refine .inl ⟨c,uc,.inr ⟨by omega,hc⟩,?_⟩
   rw [show ((0:Nat):Int)=0 from rfl] at e
   have e0:lT 0 l P=some (.ok c):=e
   rw [e0];rfl
  ·refine .inr ⟨fun c h'=> ?_,e,?_⟩
   ·rcases h' with ⟨h',_⟩ | ⟨_,h'⟩
    ·omega
    ·exact hc c h'
   ·rw [show ((0:Nat):Int)=0 from rfl] at ee
    have e0:lT 0 l P=some (.error e):=ee
    rw [e0];rfl
theorem Po {P:List Tb} {cap:Int} (hP:pz P cap) {l:List Int} (h1:1≤l.length) (hn:l.length<1000) (hlen:max 1 (l.length-1)≤P.length) (hu: ∀ x∈l,U32 x)
  (hroom: ∀ (r:Nat) (t:Tb),P[r]? =some t→(t.2.1.length:Int)<cap):
  ∃ c P',iL l P=some (c,P')∧km P' l c∧ ∃ hi,Grown P P' cap 0 hi:=by
 unfold iL
 by_cases h:l.length=1
 ·have h0:l[0]? =some (l[0]'(by omega)):=List.getElem?_eq_getElem _
  have hP0:P[0]? =some (P[0]'(by omega)):=List.getElem?_eq_getElem _
  rw [show ((l.length:Int)==1)=true by simp;omega,cond_true,tC h0,ab]
  obtain ⟨c,P',i,e,ec,uc,g,t',ht',hk⟩:=Kx hP hP0 (a:=l[0]'(by omega)) (b:=0) (hroom 0 _ hP0)
  rw [show ((0:Nat):Int)=0 from rfl] at e
  rw [e,ab]
  exact ⟨c,P',rfl,.inl ⟨h,_,t',i,h0,ht',ec,hk⟩,_,g⟩
 ·rw [show ((l.length:Int)==1)=false by simp;omega,cond_false]
  obtain ⟨c,P',e,uc,hc,g⟩:=IA (cap:=cap) l.length au 0 l P hP h1 (Nat.le_refl _) hn (by omega) (by show l.length≤2^64;omega) (by omega) hu (fun r t _ _=>hroom r t)
  rw [show ((0:Nat):Int)=0 from rfl] at e
  have e0:mz 0 l P=some (c,P'):=e
  rw [e0,ab]
  exact ⟨c,P',rfl,.inr ⟨by omega,hc⟩,_,g⟩
/-! how far numbers are above their ranges' beginnings -/
noncomputable def pr (s:List Fd) (v:List Int):List Int:=List.zipWith (fun f n=>n-f.1) s v
theorem nk {s:List Fd} {v:List Int} (h:v.length=s.length):(pr s v).length=s.length:=by simp [pr,h]
theorem Ae {s:List Fd} {v:List Int} (h:v.length=s.length) {i:Nat} (hi:i<s.length):(pr s v)[i]? =some ((v[i]'(by omega))-s[i].1):=by
 unfold pr
 rw [List.getElem?_zipWith,List.getElem?_eq_getElem hi,List.getElem?_eq_getElem (show i<v.length by omega)]
theorem vq {s:List Fd} (hs:Fds s) {v:List Int} (hv:In s v): ∀ x∈pr s v,U32 x:=by
 intro x hx
 obtain ⟨i,hi,e⟩:=jP hx
 rw [nk hv.len] at hi
 rw [Ae hv.len hi] at e
 have h1:=hv.each i hi
 have h2:=hs.each s[i] (List.getElem_mem hi)
 rw [← Option.some.inj e]
 constructor <;> omega
theorem Hf {s:List Fd} {v v':List Int} (hv:In s v) (hv':In s v') (h:pr s v=pr s v'):v=v':=by
 refine List.ext_getElem (by rw [hv.len,hv'.len]) fun i h1 h2=> ?_
 have hi:i<s.length:=by rw [← hv.len];exact h1
 have e:=congrArg (fun l=>l[i]?) h
 simp only [Ae hv.len hi,Ae hv'.len hi,Option.some.injEq] at e
 omega
theorem Ku {s:List Fd} (hs:Fds s) {v:List Int} (hv:In s v):lI s v=some (pr s v):=by
 have hf:=hs.few
 have hl:=hv.len
 unfold lI
 refine fw (fun i=>((pr s v).take i,(i:Int))) s.length (by simp) (by omega) (fun i hi k=> ?_) (fun k=> ?_)
 ·have hi':i<v.length:=by omega
  have h1:=hv.each i hi
  have h2:=hs.each s[i] (List.getElem_mem hi)
  have hlen:((pr s v).take i).length=i:=by rw [List.length_take,nk hl];omega
  simp only [nV,hl,cj hi,cond_true,bA hi,bA hi',ab,nx (show i<9223372036854775807 by omega)]
  rw [w64 (by omega),Nq (by omega),aG (bg (by rw [hlen];simp;omega) (by rw [hlen];simp;omega))]
  rw [List.take_add_one,Ae hl hi];rfl
 ·simp only [nV,hl,cT (Nat.lt_irrefl _),cond_false]
  rw [List.take_of_length_le (by rw [nk hl];omega)]
/-! the tree store -/
abbrev Tr:=List Tb×List Int
structure OkT (s:List Fd) (cap:Int) (t:Tr) (V:List (List Int)) (g:Gf):Prop where
 tabs:pz t.1 cap
 len:t.1.length=max 1 (s.length-1)
 few: ∀ (r:Nat) (x:Tb),t.1[r]? =some x→x.2.1.length≤V.length
 top: ∀ (x:Tb),t.1[0]? =some x→x.2.1.length=V.length
 ins: ∀ v∈V,In s v
 nd:V.Nodup
 code: ∀ (i:Nat) v,V[i]? =some v→km t.1 (pr s v) (i:Int)
 flags:Flags V g t.2
theorem OkT.Sc {s:List Fd} {cap:Int} {t:Tr} {V:List (List Int)} {g:Gf} (h:OkT s cap t V g): ∃ x,t.1[0]? =some x∧x.2.1.length=V.length∧TI x∧x.1=cap:=by
 have h0:t.1[0]? =some (t.1[0]'(by rw [h.len];omega)):=List.getElem?_eq_getElem _
 exact ⟨_,h0,h.top _ h0,h.tabs.ti 0 _ h0,h.tabs.cap 0 _ h0⟩
theorem C1 {s:List Fd} (hs:Fds s) (most:Int):wL s most=if most<0∨1048576<most then some (([],[]),1) else some ((List.replicate (max 1 (s.length-1)) (most,[],List.replicate 8 0),[]),0):=by
 have hf:=hs.few
 unfold wL zK
 rw [Dh]
 by_cases h:most<0∨1048576<most
 ·rw [if_pos h,if_pos h];rfl
 ·rw [if_neg h,if_neg h,ab,ab]
  simp only [show ((0:Int) != 0)=false from rfl,cond_false]
  rw [EH _ (by omega),ab]
  refine fw (fun i=>(List.replicate i (most,[],List.replicate 8 0),(i:Int))) (max 1 (s.length-1)) (by simp) (by omega) (fun i hi k=> ?_) (fun k=> ?_)
  ·simp only [uQ]
   rw [decide_eq_true (by omega),cond_true,aG (bg (by simp;omega) (by simp;omega)),nx (by omega)]
   rw [← List.replicate_succ' (n:=i)]
  ·simp only [uQ]
   rw [decide_eq_false (by omega),cond_false]
theorem Ng (s:List Fd) {most:Int} (h0:0≤most) (h1:most≤1048576):OkT s most (List.replicate (max 1 (s.length-1)) (most,[],List.replicate 8 0),[]) [] (fun _ _=>false):=by
 have hr: ∀ (r:Nat) (x:Tb),(List.replicate (max 1 (s.length-1)) ((most,[],List.replicate 8 0):Tb))[r]? =some x→x=(most,[],List.replicate 8 0):=by
  intro r x hx
  rw [List.getElem?_replicate] at hx
  split at hx
  ·exact (Option.some.inj hx).symm
  ·cases hx
 exact ⟨⟨fun r x hx=>by rw [hr r x hx];exact C4 h0 h1,fun r x hx=>by rw [hr r x hx]⟩,by simp,fun r x hx=>by have:=hr r x hx;subst this;simp,fun x hx=>by have:=hr 0 x hx;subst this;rfl,fun v hv=>by simp at hv,List.nodup_nil,fun i v h=>by simp at h,Flags.nil⟩
theorem BC {s:List Fd} (hs:ey s) {cap:Int} {t:Tr} {V:List (List Int)} {g:Gf} (h:OkT s cap t V g) {v:List Int} (hv:In s v):
  (∃ i:Nat,i<V.length∧V[i]? =some v∧v∈V∧lE t s v=some ((i:Int),true))∨(v∉V∧lE t s v=some (0,false)):=by
 have hf:=hs.few
 have hp:=hs.pos
 have hnl:=nk hv.len
 unfold lE
 rw [Ku hs.fds hv,ab]
 rcases M3 h.tabs (l:=pr s v) (by omega) (by omega) (by rw [h.len,hnl];omega) (vq hs.fds hv) with ⟨c,uc,hc,e⟩ | ⟨hc,e,ee⟩
 ·obtain ⟨x,i,hx,rfl,hi⟩:=hc.top
  rw [h.top x hx] at hi
  have hVi:V[i]? =some V[i]:=List.getElem?_eq_getElem hi
  have hin:=h.ins _ (List.getElem_mem hi)
  have:=(h.code i _ hVi).inj (by rw [nk hin.len,hnl]) (vq hs.fds hin) (vq hs.fds hv) hc
  have:=Hf hin hv this
  have hu:=uc.2
  rw [this] at hVi
  refine .inl ⟨i,hi,hVi,List.mem_of_getElem? hVi,?_⟩
  rw [e]
  simp only [GH,ab]
  rw [w64 (by omega)]
 ·refine .inr ⟨fun hm=> ?_,by rw [ee];rfl⟩
  obtain ⟨i,hi,e'⟩:=jP hm
  exact hc _ (h.code i v e')
theorem JI {l:List Tb} (h:l.length<1000000):cF l=some l:=by
 unfold cF
 rw [aG (bg (by omega) (by omega))]
theorem LV {s:List Fd} (hs:ey s) {cap:Int} {t:Tr} {V:List (List Int)} {g:Gf} (h:OkT s cap t V g) {v:List Int} (hv:In s v):
  ∃ t',pU t s v=some (t',(oh cap V v).2)∧OkT s cap t' (oh cap V v).1 g:=by
 have hf:=hs.few
 have hp:=hs.pos
 have hnl:=nk hv.len
 obtain ⟨x0,ht0,hl0,hT0,hc0⟩:=h.Sc
 unfold pU oh
 rw [jz s v (by have:=hv.len;omega),ed.2 hv,ab,show ((0:Int) != 0)=false from rfl,cond_false]
 rcases BC hs h hv with ⟨i,hi,e,hm,ef⟩ | ⟨hm,ef⟩
 ·rw [ef,ab,if_pos hm];exact ⟨t,rfl,h⟩
 ·rw [ef,ab,if_neg hm]
  simp only [cond_false]
  rw [tC ht0,ab]
  have hM:lq t=some (V.length:Int):=by
   unfold lq
   rw [show ((t.1.length:Int)==0)=false from beq_eq_false_iff_ne.2 (by rw [h.len];omega),cond_false,tC ht0,ab]
   unfold q9 iQ
   rw [ab,ab,hl0]
  rw [hM,ab,hc0]
  by_cases hc:cap≤(V.length:Int)
  ·rw [decide_eq_true hc,if_pos hc];exact ⟨t,rfl,h⟩
  ·rw [decide_eq_false hc,if_neg hc,cond_false,JI (by rw [h.len];omega),ab,Ku hs.fds hv,ab]
   obtain ⟨c,P',e1,hcw,hi',gr⟩:=Po h.tabs (l:=pr s v) (by omega) (by omega) (by rw [h.len,hnl];omega) (vq hs.fds hv) (fun r x hx=>by have:=h.few r x hx;omega)
   have hfl:=h.flags.len
   have hVl:V.length≤1048576:=by have:=hT0.n;omega
   rw [e1,ab,aG (wW _),z6,aG (bg (by simp;omega) (by simp;omega))]
   -- the new place
   obtain ⟨x',i,hx',ec,hi''⟩:=hcw.top
   have hone:=gr.one 0 x0 x' ht0 hx'
   have hge:V.length≤i:=by
    rcases Nat.lt_or_ge i V.length with hlt | hge
    ·exfalso
     have hVi:V[i]? =some V[i]:=List.getElem?_eq_getElem hlt
     have hin:=h.ins _ (List.getElem_mem hlt)
     rw [ec] at hcw
     have:=((h.code i _ hVi).ext gr.ext).inj (by rw [nk hin.len,hnl]) (vq hs.fds hin) (vq hs.fds hv) hcw
     have:=Hf hin hv this
     exact hm (this▸List.getElem_mem hlt)
    ·exact hge
   have hi3:i=V.length:=by omega
   refine ⟨(P',t.2++[0]),rfl,⟨gr.tabs,by rw [gr.len,h.len],fun r x hx=> ?_,fun x hx=> ?_,fun u hu=> ?_,?_,fun j u hu=> ?_,h.flags.add hm⟩⟩
   ·have hr:r<t.1.length:=by rw [← gr.len];exact fe hx
    have:=gr.one r _ x (List.getElem?_eq_getElem hr) hx
    have:=h.few r _ (List.getElem?_eq_getElem hr)
    simp;omega
   ·rw [hx'] at hx;cases hx
    simp;omega
   ·rcases List.mem_append.1 hu with hu | hu
    ·exact h.ins u hu
    ·simp at hu;subst hu;exact hv
   ·exact List.nodup_append.2 ⟨h.nd,by simp,fun a ha b hb=>by simp at hb;subst hb;exact fun e=>hm (e▸ha)⟩
   ·rw [List.getElem?_append] at hu
    split at hu
    ·exact (h.code j u hu).ext gr.ext
    ·have hj:j-V.length=0:=by
      by_cases e:j-V.length=0
      ·exact e
      ·rw [List.getElem?_eq_none (by simp;omega)] at hu;cases hu
     rw [hj] at hu
     simp at hu;subst hu
     rw [ec,hi3] at hcw
     rw [show j=V.length by omega];exact hcw
theorem LJ {s:List Fd} (hs:ey s) {cap:Int} {t:Tr} {V:List (List Int)} {g:Gf} (h:OkT s cap t V g) {v:List Int} (hv:In s v):pO t s v=some (decide (v∈V),0):=by
 unfold pO
 have:=hs.few
 rw [jz s v (by have:=hv.len;omega),ed.2 hv,ab,show ((0:Int) != 0)=false from rfl,cond_false]
 rcases BC hs h hv with ⟨i,_,_,hm,e⟩ | ⟨hm,e⟩
 ·rw [e,ab,decide_eq_true hm]
 ·rw [e,ab,decide_eq_false hm]
theorem FC {s:List Fd} (hs:ey s) {cap:Int} {t:Tr} {V:List (List Int)} {g:Gf} (h:OkT s cap t V g) {v:List Int} (hv:In s v) (flag:Int):
  (cq V v flag≠0∧rv t s v flag=some (0,cq V v flag))∨(cq V v flag=0∧(flag=0∨flag=1)∧ ∃ i:Nat,i<V.length∧V[i]? =some v∧rv t s v flag=some ((i:Int),0)):=by
 unfold rv cq
 have:=hs.few
 rw [jz s v (by have:=hv.len;omega),ed.2 hv,ab,show ((0:Int) != 0)=false from rfl,cond_false]
 simp only [aP]
 rcases oX flag with hb | hb
 ·rw [if_pos hb,show (flag != 0&&flag != 1)=true by simp;omega]
  exact .inl ⟨by decide,rfl⟩
 ·rw [if_neg (show ¬ (flag<0∨1<flag) by omega),show (flag != 0&&flag != 1)=false by rcases hb with rfl | rfl <;> rfl,cond_false]
  rcases BC hs h hv with ⟨i,hi,e,hm,ef⟩ | ⟨hm,ef⟩
  ·rw [ef,ab,if_pos hm];exact .inr ⟨rfl,hb,i,hi,e,rfl⟩
  ·rw [ef,ab,if_neg hm];exact .inl ⟨by decide,rfl⟩
theorem MW {s:List Fd} (hs:ey s) {cap:Int} {t:Tr} {V:List (List Int)} {g:Gf} (h:OkT s cap t V g) {v:List Int} (hv:In s v) (flag:Int):
  ∃ t',wN t s v flag=some (t',cq V v flag)∧OkT s cap t' V (DT V g v flag):=by
 obtain ⟨x0,ht0,hl0,hT0,hc0⟩:=h.Sc
 unfold wN DT
 rcases FC hs h hv flag with ⟨hc,e⟩ | ⟨hc,hb,i,hi,ev,e⟩
 ·rw [e,ab,if_neg hc]
  simp only [show (cq V v flag != 0)=true by simpa using hc,cond_true]
  exact ⟨t,rfl,h⟩
 ·have hfl:=h.flags.len
  have:=hT0.n
  rw [e,ab,if_pos hc,hc]
  simp only [show ((0:Int) != 0)=false from rfl,cond_false]
  rw [lW (by omega),ab,bL (h.flags.at_ i v ev),ab,aG (decide_eq_true (by omega)),ab,Int.toNat_natCast]
  refine ⟨(t.1,t.2.set i (fl (g false v|| !(flag==1)) (g true v||(flag==1)))),?_,⟨h.tabs,h.len,h.few,h.top,h.ins,h.nd,h.code,h.flags.set h.nd ev _⟩⟩
  have hh:=Hi (g false v) (g true v)
  rcases hb with rfl | rfl
  ·rw [hh.2.2.1];rfl
  ·rw [hh.2.2.2];rfl
theorem ME {s:List Fd} (hs:ey s) {cap:Int} {t:Tr} {V:List (List Int)} {g:Gf} (h:OkT s cap t V g) {v:List Int} (hv:In s v) (flag:Int):
  wm t s v flag=some (DJ V g v flag,cq V v flag):=by
 unfold wm DJ
 rcases FC hs h hv flag with ⟨hc,e⟩ | ⟨hc,hb,i,hi,ev,e⟩
 ·rw [e,ab,if_neg hc]
  simp only [show (cq V v flag != 0)=true by simpa using hc,cond_true]
 ·rw [e,ab,if_pos hc,hc]
  simp only [show ((0:Int) != 0)=false from rfl,cond_false]
  rw [bL (h.flags.at_ i v ev),ab,aG (decide_eq_true (by omega))]
  have hh:=Iq (g false v) (g true v)
  rcases hb with rfl | rfl
  ·rw [hh.2.2.2.2.1];rfl
  ·rw [hh.2.2.2.2.2];rfl
theorem JK {s:List Fd} {cap:Int} {t:Tr} {V:List (List Int)} {g:Gf} (h:OkT s cap t V g):lq t=some (V.length:Int):=by
 obtain ⟨x0,ht0,hl0,hT0,hc0⟩:=h.Sc
 unfold lq
 rw [show ((t.1.length:Int)==0)=false from beq_eq_false_iff_ne.2 (by rw [h.len];omega),cond_false,tC ht0,ab]
 unfold q9 iQ
 rw [ab,ab,hl0]
end So
end Go.Proofs.YtgcgmclghbebjaaGreat
namespace Go.Proofs.YtgcgmclghbebjaaGreat
namespace So
/-! places as bytes -/
noncomputable def b64 (a:Int) (k:Nat):Int:=IntKind.u8.wrap (ar .i64 a (k:Int))
noncomputable def le4 (n:Nat):List Int:=[b64 n 0,b64 n 8,b64 n 16,b64 n 24]
theorem Nt (n:Nat):b64 n 0=(n:Int)%256∧b64 n 8=(n:Int)/256%256∧b64 n 16=(n:Int)/65536%256∧b64 n 24=(n:Int)/16777216%256:=by
 refine ⟨?_,?_,?_,?_⟩
 ·show IntKind.u8.wrap ((n:Int)/1)=_
  rw [IntKind.wrap_u8];omega
 ·show IntKind.u8.wrap ((n:Int)/256)=_
  rw [IntKind.wrap_u8]
 ·show IntKind.u8.wrap ((n:Int)/65536)=_
  rw [IntKind.wrap_u8]
 ·show IntKind.u8.wrap ((n:Int)/16777216)=_
  rw [IntKind.wrap_u8]
theorem TF {a b:Nat} (ha:a<4294967296) (hb:b<4294967296) (h:le4 a=le4 b):a=b:=by
 obtain ⟨a0,a1,a2,a3⟩:=Nt a
 obtain ⟨b0,b1,b2,b3⟩:=Nt b
 simp only [le4,List.cons.injEq,and_true] at h
 omega
theorem UT (n:Nat):By (le4 n):=fun x hx=>by
 simp only [le4,List.mem_cons,List.not_mem_nil,or_false] at hx
 obtain ⟨a0,a1,a2,a3⟩:=Nt n
 rcases hx with rfl | rfl | rfl | rfl <;> omega
theorem Pc (row:List Int) (n:Nat) (hr:row.length<100000):kO row [(n:Int)]=some (row++le4 n):=by
 have h1: ∀ k:(List Int×Int)→Option (List Int),aq (lN 0 k (n:Int)) au (row,0)=k (row++le4 n,1):=by
  intro k
  refine fw (fun i=>(row++(le4 n).take i,(i:Int))) 4 (by simp) (by omega) (fun i hi k'=> ?_) (fun k'=> ?_)
  ·unfold lN
   dsimp only
   have hl:(row++(le4 n).take i).length≤row.length+4:=by
    rw [List.length_append,List.length_take];show _+min i 4≤_;omega
   rw [decide_eq_true (show (i:Int)<4 by omega),cond_true,w64 (show _∧8*(i:Int)≤_ by omega),aG (decide_eq_true (show (0:Int)≤8*(i:Int) by omega)),aG (bg (by simp only [List.length_singleton];omega) (by simp only [List.length_singleton];omega)),nx (show i<9223372036854775807 by omega),List.append_assoc]
   congr 3
   match i,hi with
   | 0,_=>rfl
   | 1,_=>rfl
   | 2,_=>rfl
   | 3,_=>rfl
   | _+4,hi=>omega
  ·unfold lN
   dsimp only
   rw [show decide (((4:Nat):Int)<4)=false from rfl,cond_false,List.take_of_length_le (show (le4 n).length≤4 from Nat.le_refl 4)]
   rfl
 unfold kO
 refine fw (fun i=>(if i=0 then row else row++le4 n,(i:Int))) 1 rfl (by omega) (fun i hi k=> ?_) (fun k=> ?_)
 ·have:i=0:=by omega
  subst this
  unfold ph
  dsimp only
  rw [show decide (((0:Nat):Int)<(([(n:Int)]:List Int).length:Int))=true from rfl,cond_true,show idx [(n:Int)] ((0:Nat):Int)=some (n:Int) from rfl,ab]
  exact h1 k
 ·unfold ph
  dsimp only
  rw [show decide (((1:Nat):Int)<(([(n:Int)]:List Int).length:Int))=false from rfl,cond_false]
  rfl
noncomputable def rowOf (ps:List Nat):List Int:=ps.flatMap le4
theorem yV (ps:List Nat):(rowOf ps).length=4*ps.length:=by
 induction ps with
 | nil=>rfl
 | cons p ps ih=>simp only [rowOf,List.flatMap_cons,List.length_append,List.length_cons] at *; rw [ih];show 4+_=_;omega
theorem CA (ps:List Nat) (n:Nat):rowOf (ps++[n])=rowOf ps++le4 n:=by simp [rowOf]
theorem y4: ∀ {a b:List Nat},a.length=b.length→(∀ x∈a,x<4294967296)→(∀ x∈b,x<4294967296)→rowOf a=rowOf b→a=b
 | [],[],_,_,_,_=>rfl
 | [],_::_,h,_,_,_=>by simp at h
 | _::_,[],h,_,_,_=>by simp at h
 | a::aa,b::bb,h,ha,hb,e=>by
  have e':=List.append_inj (show le4 a++rowOf aa=le4 b++rowOf bb from e) rfl
  rw [TF (ha a (by simp)) (hb b (by simp)) e'.1,y4 (by simpa using h) (fun x hx=>ha x (by simp [hx])) (fun x hx=>hb x (by simp [hx])) e'.2]
theorem Fo {ps:List Nat} (h:ps.length<100):Key (rowOf ps):=by
 refine ⟨fun x hx=> ?_,by rw [yV];omega⟩
 simp only [rowOf,List.mem_flatMap] at hx
 obtain ⟨n,_,hx⟩:=hx
 exact UT n x hx
/-! parts of vectors -/
noncomputable def ch {α:Type} (l:List α) (i:Nat):List α:=(l.drop (2*i)).take 2
noncomputable def nch (s:List Fd):Nat:=(s.length+1)/2
theorem DE {α:Type} (l:List α) {n i:Nat} (hn:n=l.length) (h:2*i<n):bd l ((2*i:Nat):Int) ((min n (2*i+2):Nat):Int)=ch l i:=by
 unfold bd ch
 rw [Int.toNat_natCast,Int.toNat_natCast]
 by_cases h':2*i+2≤n
 ·rw [show min n (2*i+2)-2*i=2 by omega]
 ·rw [List.take_of_length_le (by simp;omega),List.take_of_length_le (by simp;omega)]
theorem z7 {s:List Fd} {v:List Int} (h:In s v) (i:Nat):In (ch s i) (ch v i):=(h.drop (2*i)).take 2
theorem Dg {s:List Fd} (h:Fds s) (i:Nat):Fds (ch s i):=(h.drop (2*i)).take 2
theorem U8 {l l':List Int} {n:Nat} (hl:l.length=n) (hl':l'.length=n) (h: ∀ i,i<(n+1)/2→ch l i=ch l' i):l=l':=by
 refine List.ext_getElem? fun k=> ?_
 by_cases hk:k<n
 ·have e:=congrArg (fun x=>x[k%2]?) (h (k/2) (by omega))
  simp only [ch,List.getElem?_take,List.getElem?_drop] at e
  rw [if_pos (by omega),if_pos (by omega),Nat.div_add_mod] at e
  exact e
 ·rw [List.getElem?_eq_none (by omega),List.getElem?_eq_none (by omega)]
structure Pl (P:List Tb) (s:List Fd) (v:List Int) (m:Nat) (ps:List Nat):Prop where
 len:ps.length=m
 at_: ∀ i,i<m→ ∃ p t,ps[i]? =some p∧P[i]? =some t∧t.2.1[p]? =some (enc (ch s i) (ch v i))
theorem Pl.fn {P:List Tb} (nd:Nd P) {s:List Fd} {v:List Int} {m:Nat} {ps ps':List Nat} (h:Pl P s v m ps) (h':Pl P s v m ps'):ps=ps':=by
 refine List.ext_getElem? fun i=> ?_
 by_cases hi:i<m
 ·obtain ⟨p,t,e1,e2,e3⟩:=h.at_ i hi
  obtain ⟨p',t',e1',e2',e3'⟩:=h'.at_ i hi
  rw [e2] at e2';cases e2'
  rw [e1,e1',CL (nd i t e2) e3 e3']
 ·rw [List.getElem?_eq_none (by have:=h.len;omega),List.getElem?_eq_none (by have:=h'.len;omega)]
theorem Pl.inj {P:List Tb} {s:List Fd} {v v':List Int} (hv:In s v) (hv':In s v') {ps:List Nat} (h:Pl P s v (nch s) ps) (h':Pl P s v' (nch s) ps):v=v':=by
 refine U8 hv.len hv'.len fun i hi=> ?_
 obtain ⟨p,t,e1,e2,e3⟩:=h.at_ i hi
 obtain ⟨p',t',e1',e2',e3'⟩:=h'.at_ i hi
 rw [e2] at e2';cases e2'
 rw [e1] at e1';cases e1'
 rw [e3] at e3'
 exact KB (z7 hv i) (z7 hv' i) (Option.some.inj e3')
theorem Pl.ext {P P':List Tb} (he:Ext P P') {s:List Fd} {v:List Int} {m:Nat} {ps:List Nat} (h:Pl P s v m ps):Pl P' s v m ps:=
 ⟨h.len,fun i hi=>by
  obtain ⟨p,t,e1,e2,e3⟩:=h.at_ i hi
  obtain ⟨t',h1,h2⟩:=he i t e2
  exact ⟨p,t',e1,h1,IZ h2 e3⟩⟩
theorem Pl.snoc {P:List Tb} {s:List Fd} {v:List Int} {m p:Nat} {t:Tb} {ps:List Nat} (h:Pl P s v m ps) (ht:P[m]? =some t) (hp:t.2.1[p]? =some (enc (ch s m) (ch v m))):Pl P s v (m+1) (ps++[p]):=by
 refine ⟨by simp [h.len],fun i hi=> ?_⟩
 by_cases e:i<m
 ·obtain ⟨p',t',e1,e2,e3⟩:=h.at_ i e
  exact ⟨p',t',by rw [List.getElem?_append_left (by rw [h.len];exact e)];exact e1,e2,e3⟩
 ·have:i=m:=by omega
  subst this
  exact ⟨p,t,by rw [List.getElem?_append_right (by rw [h.len];omega),h.len];simp,ht,hp⟩
theorem Pl.small {P:List Tb} {cap:Int} (hP:pz P cap) {s:List Fd} {v:List Int} {m:Nat} {ps:List Nat} (h:Pl P s v m ps): ∀ x∈ps,x<4294967296:=by
 intro x hx
 obtain ⟨i,hi,e⟩:=jP hx
 obtain ⟨p,t,e1,e2,e3⟩:=h.at_ i (by rw [← h.len];exact hi)
 rw [e] at e1;cases e1
 have:=fe e3
 have:=(hP.ti i t e2).n
 omega
/-! the collapsed store -/
abbrev Co:=List Tb×Tb×List Int
structure OkC (s:List Fd) (cap:Int) (c:Co) (V:List (List Int)) (g:Gf):Prop where
 tabs:pz c.1 cap
 plen:c.1.length=nch s
 few: ∀ (r:Nat) (x:Tb),c.1[r]? =some x→x.2.1.length≤V.length
 rows:TI c.2.1
 rcap:c.2.1.1=cap
 rlen:c.2.1.2.1.length=V.length
 ins: ∀ v∈V,In s v
 nd:V.Nodup
 code: ∀ (j:Nat) v,V[j]? =some v→ ∃ ps,Pl c.1 s v (nch s) ps∧c.2.1.2.1[j]? =some (rowOf ps)
 flags:Flags V g c.2.2
theorem OY {s:List Fd} (hs:Fds s) {v:List Int} (hv:In s v) {c:Co} {cap:Int} (hP:pz c.1 cap) (hl:c.1.length=nch s) (_hR:TI c.2.1):
  ∀ (d i:Nat) (x:Int) (ps:List Nat) (M:Nat),i+d=nch s→d<M→Pl c.1 s v i ps→
   (∃ ps',Pl c.1 s v (nch s) ps'∧aq (jZ c s (s,v)) M ((i:Int),x,rowOf ps)=(bS c.2.1 (rowOf ps')).bind fun r=>bif (!r.2) then some (-1) else some r.1)∨
   ((∀ ps',¬ Pl c.1 s v (nch s) ps')∧aq (jZ c s (s,v)) M ((i:Int),x,rowOf ps)=some (-1)):=by
 have hf:=hs.few
 intro d
 induction d with
 | zero=>
  intro i x ps M hi hM hpl
  obtain ⟨m,rfl⟩: ∃ m,M=m+1:=⟨M-1,by omega⟩
  rw [aE]
  have:i=nch s:=by omega
  subst this
  refine .inl ⟨ps,hpl,?_⟩
  unfold jZ
  dsimp only
  unfold nch
  rw [w64 (show _∧(((s.length+1)/2:Nat):Int)*2≤_ by omega),decide_eq_false (by omega),cond_false]
 | succ d ih=>
  intro i x ps M hi hM hpl
  obtain ⟨m,rfl⟩: ∃ m,M=m+1:=⟨M-1,by omega⟩
  rw [aE]
  have hin:i<nch s:=by omega
  have h2i:2*i<s.length:=by unfold nch at hin;omega
  have hn9:nch s≤9:=by unfold nch;omega
  have ht:c.1[i]? =some (c.1[i]'(by omega)):=List.getElem?_eq_getElem _
  have hT:=hP.ti i _ ht
  have hk:=iG (Dg hs i) (z7 hv i)
  unfold jZ
  dsimp only
  rw [w64 (show _∧(i:Int)*2≤_ by omega),decide_eq_true (show (i:Int)*2<(s.length:Int) by omega),cond_true,nx (show i<9223372036854775807 by omega),w64 (show _∧((i+1:Nat):Int)*2≤_ by omega),
   show (i:Int)*2=((2*i:Nat):Int) by omega,show min (s.length:Int) (((i+1:Nat):Int)*2)=((min s.length (2*i+2):Nat):Int) by omega,
   aG (vN (by omega) (by omega)),aG (vN (by omega) (by rw [hv.len];omega)),DE s rfl h2i,DE v hv.len.symm h2i,yL (Dg hs i) (z7 hv i),ab,bL ht,ab]
  dsimp only
  by_cases hm:enc (ch s i) (ch v i)∈(c.1[i]'(by omega)).2.1
  ·obtain ⟨p,hp,ep⟩:=jP hm
   rw [(gI hT hk).1 p ep,ab]
   dsimp only
   rw [Bool.not_true,cond_false,Pc _ _ (by rw [yV,hpl.len];omega),ab,cond_false,← CA]
   exact ih (i+1) x (ps++[p]) m (by omega) (by omega) (hpl.snoc ht ep)
  ·rw [(gI hT hk).2 hm,ab]
   refine .inr ⟨fun ps' h'=> ?_,rfl⟩
   obtain ⟨p,t,_,e2,e3⟩:=h'.at_ i hin
   rw [ht] at e2;cases e2
   exact hm (List.mem_of_getElem? e3)
theorem BH {s:List Fd} (hs:Fds s) {cap:Int} {c:Co} {V:List (List Int)} {g:Gf} (h:OkC s cap c V g) {v:List Int} (hv:In s v):
  (∃ i:Nat,i<V.length∧V[i]? =some v∧v∈V∧jd c s v=some (i:Int))∨(v∉V∧jd c s v=some (-1)):=by
 have hf:=hs.few
 have hn9:nch s≤9:=by unfold nch;omega
 have hnd:=h.tabs.nd
 have e0:jd c s v=aq (jZ c s (s,v)) au (((0:Nat):Int),0,rowOf []):=by
  unfold jd jm
  rw [ab];rfl
 rw [e0]
 rcases OY hs hv h.tabs h.plen h.rows (nch s) 0 0 [] au (by omega) (by show nch s<2^64;omega) ⟨rfl,fun i hi=>by omega⟩ with ⟨ps,hps,e⟩ | ⟨hno,e⟩
 ·rw [e]
  have hkey:=Fo (ps:=ps) (by rw [hps.len];omega)
  by_cases hm:rowOf ps∈c.2.1.2.1
  ·obtain ⟨j,hj,ej⟩:=jP hm
   have hj':j<V.length:=by rw [← h.rlen];exact hj
   have hVj:V[j]? =some V[j]:=List.getElem?_eq_getElem hj'
   obtain ⟨ps',h1,h2⟩:=h.code j _ hVj
   rw [ej] at h2
   have hpp:=y4 (by rw [hps.len,h1.len]) (hps.small h.tabs) (h1.small h.tabs) (Option.some.inj h2)
   subst hpp
   have hin:=h.ins _ (List.getElem_mem hj')
   have:=h1.inj hin hv hps
   rw [this] at hVj
   exact .inl ⟨j,hj',hVj,List.mem_of_getElem? hVj,by rw [(gI h.rows hkey).1 j ej];rfl⟩
  ·refine .inr ⟨fun hV=> ?_,by rw [(gI h.rows hkey).2 hm];rfl⟩
   obtain ⟨j,hj,ej⟩:=jP hV
   obtain ⟨ps',h1,h2⟩:=h.code j v ej
   rw [hps.fn hnd h1] at hm
   exact hm (List.mem_of_getElem? h2)
 ·refine .inr ⟨fun hV=> ?_,e⟩
  obtain ⟨j,hj,ej⟩:=jP hV
  obtain ⟨ps',h1,_⟩:=h.code j v ej
  exact hno ps' h1
theorem QX {s:List Fd} (hs:Fds s) {v:List Int} (hv:In s v) {c:Co} {cap:Int} (hFl:c.2.2.length<100000000):
  ∀ (d i:Nat) (P:List Tb) (ps:List Nat) (M:Nat),i+d=nch s→d<M→pz P cap→P.length=nch s→Pl P s v i ps→(∀ (r:Nat) (x:Tb),i≤r→P[r]? =some x→(x.2.1.length:Int)<cap)→
   ∃ P' ps',Pl P' s v (nch s) ps'∧Grown P P' cap i (nch s)∧aq (fA c s (s,v)) M ((i:Int),P,rowOf ps)=(bk c.2.1 (rowOf ps')).bind fun r=>some ((P',r.1,c.2.2++[0]),true,0):=by
 have hf:=hs.few
 intro d
 induction d with
 | zero=>
  intro i P ps M hi hM hP hl hpl _
  obtain ⟨m,rfl⟩: ∃ m,M=m+1:=⟨M-1,by omega⟩
  rw [aE]
  have:i=nch s:=by omega
  subst this
  refine ⟨P,ps,hpl,⟨hP,Ext.refl P,rfl,fun _ _=>rfl,fun r t t' e e'=>by rw [e] at e';cases e';omega⟩,?_⟩
  unfold fA
  dsimp only
  rw [w64 (show _∧((nch s:Nat):Int)*2≤_ by unfold nch;omega),decide_eq_false (by unfold nch;omega),cond_false,z6]
  cases bk c.2.1 (rowOf ps) with
  | none=>rfl
  | some r=>rw [ab,ab,aG (wW _),aG (bg (by simp;omega) (by simp;omega))]
 | succ d ih=>
  intro i P ps M hi hM hP hl hpl hroom
  obtain ⟨m,rfl⟩: ∃ m,M=m+1:=⟨M-1,by omega⟩
  rw [aE]
  have hin:i<nch s:=by omega
  have h2i:2*i<s.length:=by unfold nch at hin;omega
  have hn9:nch s≤9:=by unfold nch;omega
  have hiP:i<P.length:=by omega
  have ht:P[i]? =some P[i]:=List.getElem?_eq_getElem hiP
  have hT:=hP.ti i _ ht
  have hk:=iG (Dg hs i) (z7 hv i)
  obtain ⟨t',f,e,p,h1,h2,h3,h4,h5,h6⟩:=K0 hT hk (.inr (by rw [hP.cap i _ ht];exact hroom i _ (Nat.le_refl _) ht))
  have g1:Grown P (P.set i t') cap i (i+1):=by
   refine ⟨⟨fun r u hu=> ?_,fun r u hu=> ?_⟩,fun r u hu=> ?_,by simp,fun r hr=> ?_,fun r u u' hu hu'=> ?_⟩
   ·rw [dq hiP] at hu
    split at hu
    ·cases hu;exact h2
    ·exact hP.ti r u hu
   ·rw [dq hiP] at hu
    split at hu
    ·cases hu;rw [h3];exact hP.cap i _ ht
    ·exact hP.cap r u hu
   ·by_cases e:i=r
    ·subst e
     rw [ht] at hu;cases hu
     exact ⟨t',by rw [dq hiP,if_pos rfl],h4⟩
    ·exact ⟨u,by rw [dq hiP,if_neg e];exact hu,List.prefix_refl _⟩
   ·rw [dq hiP,if_neg (by omega)]
   ·rw [dq hiP] at hu'
    split at hu'
    ·rename_i e
     subst e
     cases hu'
     rw [ht] at hu;cases hu;exact h6
    ·rw [hu] at hu';cases hu';omega
  obtain ⟨P',ps',k1,k2,k3⟩:=ih (i+1) (P.set i t') (ps++[p]) m (by omega) (by omega) g1.tabs (by simpa using hl) ((hpl.ext g1.ext).snoc (by rw [dq hiP,if_pos rfl]) h5) (fun r x hr hx=>hroom r x (by omega) (by rw [← g1.out r (by omega)];exact hx))
  refine ⟨P',ps',k1,⟨k2.tabs,g1.ext.trans k2.ext,by rw [k2.len];simp,fun r hr=> ?_,fun r t t3 ht1 ht3=> ?_⟩,?_⟩
  ·rw [k2.out r (by omega),g1.out r (by omega)]
  ·by_cases er:r=i
   ·rw [k2.out r (by omega)] at ht3
    exact g1.one r t t3 ht1 ht3
   ·exact k2.one r t t3 (by rw [g1.out r (by omega)];exact ht1) ht3
  ·rw [← k3]
   generalize aq (fA c s (s,v)) m=k
   unfold fA
   dsimp only
   rw [w64 (show _∧(i:Int)*2≤_ by omega),decide_eq_true (show (i:Int)*2<(s.length:Int) by omega),cond_true,nx (show i<9223372036854775807 by omega),w64 (show _∧((i+1:Nat):Int)*2≤_ by omega),
    show (i:Int)*2=((2*i:Nat):Int) by omega,show min (s.length:Int) (((i+1:Nat):Int)*2)=((min s.length (2*i+2):Nat):Int) by omega,
    aG (vN (by omega) (by omega)),aG (vN (by omega) (by rw [hv.len];omega)),DE s rfl h2i,DE v hv.len.symm h2i,yL (Dg hs i) (z7 hv i),ab,bL ht,ab]
   dsimp only
   rw [h1,ab]
   dsimp only
   rw [Pc _ _ (by rw [yV,hpl.len];omega),ab,ab,Bool.not_true,cond_false,← CA,Int.toNat_natCast]
theorem Mx {l:List Tb} (h:l.length<1000000):bQ l=some l:=by
 unfold bQ
 rw [aG (bg (by omega) (by omega))]
theorem Bb {s:List Fd} {cap:Int} {c:Co} {V:List (List Int)} {g:Gf} (h:OkC s cap c V g):nQ c=some (V.length:Int):=by
 unfold nQ iQ
 rw [ab,h.rlen]
theorem Mq {s:List Fd} (hs:Fds s) {cap:Int} {c:Co} {V:List (List Int)} {g:Gf} (h:OkC s cap c V g) {v:List Int} (hv:In s v):
  ∃ c',pZ c s v=some (c',(oh cap V v).2)∧OkC s cap c' (oh cap V v).1 g:=by
 have hf:=hs.few
 have hn9:nch s≤9:=by unfold nch;omega
 unfold pZ oh
 rw [jz s v (by have:=hv.len;omega),ed.2 hv,ab,show ((0:Int) != 0)=false from rfl,cond_false]
 rcases BH hs h hv with ⟨i,hi,e,hm,ef⟩ | ⟨hm,ef⟩
 ·rw [ef,ab,if_pos hm,decide_eq_true (by omega)];exact ⟨c,rfl,h⟩
 ·rw [ef,ab,if_neg hm,decide_eq_false (by omega),cond_false,Bb h,ab,h.rcap]
  by_cases hc:cap≤(V.length:Int)
  ·rw [decide_eq_true hc,if_pos hc];exact ⟨c,rfl,h⟩
  ·have hfl:=h.flags.len
   have hVl:V.length≤1048576:=by have:=h.rows.n;have:=h.rlen;omega
   rw [decide_eq_false hc,if_neg hc,cond_false,Mx (by rw [h.plen];omega),ab]
   obtain ⟨P',ps,k1,k2,k3⟩:=QX hs hv (c:=c) (cap:=cap) (by omega) (nch s) 0 c.1 [] au (by omega) (by show nch s<2^64;omega) h.tabs h.plen ⟨rfl,fun i hi=>by omega⟩ (fun r x _ hx=>by have:=h.few r x hx;omega)
   have e0:((jm s v).bind fun r42=>aq (fA c s r42) au (0,c.1,[]))=aq (fA c s (s,v)) au (((0:Nat):Int),c.1,rowOf []):=by
    unfold jm
    rw [ab];rfl
   rw [e0,k3]
   have hkey:=Fo (ps:=ps) (by rw [k1.len];omega)
   have hnew:rowOf ps∉c.2.1.2.1:=fun hmem=>by
    obtain ⟨j,hj,ej⟩:=jP hmem
    have hj':j<V.length:=by rw [← h.rlen];exact hj
    have hVj:V[j]? =some V[j]:=List.getElem?_eq_getElem hj'
    obtain ⟨ps',h1,h2⟩:=h.code j _ hVj
    rw [ej] at h2
    have h1':=h1.ext k2.ext
    have hpp:=y4 (by rw [k1.len,h1.len]) (k1.small k2.tabs) (h1'.small k2.tabs) (Option.some.inj h2)
    subst hpp
    have:=h1'.inj (h.ins _ (List.getElem_mem hj')) hv k1
    exact hm (this▸List.getElem_mem hj')
   obtain ⟨t',e1,e2,e3,e4⟩:=w7 h.rows hkey hnew (by rw [h.rlen,h.rcap];omega)
   rw [e1,ab]
   refine ⟨(P',t',c.2.2++[0]),rfl,⟨k2.tabs,by show P'.length=_;rw [k2.len,h.plen],fun r x hx=> ?_,e4,by show t'.1=cap;rw [e2,h.rcap],by show t'.2.1.length=_;rw [e3];simp [h.rlen],fun u hu=> ?_,?_,fun j u hu=> ?_,h.flags.add hm⟩⟩
   ·have hr:r<c.1.length:=by rw [← k2.len];exact fe hx
    have:=k2.one r _ x (List.getElem?_eq_getElem hr) hx
    have:=h.few r _ (List.getElem?_eq_getElem hr)
    simp;omega
   ·rcases List.mem_append.1 hu with hu | hu
    ·exact h.ins u hu
    ·simp at hu;subst hu;exact hv
   ·exact List.nodup_append.2 ⟨h.nd,by simp,fun a ha b hb=>by simp at hb;subst hb;exact fun e=>hm (e▸ha)⟩
   ·show ∃ ps,Pl P' s u (nch s) ps∧t'.2.1[j]? =some (rowOf ps)
    rw [List.getElem?_append] at hu
    split at hu
    ·obtain ⟨qs,q1,q2⟩:=h.code j u hu
     exact ⟨qs,q1.ext k2.ext,by rw [e3,List.getElem?_append_left (fe q2)];exact q2⟩
    ·have hj:j-V.length=0:=by
      by_cases e:j-V.length=0
      ·exact e
      ·rw [List.getElem?_eq_none (by simp;omega)] at hu;cases hu
     rw [hj] at hu
     simp at hu;subst hu
     exact ⟨ps,k1,by rw [e3,show j=c.2.1.2.1.length by rw [h.rlen];omega];simp⟩
theorem NA {s:List Fd} (hs:Fds s) {cap:Int} {c:Co} {V:List (List Int)} {g:Gf} (h:OkC s cap c V g) {v:List Int} (hv:In s v):pN c s v=some (decide (v∈V),0):=by
 unfold pN
 have:=hs.few
 rw [jz s v (by have:=hv.len;omega),ed.2 hv,ab,show ((0:Int) != 0)=false from rfl,cond_false]
 rcases BH hs h hv with ⟨i,_,_,hm,e⟩ | ⟨hm,e⟩
 ·rw [e,ab,decide_eq_true hm,decide_eq_true (by omega)]
 ·rw [e,ab,decide_eq_false hm];rfl
theorem Fh {s:List Fd} (hs:Fds s) {cap:Int} {c:Co} {V:List (List Int)} {g:Gf} (h:OkC s cap c V g) {v:List Int} (hv:In s v) (flag:Int):
  (cq V v flag≠0∧ru c s v flag=some (0,cq V v flag))∨(cq V v flag=0∧(flag=0∨flag=1)∧ ∃ i:Nat,i<V.length∧V[i]? =some v∧ru c s v flag=some ((i:Int),0)):=by
 unfold ru cq
 have:=hs.few
 rw [jz s v (by have:=hv.len;omega),ed.2 hv,ab,show ((0:Int) != 0)=false from rfl,cond_false]
 simp only [aP]
 rcases oX flag with hb | hb
 ·rw [if_pos hb,show (decide (flag<0)||decide (1<flag))=true by simpa using hb]
  exact .inl ⟨by decide,rfl⟩
 ·rw [if_neg (show ¬ (flag<0∨1<flag) by omega),show (decide (flag<0)||decide (1<flag))=false by rcases hb with rfl | rfl <;> rfl,cond_false]
  rcases BH hs h hv with ⟨i,hi,e,hm,ef⟩ | ⟨hm,ef⟩
  ·rw [ef,ab,if_pos hm,decide_eq_false (by omega)];exact .inr ⟨rfl,hb,i,hi,e,rfl⟩
  ·rw [ef,ab,if_neg hm];exact .inl ⟨by decide,rfl⟩
theorem LZ {s:List Fd} (hs:Fds s) {cap:Int} {c:Co} {V:List (List Int)} {g:Gf} (h:OkC s cap c V g) {v:List Int} (hv:In s v) (flag:Int):
  ∃ c',wQ c s v flag=some (c',cq V v flag)∧OkC s cap c' V (DT V g v flag):=by
 unfold wQ DT
 rcases Fh hs h hv flag with ⟨hc,e⟩ | ⟨hc,hb,i,hi,ev,e⟩
 ·rw [e,ab,if_neg hc]
  simp only [show (cq V v flag != 0)=true by simpa using hc,cond_true]
  exact ⟨c,rfl,h⟩
 ·have hfl:=h.flags.len
  have:=h.rows.n
  have:=h.rlen
  rw [e,ab,if_pos hc,hc]
  simp only [show ((0:Int) != 0)=false from rfl,cond_false]
  rw [lW (by omega),ab,bL (h.flags.at_ i v ev),ab,aG (decide_eq_true (by omega)),ab,Int.toNat_natCast]
  refine ⟨(c.1,c.2.1,c.2.2.set i (fl (g false v|| !(flag==1)) (g true v||(flag==1)))),?_,⟨h.tabs,h.plen,h.few,h.rows,h.rcap,h.rlen,h.ins,h.nd,h.code,h.flags.set h.nd ev _⟩⟩
  have hh:=Hi (g false v) (g true v)
  rcases hb with rfl | rfl
  ·rw [hh.2.2.1];rfl
  ·rw [hh.2.2.2];rfl
theorem MI {s:List Fd} (hs:Fds s) {cap:Int} {c:Co} {V:List (List Int)} {g:Gf} (h:OkC s cap c V g) {v:List Int} (hv:In s v) (flag:Int):
  xS c s v flag=some (DJ V g v flag,cq V v flag):=by
 unfold xS DJ
 rcases Fh hs h hv flag with ⟨hc,e⟩ | ⟨hc,hb,i,hi,ev,e⟩
 ·rw [e,ab,if_neg hc]
  simp only [show (cq V v flag != 0)=true by simpa using hc,cond_true]
 ·rw [e,ab,if_pos hc,hc]
  simp only [show ((0:Int) != 0)=false from rfl,cond_false]
  rw [bL (h.flags.at_ i v ev),ab,aG (decide_eq_true (by omega))]
  have hh:=Iq (g false v) (g true v)
  rcases hb with rfl | rfl
  ·rw [hh.2.2.1];rfl
  ·rw [hh.2.2.2.1];rfl
theorem CK {s:List Fd} (hs:Fds s) (most:Int):xA s most=if most<0∨1048576<most then some (([],(0,[],[]),[]),1) else some ((List.replicate (nch s) (most,[],List.replicate 8 0),(most,[],List.replicate 8 0),[]),0):=by
 have hf:=hs.few
 unfold xA
 rw [Dh]
 by_cases h:most<0∨1048576<most
 ·rw [if_pos h,if_pos h];rfl
 ·rw [if_neg h,if_neg h,ab]
  simp only [show ((0:Int) != 0)=false from rfl,cond_false]
  have hb:IntKind.i64.wrap (Int.tdiv (IntKind.i64.wrap ((IntKind.i64.wrap ((s.length:Int)+2))-1)) 2)=((nch s:Nat):Int):=by
   rw [w64 (show _∧(s.length:Int)+2≤_ by omega),show (s.length:Int)+2-1=((s.length+1:Nat):Int) by omega,w64 (show _∧((s.length+1:Nat):Int)≤_ by omega),show Int.tdiv ((s.length+1:Nat):Int) 2=((nch s:Nat):Int) from rfl,w64 (by unfold nch;omega)]
  refine fw (fun i=>(List.replicate i (most,[],List.replicate 8 0),(i:Int))) (nch s) (by simp) (by unfold nch;omega) (fun i hi k=> ?_) (fun k=> ?_)
  ·have:nch s≤9:=by unfold nch;omega
   unfold uG
   dsimp only
   rw [hb,cj hi,cond_true,Dh,if_neg h,ab]
   dsimp only
   rw [aG (bg (by simp;omega) (by simp;omega)),nx (by omega),← List.replicate_succ' (n:=i)]
  ·unfold uG
   dsimp only
   rw [hb,cT (Nat.lt_irrefl _),cond_false]
theorem L3 (s:List Fd) {most:Int} (h0:0≤most) (h1:most≤1048576):OkC s most (List.replicate (nch s) (most,[],List.replicate 8 0),(most,[],List.replicate 8 0),[]) [] (fun _ _=>false):=by
 have hr: ∀ (r:Nat) (x:Tb),(List.replicate (nch s) ((most,[],List.replicate 8 0):Tb))[r]? =some x→x=(most,[],List.replicate 8 0):=by
  intro r x hx
  rw [List.getElem?_replicate] at hx
  split at hx
  ·exact (Option.some.inj hx).symm
  ·cases hx
 exact ⟨⟨fun r x hx=>by rw [hr r x hx];exact C4 h0 h1,fun r x hx=>by rw [hr r x hx]⟩,by simp,fun r x hx=>by have:=hr r x hx;subst this;simp,C4 h0 h1,rfl,rfl,fun v hv=>by simp at hv,List.nodup_nil,fun i v h=>by simp at h,Flags.nil⟩
end So
end Go.Proofs.YtgcgmclghbebjaaGreat
namespace Go.Proofs.YtgcgmclghbebjaaGreat
namespace Df
theorem ab {α ρ:Type} (x:α) (k:α→Option ρ):(some x).bind k=k x:=rfl
theorem aP {α ρ:Type} (x:α) (k:α→Option ρ):aj x k=k x:=rfl
theorem aG {ρ:Type} (k:Option ρ):chk true k=k:=rfl
theorem bP {α ρ:Type} (d:α) (m:Option α) (k:α→Option ρ):cf true d m k=m.bind k:=rfl
theorem cU {α ρ:Type} (d:α) (m:Option α) (k:α→Option ρ):cf false d m k=k d:=rfl
theorem jX {α:Type} (xs:List α) (k:Nat):idx xs (k:Int)=xs[k]? :=by simp [idx]
theorem bA {α:Type} {xs:List α} {k:Nat} (h:k<xs.length):idx xs (k:Int)=some xs[k]:=by rw [jX,List.getElem?_eq_getElem h]
theorem zy {α:Type} {xs:List α} {i:Int} (h0:0≤i) (h:i<xs.length): ∃ x,idx xs i=some x:=by
 obtain ⟨k,rfl⟩:=Int.eq_ofNat_of_zero_le h0
 exact ⟨_,bA (by omega)⟩
theorem vZ {α:Type} {l pre r:List α} {x:α} (h:l=pre++x::r):idx l (pre.length:Int)=some x:=by subst h;simp [idx]
theorem KR {α:Type} {xs:List α} {i j:Int} {x:α} (h0:0≤i) (hi:i<xs.length):idx (xs.set i.toNat x) j=if j=i then some x else idx xs j:=by
 unfold idx
 split
 ·rw [List.getElem?_set]
  by_cases h:j=i
  ·subst h;simp;omega
  ·simp [h];intro h';omega
 ·have:j≠i:=by omega
  simp [this]
theorem cj {α:Type} {l pre r:List α} {x:α} (h:l=pre++x::r):decide ((pre.length:Int)<(List.length l:Int))=true:=by subst h;simp;omega
theorem cT {α:Type} {l pre:List α} (h:l=pre++[]):decide ((pre.length:Int)<(List.length l:Int))=false:=by subst h;simp
theorem ry {n:Nat} (h:n<4611686018427387904):IntKind.i64.wrap ((n:Int)+1)=((n+1:Nat):Int):=by rw [w64 (by omega)];omega
theorem bg {k b:Nat} (h:k*b≤140737488355328) (h2:k≤9223372036854775807):aw k b=true:=by
 simp only [aw,Bool.and_eq_true];exact ⟨Nat.ble_eq_true_of_le h,Nat.ble_eq_true_of_le h2⟩
/-! rows -/
theorem HY {α:Type} {l m:List α} (hl:l.Nodup) (h: ∀ x∈l,x∈m):l.length≤m.length:=by
 classical
 induction l generalizing m with
 | nil=>simp
 | cons x l ih=>
  have hx:=h x (by simp)
  have hn:=List.nodup_cons.1 hl
  obtain ⟨s,t,rfl⟩:=List.append_of_mem hx
  have:=ih (m:=s++t) hn.2 fun y hy=>by
   have:=h y (by simp [hy])
   simp only [List.mem_append,List.mem_cons] at this ⊢
   rcases this with h | rfl | h
   ·exact .inl h
   ·exact absurd hy hn.1
   ·exact .inr h
  simp at this ⊢; omega
theorem Kn {α:Type} {R:α→α→Prop} (irr: ∀ a,¬ R a a) (asy: ∀ a b,R a b→ ¬ R b a): ∀ {l m:List α},l.Pairwise R→m.Pairwise R→(∀ x,x∈l↔x∈m)→l=m
 | [],[],_,_,_=>rfl
 | [],y::m,_,_,h=>absurd ((h y).2 (by simp)) (by simp)
 | x::l,[],_,_,h=>absurd ((h x).1 (by simp)) (by simp)
 | x::l,y::m,hl,hm,h=>by
  have hl':=List.pairwise_cons.1 hl
  have hm':=List.pairwise_cons.1 hm
  have hxy:x=y:=by
   rcases List.mem_cons.1 ((h x).1 (by simp)) with e | hx
   ·exact e
   ·rcases List.mem_cons.1 ((h y).2 (by simp)) with e | hy
    ·exact e.symm
    ·exact absurd (hl'.1 y hy) (asy _ _ (hm'.1 x hx))
  subst hxy
  have:l=m:=Kn irr asy hl'.2 hm'.2 fun z=>by
   have:=h z
   simp only [List.mem_cons] at this
   constructor
   ·intro hz
    rcases this.1 (.inr hz) with rfl | h
    ·exact absurd (hl'.1 z hz) (irr z)
    ·exact h
   ·intro hz
    rcases this.2 (.inr hz) with rfl | h
    ·exact absurd (hm'.1 z hz) (irr z)
    ·exact h
  rw [this]
/-! the heap of free nodes: a row in some order -/
theorem Ea {h:List Int} {i j:Int} (hi0:0≤i) (hi:i<h.length) (hj0:0≤j) (hj:j<h.length): ∃ h',cS h i j=some h'∧h'.Perm h∧h'.length=h.length:=by
 obtain ⟨i,rfl⟩:=Int.eq_ofNat_of_zero_le hi0
 obtain ⟨j,rfl⟩:=Int.eq_ofNat_of_zero_le hj0
 have hi':i<h.length:=by omega
 have hj':j<h.length:=by omega
 refine ⟨(h.set i h[j]).set j h[i],?_,List.set_set_perm hi' hj',by simp⟩
 unfold cS
 rw [bA hj',bA hi']
 simp only [ab,Int.toNat_natCast]
 obtain ⟨x,hx⟩: ∃ x,idx (h.set i h[j]) (j:Int)=some x:=zy (xs:=h.set i h[j]) (i:=(j:Int)) hj0 (by rw [List.length_set];exact hj)
 rw [hx];rfl
theorem DF {h:List Int} {i j:Int} (hi0:0≤i) (hi:i<h.length) (hj0:0≤j) (hj:j<h.length): ∃ b,dM h i j=some b:=by
 unfold dM
 obtain ⟨x,hx⟩:=zy hi0 hi
 obtain ⟨y,hy⟩:=zy hj0 hj
 rw [hx,hy];exact ⟨_,rfl⟩
theorem Sm: ∀ (n:Nat) (l:List Int) (j:Nat),j<l.length→l.length<4611686018427387904→j<n→ ∃ l',aq iC n (l,(j:Int))=some l'∧l'.Perm l
 | 0,_,_,_,_,h=>by omega
 | n+1,l,j,hj,hl,hn=>by
  rw [aE]
  unfold iC
  simp only [aP]
  rw [w64 (x:=(j:Int)-1) (by omega)]
  by_cases h0:j=0
  ·subst h0
   refine ⟨l,?_,.refl _⟩
   rfl
  ·have hi:IntKind.i64.wrap (Int.tdiv ((j:Int)-1) 2)=(((j-1)/2:Nat):Int):=by
    rw [show (j:Int)-1=((j-1:Nat):Int) by omega]
    rw [show Int.tdiv ((j-1:Nat):Int) 2=(((j-1)/2:Nat):Int) from rfl]
    exact w64 (by omega)
   rw [hi]
   have hne:((((j-1)/2:Nat):Int)==(j:Int))=false:=by simp;omega
   rw [hne]
   obtain ⟨b,hb⟩:=DF (h:=l) (i:=(j:Int)) (j:=(((j-1)/2:Nat):Int)) (by omega) (by omega) (by omega) (by omega)
   simp only [Bool.not_false,bP,hb,ab,Bool.false_or]
   cases b
   ·exact ⟨l,rfl,.refl _⟩
   ·obtain ⟨l1,h1,p1,e1⟩:=Ea (h:=l) (i:=(((j-1)/2:Nat):Int)) (j:=(j:Int)) (by omega) (by omega) (by omega) (by omega)
    obtain ⟨l2,h2,p2⟩:=Sm n l1 ((j-1)/2) (by omega) (by omega) (by omega)
    refine ⟨l2,?_,p2.trans p1⟩
    simp only [Bool.not_true,cond_false,h1,ab]
    exact h2
theorem Tw {h:List Int} (x:Int) (hl:h.length<1099511627776): ∃ h',ir x h=some h'∧h'.Perm (x::h):=by
 unfold ir nj fN kr
 rw [bg (by simp;omega) (by simp;omega)]
 simp only [aG,ab]
 rw [w64 (by simp;omega)]
 rw [show ((List.length (h++[x]):Int)-1)=(h.length:Int) by simp]
 obtain ⟨l,h1,p⟩:=Sm au (h++[x]) h.length (by simp) (by simp;omega) (by show _<2^64;omega)
 exact ⟨l,by rw [h1];rfl,p.trans (List.perm_append_comm)⟩
theorem Kq {i0:Int} {m:Nat}: ∀ (n:Nat) (l:List Int) (i:Nat),m<l.length→l.length<1099511627776→i<l.length→l.length-i<n→ ∃ b l',aq (dP i0 (m:Int)) n (l,(i:Int))=some (b,l')∧l'.Perm l∧l'[m]? =l[m]?
 | 0,_,_,_,_,_,h=>by omega
 | n+1,l,i,hm,hl,hi,hn=>by
  rw [aE]
  unfold dP
  simp only [aP]
  rw [w64 (x:=2*(i:Int)) (by omega),w64 (x:=2*(i:Int)+1) (by omega),w64 (x:=2*(i:Int)+1+1) (by omega)]
  by_cases h1:m≤2*i+1
  ·have:decide ((m:Int)≤2*(i:Int)+1)=true:=by simp;omega
   rw [this]
   exact ⟨_,l,rfl,.refl _,rfl⟩
  ·have:decide ((m:Int)≤2*(i:Int)+1)=false:=by simp;omega
   rw [this]
   have:decide (2*(i:Int)+1<0)=false:=by simp;omega
   rw [this]
   simp only [Bool.or_false,cond_false]
   have K: ∀ j:Nat,i<j→j<m→ ∃ b l',jr i0 l (i:Int) (aq (dP i0 (m:Int)) n) (j:Int)=some (b,l')∧l'.Perm l∧l'[m]? =l[m]? :=by
    intro j hij hjm
    unfold jr
    obtain ⟨b,hb⟩:=DF (h:=l) (i:=(j:Int)) (j:=(i:Int)) (by omega) (by omega) (by omega) (by omega)
    rw [hb,ab]
    cases b
    ·exact ⟨_,l,rfl,.refl _,rfl⟩
    ·obtain ⟨l1,g1,p1,e1⟩:=Ea (h:=l) (i:=(i:Int)) (j:=(j:Int)) (by omega) (by omega) (by omega) (by omega)
     have g0:=g1
     obtain ⟨b,l2,g2,p2,q2⟩:=Kq (i0:=i0) (m:=m) n l1 j (by omega) (by omega) (by omega) (by omega)
     refine ⟨b,l2,?_,p2.trans p1,?_⟩
     ·simp only [Bool.not_true,cond_false,g1,ab]
      exact g2
     ·rw [q2]
      unfold cS at g0
      obtain ⟨x,_,g0⟩:=eP g0
      obtain ⟨y,_,g0⟩:=eP g0
      obtain ⟨z,_,g0⟩:=eP g0
      obtain ⟨u,_,g0⟩:=eP g0
      cases g0
      rw [List.getElem?_set_ne (show ((j:Nat):Int).toNat≠m by omega),List.getElem?_set_ne (show ((i:Nat):Int).toNat≠m by omega)]
   by_cases h2:2*i+2<m
   ·have:decide (2*(i:Int)+1+1<(m:Int))=true:=by simp;omega
    rw [this]
    obtain ⟨b,hb⟩:=DF (h:=l) (i:=2*(i:Int)+1+1) (j:=2*(i:Int)+1) (by omega) (by omega) (by omega) (by omega)
    simp only [bP,hb,ab,Bool.true_and]
    cases b
    ·exact K (2*i+1) (by omega) (by omega)
    ·exact K (2*i+2) (by omega) (by omega)
   ·have:decide (2*(i:Int)+1+1<(m:Int))=false:=by simp;omega
    rw [this]
    simp only [cU,Bool.false_and,cond_false]
    exact K (2*i+1) (by omega) (by omega)
theorem Vf {h:List Int} (h0:h≠[]) (hl:h.length<1099511627776): ∃ x h',iZ h=some (x,h')∧(x::h').Perm h:=by
 have hp:0<h.length:=List.length_pos_iff.2 h0
 unfold iZ fN
 rw [ab,w64 (by omega),show ((h.length:Int)-1)=((h.length-1:Nat):Int) by omega]
 obtain ⟨l1,h1,p1,e1⟩:=Ea (h:=h) (i:=0) (j:=((h.length-1:Nat):Int)) (by omega) (by omega) (by omega) (by omega)
 rw [h1,ab]
 unfold kV
 obtain ⟨b,l2,h2,p2,_⟩:=Kq (i0:=0) (m:=h.length-1) au l1 0 (by omega) (by omega) (by omega) (by show _<2^64;omega)
 have h2:aq (dP 0 ((h.length-1:Nat):Int)) au (l1,0)=some (b,l2):=h2
 rw [h2,ab]
 unfold ot
 simp only []
 have hl2:l2.length=h.length:=by rw [p2.length_eq,e1]
 rw [w64 (by omega),show ((List.length l2:Int)-1)=((l2.length-1:Nat):Int) by omega,bA (by omega)]
 simp only [ab]
 rw [rK.2 (by omega),aG]
 refine ⟨_,_,rfl,?_⟩
 have:bd l2 0 ((l2.length-1:Nat):Int)=l2.take (l2.length-1):=by simp [bd]
 rw [this]
 refine List.Perm.trans ?_ (p2.trans p1)
 have e:l2=l2.take (l2.length-1)++[l2[l2.length-1]'(by omega)]:=by
  conv=>lhs;rw [← List.take_append_drop (l2.length-1) l2]
  congr 1
  rw [List.drop_eq_getElem_cons (by omega),List.drop_eq_nil_of_le (by omega)]
 conv=>rhs;rw [e]
 exact (List.perm_append_comm (l₁:=[_]))
end Df
end Go.Proofs.YtgcgmclghbebjaaGreat
namespace Go.Proofs.YtgcgmclghbebjaaGreat
namespace Df
abbrev Nd:=List (Int×Int)×Int
noncomputable def nx (N:List Nd) (i:Int):List (Int×Int):=((idx N i).getD ([],0)).1
noncomputable def rf (N:List Nd) (i:Int):Int:=((idx N i).getD ([],0)).2
noncomputable def tg (N:List Nd) (i:Int):List Int:=(nx N i).map (·.2)
theorem qh {N:List Nd} {i:Int} (h0:0≤i) (h:i<N.length):idx N i=some (nx N i,rf N i):=by
 obtain ⟨x,hx⟩:=zy h0 h
 simp [nx,rf,hx]
theorem yG {N:List Nd} {i j:Int} {x:Nd} (h0:0≤i) (hi:i<N.length):nx (N.set i.toNat x) j=if j=i then x.1 else nx N j:=by
 unfold nx;rw [KR h0 hi];split <;> rfl
theorem yF {N:List Nd} {i j:Int} {x:Nd} (h0:0≤i) (hi:i<N.length):rf (N.set i.toNat x) j=if j=i then x.2 else rf N j:=by
 unfold rf;rw [KR h0 hi];split <;> rfl
noncomputable def n8 (l:List (Int×Int)):Prop:=l.Pairwise (fun a b=>a.1<b.1)∧ ∀ e∈l,0≤e.1∧e.1<256
noncomputable def At (N:List Nd) (A:List Int):Nat→Int→Prop
 | 0,i=>i∈A∧nx N i=[]
 | h+1,i=>i∈A∧nx N i≠[]∧n8 (nx N i)∧ ∀ e∈nx N i,At N A h e.2
theorem At.mem {N:List Nd} {A:List Int}: ∀ {h:Nat} {i:Int},At N A h i→i∈A
 | 0,_,a=>a.1
 | _+1,_,a=>a.1
theorem At.zZ {N:List Nd} {A:List Int}: ∀ {h:Nat} {i:Int},At N A h i→n8 (nx N i)
 | 0,_,a=>by rw [a.2];exact ⟨List.Pairwise.nil,by simp⟩
 | _+1,_,a=>a.2.2.1
theorem At.uniq {N:List Nd} {A:List Int}: ∀ {h k:Nat} {i:Int},At N A h i→At N A k i→h=k
 | 0,0,_,_,_=>rfl
 | 0,_+1,_,a,b=>absurd a.2 b.2.1
 | _+1,0,_,a,b=>absurd b.2 a.2.1
 | h+1,k+1,i,a,b=>by
  obtain ⟨e,he⟩:=List.exists_mem_of_ne_nil _ a.2.1
  rw [At.uniq (a.2.2.2 e he) (b.2.2.2 e he)]
theorem At.bm {N N':List Nd} {A A':List Int} (hn: ∀ j∈A',j∈A→nx N' j=nx N j) (hc: ∀ j∈A',j∈A→ ∀ e∈nx N j,e.2∈A→e.2∈A'): ∀ {h:Nat} {i:Int},At N A h i→i∈A'→At N' A' h i
 | 0,_,a,m=>⟨m,by rw [hn _ m a.1];exact a.2⟩
 | h+1,i,a,m=>by
  have e:=hn i m a.1
  exact ⟨m,by rw [e];exact a.2.1,by rw [e];exact a.2.2.1,fun x hx=>by
   rw [e] at hx
   exact At.bm hn hc (a.2.2.2 x hx) (hc i m a.1 x hx (a.2.2.2 x hx).mem)⟩
theorem At.grow {N N':List Nd} {A A':List Int} (hs: ∀ j∈A,j∈A') (hn: ∀ j∈A,nx N' j=nx N j) {h:Nat} {i:Int} (a:At N A h i):At N' A' h i:=
 a.bm (fun j _ hj=>hn j hj) (fun _ _ _ _ _ h=>hs _ h) (hs _ a.mem)
noncomputable def acc (N:List Nd):List Int→Int→Prop
 | [],_=>True
 | b::w,i=> ∃ e∈nx N i,e.1=b∧acc N w e.2
theorem acc.same {N N':List Nd} {A:List Int} (hn: ∀ j∈A,nx N' j=nx N j): ∀ {h:Nat} {i:Int},At N A h i→ ∀ {w:List Int},w.length=h→(acc N' w i↔acc N w i)
 | 0,_,_,[],_=>Iff.rfl
 | h+1,i,a,b::w,hw=>by
  unfold acc
  rw [hn i a.1]
  exact exists_congr fun e=>⟨fun ⟨m,x,y⟩=>⟨m,x,(acc.same hn (a.2.2.2 e m) (by simpa using hw)).1 y⟩,fun ⟨m,x,y⟩=>⟨m,x,(acc.same hn (a.2.2.2 e m) (by simpa using hw)).2 y⟩⟩
theorem IS {l:List (Int×Int)} (h:n8 l) {a b:Int×Int} (ha:a∈l) (hb:b∈l) (e:a.1=b.1):a=b:=by
 replace h:=h.1
 induction l with
 | nil=>cases ha
 | cons x l ih=>
  have hp:=List.pairwise_cons.1 h
  rcases List.mem_cons.1 ha with h1 | h1 <;> rcases List.mem_cons.1 hb with h2 | h2
  ·rw [h1,h2]
  ·have:=hp.1 b h2;rw [h1] at e;omega
  ·have:=hp.1 a h1;rw [h2] at e;omega
  ·exact ih h1 h2 hp.2
theorem BX {N:List Nd} {i b:Int} {w:List Int} (hr:n8 (nx N i)) {e:Int×Int} (he:e∈nx N i) (hb:e.1=b):acc N (b::w) i↔acc N w e.2:=
 ⟨fun ⟨x,hx,hxb,h⟩=>by rw [IS hr he hx (by omega)];exact h,fun h=>⟨e,he,hb,h⟩⟩
theorem At.some {N:List Nd} {A:List Int}: ∀ {h:Nat} {i:Int},At N A h i→ ∃ w,w.length=h∧acc N w i
 | 0,_,_=>⟨[],rfl,trivial⟩
 | h+1,i,a=>by
  obtain ⟨e,he⟩:=List.exists_mem_of_ne_nil _ a.2.1
  obtain ⟨w,hw,ha⟩:=(a.2.2.2 e he).some
  exact ⟨e.1::w,by simp [hw],e,he,rfl,ha⟩
theorem Ro {l m:List (Int×Int)} (hl:n8 l) (hm:n8 m) (h: ∀ x,x∈l↔x∈m):l=m:=
 Kn (R:=fun a b=>a.1<b.1) (fun a=>by omega) (fun a b=>by omega) hl.1 hm.1 h
theorem At.inj {N:List Nd} {A:List Int} (hd: ∀ i∈A,∀ j∈A,nx N i=nx N j→i=j): ∀ {h:Nat} {i j:Int},At N A h i→At N A h j→(∀ w,w.length=h→(acc N w i↔acc N w j))→i=j
 | 0,i,j,a,b,_=>hd i a.1 j b.1 (by rw [a.2,b.2])
 | h+1,i,j,a,b,e=>hd i a.1 j b.1 (by
  have half: ∀ {i j:Int},At N A (h+1) i→At N A (h+1) j→(∀ w,w.length=h+1→(acc N w i↔acc N w j))→ ∀ x∈nx N i,x∈nx N j:=by
   intro i j a b e x hx
   obtain ⟨w,hw,hacc⟩:=(a.2.2.2 x hx).some
   obtain ⟨y,hy,hyx,_⟩:=(e (x.1::w) (by simp [hw])).1 ⟨x,hx,rfl,hacc⟩
   have:x.2=y.2:=At.inj hd (a.2.2.2 x hx) (b.2.2.2 y hy) fun v hv=>by
    have:=e (x.1::v) (by simp [hv])
    rwa [BX a.2.2.1 hx rfl,BX b.2.2.1 hy hyx] at this
   have:x=y:=Prod.ext hyx.symm this
   rw [this];exact hy
  exact Ro a.2.2.1 b.2.2.1 fun x=>⟨half a b e x,half b a (fun w hw=>(e w hw).symm) x⟩)
structure Inv (N:List Nd) (F Z A X T:List Int) (W:Nat):Prop where
 nd:(A++F++Z).Nodup
 rng: ∀ i,i∈A++F++Z↔0≤i∧i<N.length
 cnt: ∀ i,rf N i=((A.flatMap (tg N)++X).count i:Nat)
 dead: ∀ i,i∉A→rf N i=0
 top: ∀ i∈A,rf N i=0→i∈T
 dist: ∀ i∈A,∀ j∈A,nx N i=nx N j→i=j
 good: ∀ i∈A,∃ h,h≤W∧At N A h i
variable {N : List Nd} {F Z A X T : List Int} {W : Nat}
theorem Inv.range (I:Inv N F Z A X T W) {i:Int} (h:i∈A):0≤i∧i<N.length:=(I.rng i).1 (by simp [h])
theorem Inv.closed (I:Inv N F Z A X T W) {i:Int} (h:i∈A) {e:Int×Int} (he:e∈nx N i):e.2∈A:=by
 obtain ⟨k,_,a⟩:=I.good i h
 cases k with
 | zero=>rw [a.2] at he;cases he
 | succ k=>exact (a.2.2.2 e he).mem
theorem Inv.ext (I:Inv N F Z A X T W) {i:Int} (h:i∈X):i∈A:=by
 by_cases ha:i∈A
 ·exact ha
 ·have h1:=I.dead i ha
  have h2:=I.cnt i
  have:0<X.count i:=List.count_pos_iff.2 h
  rw [List.count_append] at h2;omega
theorem Inv.pos (I:Inv N F Z A X T W) (i:Int):0≤rf N i:=by rw [I.cnt];omega
theorem Inv.led (I:Inv N F Z A X T W) {j i:Int} (hj:j∈A) (h:i∈tg N j):0<rf N i:=by
 rw [I.cnt]
 have:0<(A.flatMap (tg N)++X).count i:=List.count_pos_iff.2 (by simp only [List.mem_append,List.mem_flatMap];exact .inl ⟨j,hj,h⟩)
 omega
end Df
end Go.Proofs.YtgcgmclghbebjaaGreat
namespace Go.Proofs.YtgcgmclghbebjaaGreat
namespace Df
theorem VE (x y:Int):gW x y=some (if x<y then -1 else if y<x then 1 else 0):=by
 unfold gW lR
 simp only [ab,show (x != x)=false by simp,show (y != y)=false by simp,cond_false]
 by_cases h:x<y
 ·simp [h]
 ·by_cases h':y<x <;> simp [h,h']
theorem SC (e:Int×Int) (y:Int):qk e y=some (if e.1<y then -1 else if y<e.1 then 1 else 0):=by
 unfold qk;rw [VE];rfl
theorem Ve {i j:Nat} (h:i+j<4611686018427387904):IntKind.i64.wrap (ar .u64 (IntKind.u64.wrap (IntKind.i64.wrap ((i:Int)+j))) 1)=(((i+j)/2:Nat):Int):=by
 rw [w64 (x:=(i:Int)+j) (by omega)]
 have:IntKind.u64.wrap ((i:Int)+j)=(i:Int)+j:=by
  show ((i:Int)+j)%(2^64)=_
  omega
 rw [this]
 have:ar .u64 ((i:Int)+j) 1=((i:Int)+j)/2:=rfl
 rw [this,w64 (by omega)];omega
theorem DP {x:List (Int×Int)} {t:Int} (hs:x.Pairwise (fun a b=>a.1<b.1)) (hx:x.length<1099511627776): ∀ (n i j:Nat),i≤j→j≤x.length→
  (∀ k (hk:k<x.length),k<i→x[k].1<t)→(∀ k (hk:k<x.length),j≤k→t≤x[k].1)→j-i<n→
  ∃ (m:Nat) (b:Bool),aq (bp x t) n ((i:Int),(j:Int))=some ((m:Int),b)∧m≤x.length∧(∀ k (hk:k<x.length),k<m→x[k].1<t)∧(∀ k (hk:k<x.length),m≤k→t≤x[k].1)∧(b=true↔ ∃ h:m<x.length,x[m].1=t)
 | 0,_,_,_,_,_,_,h=>by omega
 | n+1,i,j,hij,hj,h1,h2,hn=>by
  rw [aE]
  unfold bp
  have hp:=List.pairwise_iff_getElem.1 hs
  simp only [Ve (show i+j<_ by omega),aP]
  by_cases h:i<j
  ·rw [show decide ((i:Int)<(j:Int))=true by simpa using h,cond_true,bA (show (i+j)/2<x.length by omega),ab,SC,ab]
   by_cases hc:(x[(i+j)/2]'(by omega)).1<t
   ·simp only [hc,if_true,show decide ((-1:Int)<0)=true from rfl,cond_true]
    rw [ry (by omega)]
    exact DP hs hx n ((i+j)/2+1) j (by omega) hj (fun k hk hki=>by
     by_cases e:k=(i+j)/2
     ·subst e;exact hc
     ·have:=hp k ((i+j)/2) hk (by omega) (by omega);omega) h2 (by omega)
   ·have:decide ((if (x[(i+j)/2]'(by omega)).1<t then (-1:Int) else if t<(x[(i+j)/2]'(by omega)).1 then 1 else 0)<0)=false:=by
     simp only [hc,if_false];split <;> rfl
    rw [this,cond_false]
    exact DP hs hx n i ((i+j)/2) (by omega) (by omega) h1 (fun k hk hki=>by
     by_cases e:k=(i+j)/2
     ·subst e;omega
     ·have:=hp ((i+j)/2) k (by omega) hk (by omega);omega) (by omega)
  ·have:i=j:=by omega
   subst this
   rw [show decide ((i:Int)<(i:Int))=false by simp,cond_false]
   by_cases hl:i<x.length
   ·rw [show decide ((i:Int)<(List.length x:Int))=true by simpa using hl,bP,bA hl,ab,bP,SC,ab]
    refine ⟨i,_,rfl,hj,h1,h2,?_⟩
    have:=h2 i hl (Nat.le_refl _)
    simp only [hl,exists_true_left,Bool.true_and,beq_iff_eq]
    split
    ·omega
    ·split <;> omega
   ·rw [show decide ((i:Int)<(List.length x:Int))=false by simpa using hl,cU,cU]
    exact ⟨i,_,rfl,hj,h1,h2,by simp [hl]⟩
theorem Sq {x:List (Int×Int)} (t:Int) (hs:n8 x) (hx:x.length<1099511627776):
  ∃ (p q:List (Int×Int)),x=p++q∧(∀ e∈p,e.1<t)∧(∀ e∈q,t≤e.1)∧
   aO x t=some ((p.length:Int),(q.head?.map (·.1))==some t):=by
 obtain ⟨m,b,h,hm,h1,h2,hb⟩:=DP (t:=t) hs.1 hx au 0 x.length (by omega) (by omega) (fun k _ h=>by omega) (fun k h h'=>by omega) (by show _<2^64;omega)
 refine ⟨x.take m,x.drop m,(List.take_append_drop m x).symm,?_,?_,?_⟩
 ·intro e he
  obtain ⟨k,hk,rfl⟩:=List.getElem_of_mem he
  simp only [List.length_take] at hk
  rw [List.getElem_take];exact h1 k _ (by omega)
 ·intro e he
  obtain ⟨k,hk,rfl⟩:=List.getElem_of_mem he
  rw [List.getElem_drop];exact h2 (m+k) _ (by omega)
 ·unfold aO
  have h:aq (bp x t) au (0,(x.length:Int))=some ((m:Int),b):=h
  rw [h,List.length_take,Nat.min_eq_left hm]
  congr 2
  rw [Bool.eq_iff_iff,hb,beq_iff_eq,List.head?_drop]
  by_cases hl:m<x.length
  ·rw [List.getElem?_eq_getElem hl];simp [hl]
  ·rw [List.getElem?_eq_none (by omega)];simp [hl]
theorem UI:bn=aO:=rfl
theorem U4:zE=ql:=rfl
theorem Sv {d:Int×List Nd×Int×Int×List Int} {i:Int} (b:Int) (h0:0≤i) (hi:i<d.2.1.length) (hr:n8 (nx d.2.1 i)) (hl:(nx d.2.1 i).length<1099511627776):
  (∃ e∈nx d.2.1 i,e.1=b∧ql d i b=some e.2)∨((∀ e∈nx d.2.1 i,e.1≠b)∧ql d i b=some (-1)):=by
 obtain ⟨p,q,hx,hp,hq,h⟩:=Sq b hr hl
 unfold ql
 rw [show (i== -1)=false by simp;omega,cond_false,qh h0 hi]
 simp only [ab]
 rw [h,ab]
 cases q with
 | nil=>
  refine .inr ⟨fun e he=> ?_,rfl⟩
  rw [hx] at he
  have:=hp e (by simpa using he);omega
 | cons e q=>
  by_cases hb:e.1=b
  ·refine .inl ⟨e,by rw [hx];simp,hb,?_⟩
   simp only [List.head?_cons,Option.map_some,hb,beq_self_eq_true,Bool.not_true,cond_false]
   rw [vZ hx];rfl
  ·refine .inr ⟨fun x he=> ?_,?_⟩
   ·rw [hx] at he hr
    rcases List.mem_append.1 he with he | he
    ·have:=hp x he;omega
    ·rcases List.mem_cons.1 he with rfl | he'
     ·exact hb
     ·have h1:=(List.pairwise_cons.1 (List.pairwise_append.1 hr.1).2.1).1 x he'
      have h2:=hq e (by simp)
      omega
   ·have:((List.head? (e::q)).map (·.1)==some b)=false:=by simp [hb]
    rw [this];rfl
theorem KE {s1 s2:List (Int×Int)} (hl:s1.length=s2.length) (hb:s1.length<1099511627776): ∀ (n k:Nat),k≤s1.length→s1.length-k<n→
  aq (dO s1 s2) n (k:Int)=some (decide (s1.drop k=s2.drop k))
 | 0,_,_,h=>by omega
 | n+1,k,hk,hn=>by
  rw [aE]
  unfold dO
  by_cases h:k<s1.length
  ·rw [show decide ((k:Int)<(List.length s1:Int))=true by simpa using h,cond_true,bA h,bA (hl▸h)]
   simp only [ab]
   rw [ry (by omega),List.drop_eq_getElem_cons h,List.drop_eq_getElem_cons (show k<s2.length from hl▸h)]
   unfold NO
   by_cases e:s1[k]=s2[k]'(hl▸h)
   ·rw [← e]
    simp only [beq_self_eq_true,Bool.and_self,Bool.not_true,cond_false,List.cons.injEq,true_and]
    exact KE hl hb n (k+1) (by omega) (by omega)
   ·have:(s1[k].1==(s2[k]'(hl▸h)).1&&s1[k].2==(s2[k]'(hl▸h)).2)=false:=by
     rw [Bool.eq_false_iff];intro h'
     simp only [Bool.and_eq_true,beq_iff_eq] at h'
     exact e (Prod.ext h'.1 h'.2)
    rw [this]
    simp only [Bool.not_false,cond_true,Option.some.injEq]
    symm;rw [decide_eq_false_iff_not]
    intro h';exact e (List.cons.inj h').1
  ·rw [show decide ((k:Int)<(List.length s1:Int))=false by simpa using h,cond_false,List.drop_eq_nil_of_le (by omega),List.drop_eq_nil_of_le (by omega)];rfl
theorem VQ {s1 s2:List (Int×Int)} (hb:s1.length<1099511627776):db s1 s2=some (decide (s1=s2)):=by
 unfold db
 by_cases hl:s1.length=s2.length
 ·rw [show ((List.length s1:Int) != (List.length s2:Int))=false by simp [hl],cond_false]
  exact KE hl hb au 0 (by omega) (by show _<2^64;omega)
 ·have:s1≠s2:=fun e=>hl (by rw [e])
  rw [show ((List.length s1:Int) != (List.length s2:Int))=true by simp only [bne_iff_ne,ne_eq];omega,cond_true]
  simp [this]
theorem E5 {N:List Nd} {A:List Int} {y:List (Int×Bool)} {next:List (Int×Int)} (hv: ∀ i:Int,0≤i→i<N.length→((0<rf N i∨dL (some y) i false=true)↔i∈A)) (hb: ∀ i∈A,(nx N i).length<1099511627776) (hN:N.length<1099511627776): ∀ (n k:Nat),k≤N.length→N.length-k<n→
  (∃ i:Int,aq (dT next N (some y)) n (k:Int)=some (i,true)∧i∈A∧0≤i∧i<N.length∧nx N i=next)∨
  (aq (dT next N (some y)) n (k:Int)=some (-1,false)∧ ∀ i∈A,(k:Int)≤i→i<N.length→nx N i≠next)
 | 0,_,_,h=>by omega
 | n+1,k,hk,hn=>by
  rw [aE]
  unfold dT
  by_cases h:k<N.length
  ·rw [show decide ((k:Int)<(List.length N:Int))=true by simpa using h,cond_true,qh (by omega) (by omega)]
   simp only [ab,aP]
   rw [ry (by omega)]
   have ih:=E5 (next:=next) hv hb hN n (k+1) (by omega) (by omega)
   have hk':=hv (k:Int) (by omega) (by omega)
   have go:(∀ x:Int,x∈A→x=(k:Int)→nx N x≠next)→(∃ i:Int,aq (dT next N (some y)) n ((k+1:Nat):Int)=some (i,true)∧i∈A∧0≤i∧i<N.length∧nx N i=next)∨
     (aq (dT next N (some y)) n ((k+1:Nat):Int)=some (-1,false)∧ ∀ i∈A,(k:Int)≤i→i<N.length→nx N i≠next):=by
    intro hne
    rcases ih with h | ⟨h1,h2⟩
    ·exact .inl h
    ·exact .inr ⟨h1,fun i hi hki hiN=>by
      by_cases e:i=(k:Int)
      ·exact hne i hi e
      ·exact h2 i hi (by omega) hiN⟩
   by_cases ha:(k:Int)∈A
   ·have:(decide (0<rf N (k:Int))||dL (some y) (k:Int) false)=true:=by simpa using hk'.2 ha
    rw [this,bP,VQ (hb _ ha),ab]
    by_cases he:nx N (k:Int)=next
    ·left
     exact ⟨(k:Int),by simp [he],ha,by omega,by omega,he⟩
    ·simp only [he,decide_false,Bool.and_false,cond_false]
     exact go fun x _ e=>by rw [e];exact he
   ·have:(decide (0<rf N (k:Int))||dL (some y) (k:Int) false)=false:=by
     rw [Bool.eq_false_iff];intro h';exact ha (hk'.1 (by simpa using h'))
    rw [this,cU]
    simp only [Bool.false_and,cond_false]
    exact go fun x hx e=>absurd (e▸hx) ha
  ·rw [show decide ((k:Int)<(List.length N:Int))=false by simpa using h,cond_false]
   exact .inr ⟨rfl,fun i _ h1 h2=>by omega⟩
end Df
end Go.Proofs.YtgcgmclghbebjaaGreat
namespace Go.Proofs.YtgcgmclghbebjaaGreat
namespace Df
theorem oY {l:List (Int×Int)} (h:n8 l):l.length≤256:=by
 have h1:(l.map (·.1)).Nodup:=by
  refine List.pairwise_map.2 (h.1.imp ?_)
  intro a b h;omega
 have:=HY h1 (m:=(List.range 256).map Int.ofNat) fun x hx=>by
  obtain ⟨e,he,rfl⟩:=List.mem_map.1 hx
  have:=h.2 e he
  exact List.mem_map.2 ⟨e.1.toNat,by simp;omega,by simp;omega⟩
 simpa using this
theorem Oc {l:List (Int×Bool)} {r i:Int}:kS (kI l r true) i=if i=r then some true else kS l i:=by
 induction l with
 | nil=>
  by_cases h:i=r
  ·subst h;simp [kI,kS]
  ·simp [kI,kS,h,show (i==r)=false by simpa using h]
 | cons p l ih=>
  unfold kI
  by_cases h:r=p.1
  ·subst h
   simp only [beq_self_eq_true,cond_true]
   by_cases h':i=p.1
   ·subst h';simp [kS]
   ·simp [kS,h',show (i==p.1)=false by simpa using h']
  ·simp only [show (r==p.1)=false by simpa using h,cond_false]
   by_cases h':i=p.1
   ·subst h';simp [kS,Ne.symm h]
   ·simp only [kS,show (i==p.1)=false by simpa using h',cond_false,ih]
theorem CH {l:List (Int×Bool)} {r i:Int}:dL (some (kI l r true)) i false=true↔i=r∨dL (some l) i false=true:=by
 unfold dL
 simp only [Option.getD_some,Oc]
 by_cases h:i=r <;> simp [h]
theorem PR {N:List Nd} {F A X T:List Int} {W:Nat} (I:Inv N F [] A X T W) (hN:N.length<1099511627775) (wi ro ma:Int) (y:Option (List (Int×Bool))):
  ∃ i N1 F1,l7 wi N ro ma F y=some (i,N1,F1)∧(i::(A++F1)).Nodup∧(∀ j,j∈i::(A++F1)↔0≤j∧j<N1.length)∧(∀ j,j≠i→nx N1 j=nx N j∧rf N1 j=rf N j)∧rf N i=0∧N1.length≤N.length+1:=by
 unfold l7
 have hnd:=I.nd;have hr:=I.rng
 simp only [List.append_nil] at hnd hr
 by_cases h0:F=[]
 ·subst h0
  simp only [List.append_nil] at hnd hr
  rw [show ((List.length ([]:List Int):Int)==0)=true from rfl,cond_true,bg (by simp;omega) (by simp;omega),aG]
  have hn:((N.length:Nat):Int)∉A:=fun h=>by have:=(hr _).1 h;omega
  refine ⟨(N.length:Nat),N++[([],0)],[],?_,?_,?_,?_,I.dead _ hn,by simp⟩
  ·rw [w64 (by simp;omega)];simp
  ·simp only [List.append_nil];exact List.nodup_cons.2 ⟨hn,hnd⟩
  ·intro j
   simp only [List.append_nil,List.mem_cons,hr j,List.length_append,List.length_cons,List.length_nil]
   omega
  ·intro j hj
   have:idx (N++[([],0)]) j=idx N j:=by
    unfold idx
    split
    ·by_cases h:j.toNat<N.length
     ·rw [List.getElem?_append_left h]
     ·rw [List.getElem?_eq_none (by simp;omega),List.getElem?_eq_none (by omega)]
    ·rfl
   unfold nx rf
   rw [this];exact ⟨rfl,rfl⟩
 ·rw [show ((List.length F:Int)==0)=false by simpa using h0,cond_false]
  have hF:F.length≤N.length:=by
   have:=HY (l:=F) (List.nodup_append.1 hnd).2.1 (m:=(List.range N.length).map Int.ofNat) fun x hx=>by
    have:=(hr x).1 (by simp [hx])
    exact List.mem_map.2 ⟨x.toNat,by simp;omega,by simp;omega⟩
   simpa using this
  obtain ⟨x,F1,h,p⟩:=Vf h0 (by omega)
  rw [h,ab]
  have p2:(x::(A++F1)).Perm (A++F):=(List.perm_middle.symm).trans (List.Perm.append_left A p)
  refine ⟨x,N,F1,rfl,p2.nodup_iff.2 hnd,fun j=>(p2.mem_iff).trans (hr j),fun _ _=>⟨rfl,rfl⟩,I.dead x ?_,by omega⟩
  intro hx
  have:=(List.nodup_cons.1 (p2.nodup_iff.2 hnd)).1
  exact this (by simp [hx])
theorem Vt {next:List (Int×Int)} {r:Int×List Nd×List Int} {m:List (Int×Bool)} (hx:next.length<1099511627776): ∀ (q p:List (Int×Int)),next=p++q→ ∀ (l:List Nd),(∀ e∈q,0≤e.2∧e.2<l.length)→(∀ j,0≤rf l j∧rf l j+q.length<1099511627776)→
  ∀ n,q.length<n→ ∃ l',aq (hU next r m) n (l,(p.length:Int))=some (r.1,l',r.2.2,some (kI m r.1 true))∧l'.length=l.length∧(∀ j,nx l' j=nx l j)∧ ∀ j,rf l' j=rf l j+((q.map (·.2)).count j:Nat)
 | [],p,h,l,_,_,n,hn=>by
  obtain ⟨n,rfl⟩: ∃ k,n=k+1:=⟨n-1,by simp at hn;omega⟩
  rw [aE]
  unfold hU
  dsimp only
  rw [cT h,cond_false]
  exact ⟨l,rfl,rfl,fun _=>rfl,fun _=>by simp⟩
 | e::q,p,h,l,hq,hb,n,hn=>by
  obtain ⟨n,rfl⟩: ∃ k,n=k+1:=⟨n-1,by simp at hn;omega⟩
  rw [aE]
  unfold hU
  have he:=hq e (by simp)
  have hbe:=hb e.2
  simp only [List.length_cons] at hb hbe
  dsimp only
  rw [cj h,cond_true,vZ h]
  simp only [ab]
  rw [qh he.1 he.2]
  simp only [ab]
  have hp:p.length<1099511627776:=by rw [h] at hx;simp at hx;omega
  rw [ry (by omega),w64 (by omega)]
  have hnx: ∀ j,nx (l.set e.2.toNat (nx l e.2,rf l e.2+1)) j=nx l j:=fun j=>by
   rw [yG he.1 he.2];split
   ·rename_i h;rw [h]
   ·rfl
  have hrf: ∀ j,rf (l.set e.2.toNat (nx l e.2,rf l e.2+1)) j=if j=e.2 then rf l j+1 else rf l j:=fun j=>by
   rw [yF he.1 he.2];split
   ·rename_i h;rw [h]
   ·rfl
  obtain ⟨l',h1,h2,h3,h4⟩:=Vt (r:=r) (m:=m) hx q (p++[e]) (by rw [h];simp) (l.set e.2.toNat (nx l e.2,rf l e.2+1)) (fun x hx=>by
   rw [List.length_set];exact hq x (by simp [hx])) (fun j=>by
   rw [hrf];have:=hb j;split <;> omega) n (by simp at hn;omega)
  refine ⟨l',?_,by rw [h2,List.length_set],fun j=>(h3 j).trans (hnx j),fun j=> ?_⟩
  ·rw [show ((p.length+1:Nat):Int)=((p++[e]).length:Int) by simp];exact h1
  ·rw [h4,hrf,List.map_cons,List.count_cons]
   by_cases hj:j=e.2
   ·subst hj;simp;omega
   ·have hj': ¬ e.2=j:=fun h=>hj h.symm
    simp [hj,hj']
theorem KJ {N:List Nd} {F A X T:List Int} {W h:Nat} {y:List (Int×Bool)} {next:List (Int×Int)} (I:Inv N F [] A X T W) (hN:N.length<1099511627775) (hb: ∀ j,rf N j<549755813888)
  (hy1: ∀ i,dL (some y) i false=true→i∈A) (hy2: ∀ i∈A,rf N i=0→dL (some y) i false=true)
  (hr:n8 next) (hW:h≤W) (hk:(h=0∧next=[])∨ ∃ k,h=k+1∧next≠[]∧ ∀ e∈next,At N A k e.2) (hT: ∀ t∈T,t∈next.map (·.2)) (wi ro ma:Int):
  ∃ r N' F' y' A',kL next wi N ro ma F (some y)=some (r,N',F',some y')∧Inv N' F' [] A' X [r] W∧nx N' r=next∧(∀ j∈A,j∈A'∧nx N' j=nx N j)∧At N' A' h r∧
   (∀ i,dL (some y') i false=true→i∈A')∧(∀ i∈A',rf N' i=0→dL (some y') i false=true)∧N'.length≤N.length+1∧ ∀ j,rf N' j≤256+rf N j:=by
 have hlen:=oY hr
 have hkA: ∀ e∈next,e.2∈A:=by
  rcases hk with ⟨_,rfl⟩ | ⟨k,_,_,h⟩
  ·intro e he;cases he
  ·exact fun e he=>(h e he).mem
 have hat: ∀ {N' A'},(∀ j∈A,j∈A')→(∀ j∈A,nx N' j=nx N j)→ ∀ r∈A',nx N' r=next→At N' A' h r:=by
  intro N' A' h1 h2 r hr' hn
  rcases hk with ⟨rfl,h⟩ | ⟨k,rfl,hne,h⟩
  ·exact ⟨hr',by rw [hn,h]⟩
  ·exact ⟨hr',by rw [hn];exact hne,by rw [hn];exact hr,fun e he=>by rw [hn] at he;exact (h e he).grow h1 h2⟩
 unfold kL
 have hv: ∀ i:Int,0≤i→i<N.length→((0<rf N i∨dL (some y) i false=true)↔i∈A):=fun i _ _=>by
  constructor
  ·rintro (h | h)
   ·by_cases ha:i∈A
    ·exact ha
    ·have:=I.dead i ha;omega
   ·exact hy1 i h
  ·intro ha
   have:=I.pos i
   by_cases h0:rf N i=0
   ·exact .inr (hy2 i ha h0)
   ·exact .inl (by omega)
 have hs:=E5 (next:=next) hv (fun i hi=>by
  obtain ⟨k,_,a⟩:=I.good i hi
  have:=oY a.zZ;omega) (by omega) au 0 (by omega) (by show _<2^64;omega)
 have he:qA next wi N ro ma F (some y)=aq (dT next N (some y)) au ((0:Nat):Int):=rfl
 rw [he]
 rcases hs with ⟨i,h1,h2,h3,h4,h5⟩ | ⟨h1,h2⟩
 ·rw [h1]
  refine ⟨i,N,F,y,A,rfl,⟨I.nd,I.rng,I.cnt,I.dead,fun j hj h0=> ?_,I.dist,I.good⟩,h5,fun j hj=>⟨hj,rfl⟩,hat (fun _ h=>h) (fun _ _=>rfl) i h2 h5,hy1,hy2,by omega,fun j=>by omega⟩
  have:=hT j (I.top j hj h0)
  have:=I.led h2 (i:=j) (by unfold tg;rw [h5];exact this)
  omega
 ·rw [h1]
  simp only [ab,cond_false]
  obtain ⟨i,N1,F1,g1,g2,g3,g4,g5,g6⟩:=PR I hN wi ro ma (some y)
  rw [g1]
  simp only [ab]
  have hi:=(g3 i).1 (by simp)
  obtain ⟨x,hx⟩:=zy hi.1 hi.2
  rw [hx]
  simp only [ab]
  have hiA:i∉A:=fun h=>(List.nodup_cons.1 g2).1 (by simp [h])
  have n1: ∀ j,nx (N1.set i.toNat (next,0)) j=if j=i then next else nx N j:=fun j=>by
   rw [yG hi.1 hi.2];split
   ·rfl
   ·rename_i h;exact (g4 j h).1
  have r1: ∀ j,rf (N1.set i.toNat (next,0)) j=rf N j:=fun j=>by
   rw [yF hi.1 hi.2];split
   ·rename_i h;rw [h,g5]
   ·rename_i h;exact (g4 j h).2
  obtain ⟨N',e1,e2,e3,e4⟩:=Vt (next:=next) (r:=(i,N1,F1)) (m:=y) (by omega) next [] rfl (N1.set i.toNat (next,0)) (fun e he=>by
   rw [List.length_set];exact (g3 _).1 (by simp [hkA e he])) (fun j=>by
   rw [r1];have:=I.pos j;have:=hb j;omega) au (by show _<2^64;omega)
  have e1:aq (hU next (i,N1,F1) y) au (N1.set i.toNat (next,0),0)=some (i,N',F1,some (kI y i true)):=e1
  rw [e1]
  have nA: ∀ j∈A,nx N' j=nx N j:=fun j hj=>by
   rw [e3,n1,if_neg (fun h=>hiA (by rw [← h];exact hj))]
  have nI:nx N' i=next:=by rw [e3,n1,if_pos rfl]
  have rJ: ∀ j,rf N' j=rf N j+((next.map (·.2)).count j:Nat):=fun j=>by rw [e4,r1]
  have tJ: ∀ j∈A,tg N' j=tg N j:=fun j hj=>by unfold tg;rw [nA j hj]
  have tA:A.flatMap (tg N')=A.flatMap (tg N):=by rw [List.flatMap_def,List.flatMap_def,List.map_congr_left tJ]
  have cI: ∀ j,rf N' j=(((i::A).flatMap (tg N')++X).count j:Nat):=fun j=>by
   rw [rJ,I.cnt,List.flatMap_cons,tA,List.append_assoc,List.count_append (l₁:=tg N' i)]
   unfold tg;rw [nI];omega
  refine ⟨i,N',F1,kI y i true,i::A,rfl,⟨?_,?_,cI,?_,?_,?_,?_⟩,nI,fun j hj=>⟨by simp [hj],nA j hj⟩,hat (fun j hj=>by simp [hj]) nA i (by simp) nI,?_,?_,?_,?_⟩
  ·simp only [List.append_nil];exact g2
  ·intro j;simp only [List.append_nil];rw [e2,List.length_set];exact g3 j
  ·intro j hj
   simp only [List.mem_cons,not_or] at hj
   rw [rJ,I.dead j hj.2,List.count_eq_zero.2]
   ·rfl
   ·intro h
    obtain ⟨e,he,rfl⟩:=List.mem_map.1 h
    exact hj.2 (hkA e he)
  ·intro j hj h0
   rcases List.mem_cons.1 hj with rfl | hj
   ·simp
   ·have:=rJ j
    have:=I.pos j
    have h:=hT j (I.top j hj (by omega))
    have:=List.count_pos_iff.2 h
    omega
  ·intro a ha b hb' hab
   rcases List.mem_cons.1 ha with h4 | h4 <;> rcases List.mem_cons.1 hb' with h5 | h5
   ·rw [h4,h5]
   ·rw [h4,nI,nA b h5] at hab
    exact absurd hab.symm (h2 b h5 (by have:=I.range h5;omega) (I.range h5).2)
   ·rw [h5,nI,nA a h4] at hab
    exact absurd hab (h2 a h4 (by have:=I.range h4;omega) (I.range h4).2)
   ·rw [nA a h4,nA b h5] at hab
    exact I.dist a h4 b h5 hab
  ·intro j hj
   rcases List.mem_cons.1 hj with rfl | hj
   ·exact ⟨h,hW,hat (fun j hj=>by simp [hj]) nA _ (by simp) nI⟩
   ·obtain ⟨k,hk,a⟩:=I.good j hj
    exact ⟨k,hk,a.grow (fun j hj=>by simp [hj]) nA⟩
  ·intro j hj
   rcases CH.1 hj with rfl | hj
   ·simp
   ·simp [hy1 j hj]
  ·intro j hj h0
   rw [CH]
   rcases List.mem_cons.1 hj with rfl | hj
   ·exact .inl rfl
   ·have:=rJ j
    have:=I.pos j
    exact .inr (hy2 j hj (by omega))
  ·rw [e2,List.length_set];exact g6
  ·intro j
   rw [rJ]
   have:=List.count_le_length (a:=j) (l:=next.map (·.2))
   simp at this;omega
end Df
end Go.Proofs.YtgcgmclghbebjaaGreat
namespace Go.Proofs.YtgcgmclghbebjaaGreat
namespace Df
theorem TG {ρ:Type} {x:List (Int×Int)} (hx:n8 x) {b r:Int} (hb:0≤b∧b<256) (K:List (Int×Int)→Option ρ):
  ∃ y,n8 y∧y≠[]∧(∀ e,e∈y↔e=(b,r)∨(e∈x∧e.1≠b))∧
   ((bn x b).bind fun r46=>
    bif r46.2 then ((idx x r46.1).bind fun _=>K (List.set x (Int.toNat r46.1) (b,r)))
    else (chk (qF r46.1 (List.length x))<|chk (aw (List.length x+List.length ([(b,r)]:List (Int×Int))) 16)<|K (ik x r46.1 ([(b,r)]:List (Int×Int)))))=K y:=by
 have hl:=oY hx
 obtain ⟨p,q,e,hp,hq,h⟩:=Sq b hx (by omega)
 rw [UI,h]
 simp only [ab]
 have hR:=hx
 rw [e] at hR
 have hA:=List.pairwise_append.1 hR.1
 have mk: ∀ q':List (Int×Int),q'.Pairwise (fun a b=>a.1<b.1)→(∀ e∈q',b<e.1)→(∀ e∈q',e∈q)→n8 (p++(b,r)::q'):=by
  intro q' h1 h2 h3
  refine ⟨List.pairwise_append.2 ⟨hA.1,List.pairwise_cons.2 ⟨h2,h1⟩,?_⟩,?_⟩
  ·intro u hu v hv
   rcases List.mem_cons.1 hv with rfl | hv
   ·exact hp u hu
   ·exact hA.2.2 u hu v (h3 v hv)
  ·intro u hu
   rcases List.mem_append.1 hu with hu | hu
   ·exact hR.2 u (by simp [hu])
   ·rcases List.mem_cons.1 hu with rfl | hu
    ·exact hb
    ·exact hR.2 u (by simp [h3 u hu])
 have out: ∀ q':List (Int×Int),(∀ e∈q',b<e.1)→chk (qF (p.length:Int) (List.length x)) (chk (aw (List.length x+List.length ([(b,r)]:List (Int×Int))) 16) (K (ik x (p.length:Int) [(b,r)])))=K (p++(b,r)::q):=by
  intro _ _
  rw [Ho.2 (by rw [e];simp;omega),bg (by simp;omega) (by simp;omega),aG,aG]
  congr 1
  unfold ik
  rw [e];simp
 cases q with
 | nil=>
  refine ⟨p++[(b,r)],mk [] .nil (by simp) (by simp),by simp,fun u=> ?_,?_⟩
  ·rw [e]
   simp only [List.mem_append,List.mem_singleton,List.append_nil]
   constructor
   ·rintro (h | h)
    ·exact .inr ⟨h,by have:=hp u h;omega⟩
    ·exact .inl h
   ·rintro (h | h)
    ·exact .inr h
    ·exact .inl h.1
  ·exact out [] (by simp)
 | cons z q=>
  have hz:=List.pairwise_cons.1 hA.2.1
  by_cases hb':z.1=b
  ·refine ⟨p++(b,r)::q,mk q hz.2 (fun u hu=>by have:=hz.1 u hu;omega) (by simp+contextual),by simp,fun u=> ?_,?_⟩
   ·rw [e]
    simp only [List.mem_append,List.mem_cons]
    constructor
    ·rintro (h | h | h)
     ·exact .inr ⟨.inl h,by have:=hp u h;omega⟩
     ·exact .inl h
     ·exact .inr ⟨.inr (.inr h),by have:=hz.1 u h;omega⟩
    ·rintro (h | ⟨h | h | h,hn⟩)
     ·exact .inr (.inl h)
     ·exact .inl h
     ·rw [h] at hn;exact absurd hb' hn
     ·exact .inr (.inr h)
   ·simp only [List.head?_cons,Option.map_some,hb',beq_self_eq_true,cond_true]
    rw [vZ e]
    simp only [ab,Int.toNat_natCast]
    rw [e];simp
  ·have hlt:b<z.1:=by have:=hq z (by simp);omega
   refine ⟨p++(b,r)::z::q,mk (z::q) hA.2.1 (fun u hu=>by
    rcases List.mem_cons.1 hu with rfl | hu
    ·exact hlt
    ·have:=hz.1 u hu;omega) (fun _ h=>h),by simp,fun u=> ?_,?_⟩
   ·rw [e]
    simp only [List.mem_append,List.mem_cons]
    constructor
    ·rintro (h | h | h | h)
     ·exact .inr ⟨.inl h,by have:=hp u h;omega⟩
     ·exact .inl h
     ·exact .inr ⟨.inr (.inl h),by rw [h];omega⟩
     ·exact .inr ⟨.inr (.inr h),by have:=hz.1 u h;omega⟩
    ·rintro (h | ⟨h | h | h,hn⟩)
     ·exact .inr (.inl h)
     ·exact .inl h
     ·exact .inr (.inr (.inl h))
     ·exact .inr (.inr (.inr h))
   ·have:((List.head? (z::q)).map (·.1)==some b)=false:=by simp [hb']
    rw [this,cond_false]
    exact out [] (by simp)
abbrev SP:=Int×List Int×Int×List Nd×Int×Int×List Int×Option (List (Int×Bool))
abbrev RP:=Int×List Nd×List Int×Option (List (Int×Bool))
noncomputable def PUT (k:SP→Option RP) (s:SP):Option RP:=gK k s.1 s.2.1 s.2.2.1 s.2.2.2.1 s.2.2.2.2.1 s.2.2.2.2.2.1 s.2.2.2.2.2.2.1 s.2.2.2.2.2.2.2
theorem put_eq (at_:Int) (w:List Int) (wi:Int) (N:List Nd) (ro ma:Int) (F:List Int) (y:Option (List (Int×Bool))):oM at_ w wi N ro ma F y=aq PUT au (at_,w,wi,N,ro,ma,F,y):=rfl
theorem TT {ρ:Type} (x:List (Int×Int)) (k:Int) (e:Int×Int) (K:List (Int×Int)→Option ρ):(EA 16 x k [e]).bind K=chk (qF k x.length) (chk (aw (x.length+[e].length) 16) (K (ik x k [e]))):=by
 show (chk (qF k x.length&&aw (x.length+[e].length) 16) (some (ik x k [e]))).bind K=_
 cases qF k x.length <;> cases aw (x.length+[e].length) 16 <;> rfl
theorem UR {l:List (Int×Int)} (h:l.length<1000000000):cW l=some l:=by
 unfold cW
 rw [So.aG (So.bg (by omega) (by omega))]
noncomputable def PF (N:List Nd) (_F A X:List Int) (W:Nat) (w:List Int) (at_:Int) (res:Option RP):Prop:=
 ∃ r N' F' y' A',res=some (r,N',F',some y')∧Inv N' F' [] A' X [r] W∧(∀ j∈A,j∈A'∧nx N' j=nx N j)∧At N' A' w.length r∧
  (∀ i,dL (some y') i false=true→i∈A')∧(∀ i∈A',rf N' i=0→dL (some y') i false=true)∧N'.length≤N.length+(w.length+1)∧(∀ j,rf N' j≤256*((w.length:Int)+1)+rf N j)∧
  ∀ v,v.length=w.length→(acc N' v r↔v=w∨(at_≠ -1∧acc N v at_))
theorem OJ {W:Nat} (wi ro ma:Int) {X:List Int}: ∀ (w:List Int) (at_:Int) (N:List Nd) (F A:List Int) (y:List (Int×Bool)),(∀ b∈w,0≤b∧b<256)→w.length≤W→(at_= -1∨At N A w.length at_)→Inv N F [] A X [] W→
  (∀ i,dL (some y) i false=true→i∈A)→(∀ i∈A,rf N i=0→dL (some y) i false=true)→N.length+(w.length+1)<1099511627775→(∀ j,rf N j+256*((w.length:Int)+1)<549755813888)→ ∀ n,w.length<n→
  PF N F A X W w at_ (aq PUT n (at_,w,wi,N,ro,ma,F,some y))
 | [],at_,N,F,A,y,_,hW,hat,I,hy1,hy2,hN,hrf,n,hn=>by
  obtain ⟨n,rfl⟩: ∃ k,n=k+1:=⟨n-1,by simp at hn;omega⟩
  rw [aE]
  unfold PUT gK
  simp only [List.length_nil]
  rw [show (((0:Nat):Int)==0)=true from rfl,cond_true]
  obtain ⟨r,N',F',y',A',h1,h2,h3,h4,h5,h6,h7,h8,h9⟩:=KJ (h:=0) (next:=[]) I (by simp at hN;omega) (fun j=>by have:=hrf j;simp at this;omega) hy1 hy2 ⟨.nil,by simp⟩ (by omega) (.inl ⟨rfl,rfl⟩) (by simp) wi ro ma
  rw [h1]
  refine ⟨r,N',F',y',A',rfl,h2,h4,h5,h6,h7,by simp;omega,fun j=>by have:=h9 j;simp;omega,fun v hv=> ?_⟩
  have:v=[]:=List.length_eq_zero_iff.1 hv
  subst this
  simp [acc]
 | b::w,at_,N,F,A,y,hw,hW,hat,I,hy1,hy2,hN,hrf,n,hn=>by
  obtain ⟨n,rfl⟩: ∃ k,n=k+1:=⟨n-1,by simp at hn;omega⟩
  rw [aE]
  simp only [List.length_cons] at hN hW hrf hn hat
  have hb:=hw b (by simp)
  -- the rest of the word, and the node
  have rest: ∀ (at2:Int) (x:List (Int×Int)),n8 x→(∀ e∈x,At N A w.length e.2)→(at2= -1∨At N A w.length at2)→(at2≠ -1→(b,at2)∈x)→(∀ e∈x,e.1=b→at2≠ -1)→
    (at_≠ -1→nx N at_=x)→(at_= -1→x=[])→ql (wi,N,ro,ma,F) at_ b=some at2→
    PF N F A X W (b::w) at_ (ov (aq PUT n) at_ (b::w) wi N ro ma F (some y) x):=by
   intro at2 x hx hk ha2 hin hout hx1 hx2 hto
   unfold ov
   rw [show idx (b::w) 0=some b from rfl]
   simp only [ab]
   rw [rK.2 (by simp;omega),aG,U4,hto]
   simp only [ab]
   rw [show bd (b::w) 1 ((List.length (b::w):Nat):Int)=w by simp [bd]]
   obtain ⟨r,N1,F1,y1,A1,h1,h2,h3,h4,h5,h6,h7,h8,h9⟩:=OJ wi ro ma w at2 N F A y (fun c hc=>hw c (by simp [hc])) (by omega) ha2 I hy1 hy2 (by omega) (fun j=>by have:=hrf j;omega) n (by omega)
   rw [h1]
   simp only [ab,aP,TT]
   obtain ⟨z,hz,hz0,hzm,hze⟩:=TG hx hb (r:=r) (n3 wi ro ma (r,N1,F1,some y1))
   rw [hze]
   unfold n3
   have kz: ∀ e∈z,At N1 A1 w.length e.2:=by
    intro e he
    rcases (hzm e).1 he with rfl | ⟨he,_⟩
    ·exact h4
    ·exact (hk e he).grow (fun j hj=>(h3 j hj).1) (fun j hj=>(h3 j hj).2)
   obtain ⟨r',N',F',y',A',g1,g2,g3,g4,g5,g6,g7,g8,g9⟩:=KJ (h:=w.length+1) (next:=z) h2 (by omega) (fun j=>by have:=hrf j;have:=h8 j;omega) h5 h6 hz hW (.inr ⟨w.length,rfl,hz0,kz⟩) (fun t ht=>by
    simp only [List.mem_singleton] at ht
    subst ht
    exact List.mem_map.2 ⟨(b,t),(hzm _).2 (.inl rfl),rfl⟩) wi ro ma
   simp only []
   rw [g1]
   refine ⟨r',N',F',y',A',rfl,g2,fun j hj=>⟨(g4 j (h3 j hj).1).1,by rw [(g4 j (h3 j hj).1).2,(h3 j hj).2]⟩,g5,g6,g7,by simp;omega,fun j=>by have:=h8 j;have:=g9 j;simp;omega,?_⟩
   intro v hv
   cases v with
   | nil=>simp at hv
   | cons c v=>
    have hv:v.length=w.length:=by simpa using hv
    have s1: ∀ e∈z,(acc N' v e.2↔acc N1 v e.2):=fun e he=>acc.same (fun j hj=>(g4 j hj).2) (kz e he) hv
    have s2: ∀ e∈x,(acc N1 v e.2↔acc N v e.2):=fun e he=>acc.same (fun j hj=>(h3 j hj).2) (hk e he) hv
    constructor
    ·rintro ⟨e,he,hec,ha⟩
     rw [g3] at he
     rw [s1 e he] at ha
     rcases (hzm e).1 he with rfl | ⟨hex,hne⟩
     ·rcases (h9 v hv).1 ha with rfl | ⟨h0,ha⟩
      ·left;rw [← hec]
      ·right
       have hxa:at_≠ -1:=fun h=>by have:=hin h0;rw [hx2 h] at this;cases this
       exact ⟨hxa,(b,at2),by rw [hx1 hxa];exact hin h0,hec,ha⟩
     ·right
      have hxa:at_≠ -1:=fun h=>by rw [hx2 h] at hex;cases hex
      exact ⟨hxa,e,by rw [hx1 hxa];exact hex,hec,(s2 e hex).1 ha⟩
    ·rintro (h | ⟨hxa,e,he,hec,ha⟩)
     ·cases h
      refine ⟨(b,r),by rw [g3];exact (hzm _).2 (.inl rfl),rfl,?_⟩
      rw [s1 _ ((hzm _).2 (.inl rfl))]
      exact (h9 w rfl).2 (.inl rfl)
     ·rw [hx1 hxa] at he
      by_cases hcb:e.1=b
      ·have h0:=hout e he hcb
       have:e=(b,at2):=IS hx he (hin h0) hcb
       subst this
       refine ⟨(b,r),by rw [g3];exact (hzm _).2 (.inl rfl),hec,?_⟩
       rw [s1 _ ((hzm _).2 (.inl rfl))]
       exact (h9 v hv).2 (.inr ⟨h0,ha⟩)
      ·have hz':=(hzm e).2 (.inr ⟨he,hcb⟩)
       exact ⟨e,by rw [g3];exact hz',hec,(s1 e hz').2 ((s2 e he).2 ha)⟩
  show PF N F A X W (b::w) at_ (gK (aq PUT n) at_ (b::w) wi N ro ma F (some y))
  generalize aq PUT n=k at rest ⊢
  unfold gK
  simp only [aP]
  rw [show ((List.length (b::w):Int)==0)=false by simp;omega,cond_false]
  by_cases h0:at_= -1
  ·subst h0
   rw [show ((-1:Int) != -1)=false from rfl,cond_false]
   exact rest (-1) [] ⟨.nil,by simp⟩ (by simp) (.inl rfl) (by simp) (by simp) (by simp) (by simp) rfl
  ·have a:=hat.resolve_left h0
   have hm:=I.range a.mem
   rw [show (at_ != -1)=true by simpa [bne_iff_ne] using h0,cond_true,qh hm.1 hm.2]
   simp only [ab]
   have hl:=oY a.zZ
   rw [UR (by omega)]
   simp only [ab]
   rcases Sv (d:=(wi,N,ro,ma,F)) b hm.1 hm.2 a.zZ (by simp only [];omega) with ⟨e,he,heb,h⟩ | ⟨hne,h⟩
   ·have ae:=a.2.2.2 e he
    have hpos:=(I.range ae.mem).1
    exact rest e.2 (nx N at_) a.zZ a.2.2.2 (.inr ae) (fun _=>by rw [← heb];exact he) (fun _ _ _=>by omega) (fun _=>rfl) (fun h=>absurd h h0) h
   ·exact rest (-1) (nx N at_) a.zZ a.2.2.2 (.inl rfl) (by simp) (fun e he heb=>absurd heb (hne e he)) (fun _=>rfl) (fun h=>absurd h h0) h
end Df
end Go.Proofs.YtgcgmclghbebjaaGreat
namespace Go.Proofs.YtgcgmclghbebjaaGreat
namespace Df
abbrev SL:=Int×Int×List Nd×Int×Int×List Int×Option (List (Int×Bool))
abbrev RL:=List Nd×List Int
noncomputable def z8 (k:SL→Option RL) (s:SL):Option RL:=kE k s.1 s.2.1 s.2.2.1 s.2.2.2.1 s.2.2.2.2.1 s.2.2.2.2.2.1 s.2.2.2.2.2.2
theorem Qn (i wi:Int) (N:List Nd) (ro ma:Int) (F:List Int) (y:Option (List (Int×Bool))):l8 i wi N ro ma F y=aq z8 au (i,wi,N,ro,ma,F,y):=rfl
noncomputable def Leaves (N:List Nd) (Z A X:List Int) (W:Nat) (res:Option RL):Prop:=
 ∃ N' F' A',res=some (N',F')∧Inv N' F' Z A' X [] W∧N'.length=N.length∧(∀ j∈A',j∈A∧nx N' j=nx N j)∧ ∀ j,rf N' j≤rf N j
theorem Inv.HN {N:List Nd} {F Z A X T:List Int} {W:Nat} (I:Inv N F Z A X T W):F.length≤N.length:=by
 have:=HY (l:=F) (List.nodup_append.1 (List.nodup_append.1 I.nd).1).2.1 (m:=(List.range N.length).map Int.ofNat) fun x hx=>by
  have:=(I.rng x).1 (by simp [hx])
  exact List.mem_map.2 ⟨x.toNat,by simp;omega,by simp;omega⟩
 simpa using this
theorem Inv.perm {N:List Nd} {F Z A X X' T:List Int} {W:Nat} (I:Inv N F Z A X T W) (p:X'.Perm X):Inv N F Z A X' T W:=
 ⟨I.nd,I.rng,fun i=>by rw [I.cnt i,List.count_append,List.count_append,p.count_eq],I.dead,I.top,I.dist,I.good⟩
theorem Dk {W k n:Nat} {wi ro ma i:Int} {y:Option (List (Int×Bool))} {Z X:List Int} {x:Nd}
  (ih:x.1≠[]→ ∀ (i:Int) (N:List Nd) (F Z A X:List Int),At N A k i→Inv N F Z A (i::X) [] W→N.length<1099511627775→(∀ j,rf N j<549755813888)→Leaves N Z A X W (aq z8 n (i,wi,N,ro,ma,F,y))) (hx:x.1.length<1099511627776):
  ∀ (q p:List (Int×Int)),x.1=p++q→ ∀ (l:List Nd) (F A:List Int),(∀ e∈q,e.2∈A→At l A k e.2)→Inv l F (i::Z) A (q.map (·.2)++X) [] W→l.length<1099511627775→(∀ j,rf l j<549755813888)→ ∀ m,q.length<m→
   Leaves l Z A X W (aq (jE (aq z8 n) i wi ro ma y x) m (l,F,(p.length:Int)))
 | [],p,h,l,F,A,_,I,hl,hr,m,hm=>by
  obtain ⟨m,rfl⟩: ∃ k,m=k+1:=⟨m-1,by simp at hm;omega⟩
  rw [aE]
  unfold jE
  dsimp only
  rw [cT h,cond_false]
  have hi:0≤i∧i<l.length:=(I.rng i).1 (by simp)
  have hiA:i∉A:=fun h=>by
   have:=(List.nodup_append.1 I.nd).2.2 i (by simp [h]) i (by simp)
   exact this rfl
  rw [qh hi.1 hi.2,ab]
  obtain ⟨F',hF,pF⟩:=Tw i (h:=F) (by have:=I.HN;omega)
  rw [hF,ab]
  have nJ: ∀ j,j≠i→nx (l.set i.toNat ([],0)) j=nx l j:=fun j h=>by rw [yG hi.1 hi.2,if_neg h]
  have nA: ∀ j∈A,nx (l.set i.toNat ([],0)) j=nx l j:=fun j h=>nJ j fun e=>hiA (e▸h)
  have rJ: ∀ j,rf (l.set i.toNat ([],0)) j=rf l j:=fun j=>by
   rw [yF hi.1 hi.2];split
   ·rename_i h;rw [h,I.dead i hiA]
   ·rfl
  have tJ: ∀ j∈A,tg (l.set i.toNat ([],0)) j=tg l j:=fun j hj=>by unfold tg;rw [nA j hj]
  have tA:A.flatMap (tg (l.set i.toNat ([],0)))=A.flatMap (tg l):=by rw [List.flatMap_def,List.flatMap_def,List.map_congr_left tJ]
  have pp:(A++F'++Z).Perm (A++F++(i::Z)):=by
   refine List.Perm.trans ?_ (List.perm_middle (l₁:=A++F) (a:=i) (l₂:=Z)).symm
   rw [List.append_assoc]
   refine (List.Perm.append_left A (List.Perm.append_right Z pF)).trans ?_
   rw [List.append_assoc]
   exact List.perm_middle
  refine ⟨l.set i.toNat ([],0),F',A,rfl,⟨pp.nodup_iff.2 I.nd,fun j=> ?_,fun j=> ?_,fun j hj=> ?_,fun j hj h=> ?_,fun a ha b hb h=> ?_,fun j hj=> ?_⟩,by simp,fun j hj=>⟨hj,nA j hj⟩,fun j=>by rw [rJ];omega⟩
  ·rw [pp.mem_iff,I.rng,List.length_set]
  ·rw [rJ,tA,I.cnt];rfl
  ·rw [rJ,I.dead j hj]
  ·rw [rJ] at h;exact I.top j hj h
  ·rw [nA a ha,nA b hb] at h;exact I.dist a ha b hb h
  ·obtain ⟨h,hW,a⟩:=I.good j hj
   exact ⟨h,hW,a.grow (fun _ h=>h) nA⟩
 | e::q,p,h,l,F,A,ha,I,hl,hr,m,hm=>by
  obtain ⟨m,rfl⟩: ∃ k,m=k+1:=⟨m-1,by simp at hm;omega⟩
  rw [aE]
  have I:Inv l F (i::Z) A (e.2::(q.map (·.2)++X)) [] W:=I
  have heA:=I.ext (i:=e.2) (by simp)
  obtain ⟨N',F',A',h1,h2,h3,h4,h5⟩:=ih (by rw [h];simp) e.2 l F (i::Z) A _ (ha e (by simp) heA) I hl hr
  have hp:p.length<1099511627776:=by rw [h] at hx;simp at hx;omega
  obtain ⟨N2,F2,A2,g1,g2,g3,g4,g5⟩:=Dk ih hx q (p++[e]) (by rw [h];simp) N' F' A' (fun z hz hzA=>by
   have:=ha z (by simp [hz]) (h4 _ hzA).1
   exact this.bm (fun j hj _=>(h4 j hj).2) (fun j hj _ u hu _=>by
    have:u∈nx N' j:=by rw [(h4 j hj).2];exact hu
    exact h2.closed hj this) hzA) h2 (by omega) (fun j=>by have:=h5 j;have:=hr j;omega) m (by simp at hm;omega)
  refine ⟨N2,F2,A2,?_,g2,by omega,fun j hj=>⟨(h4 j (g4 j hj).1).1,by rw [(g4 j hj).2,(h4 j (g4 j hj).1).2]⟩,fun j=>by have:=h5 j;have:=g5 j;omega⟩
  unfold jE
  dsimp only
  rw [cj h,cond_true,vZ h]
  simp only [ab]
  rw [h1]
  simp only [ab]
  rw [ry (by omega),show ((p.length+1:Nat):Int)=((p++[e]).length:Int) by simp]
  exact g1
theorem PK {W:Nat} {wi ro ma:Int} {y:Option (List (Int×Bool))}: ∀ (h n:Nat),h<n→ ∀ (i:Int) (N:List Nd) (F Z A X:List Int),At N A h i→Inv N F Z A (i::X) [] W→N.length<1099511627775→(∀ j,rf N j<549755813888)→Leaves N Z A X W (aq z8 n (i,wi,N,ro,ma,F,y)):=by
 intro h
 induction h with
 | zero=> ?_
 | succ k ih=> ?_
 all_goals
  intro n hn i N F Z A X a I hN hr
  obtain ⟨n,rfl⟩: ∃ k,n=k+1:=⟨n-1,by omega⟩
  rw [aE]
  unfold z8 kE
  dsimp only
  have hi:=I.range a.mem
  have hpos:0<rf N i:=by
   rw [I.cnt]
   have:0<(A.flatMap (tg N)++i::X).count i:=List.count_pos_iff.2 (by simp)
   omega
  rw [qh hi.1 hi.2]
  simp only [ab]
  rw [w64 (x:=rf N i-1) (by have:=hr i;omega)]
  have n1:nx (N.set i.toNat (nx N i,rf N i-1))=nx N:=by
   funext j;rw [yG hi.1 hi.2];split
   ·rename_i h;rw [h]
   ·rfl
  have r1: ∀ j,rf (N.set i.toNat (nx N i,rf N i-1)) j=if j=i then rf N i-1 else rf N j:=fun j=>by rw [yF hi.1 hi.2]
  have l1:(N.set i.toNat (nx N i,rf N i-1)).length=N.length:=by simp
  have t1:tg (N.set i.toNat (nx N i,rf N i-1))=tg N:=by unfold tg;rw [n1]
  have c1: ∀ j,rf (N.set i.toNat (nx N i,rf N i-1)) j=((A.flatMap (tg N)++X).count j:Nat):=fun j=>by
   rw [r1]
   have hc:=I.cnt j
   rw [List.count_append,List.count_cons] at hc
   rw [List.count_append]
   split
   ·rename_i h;subst h;simp at hc;omega
   ·rename_i h
    have:(i==j)=false:=by simp;exact fun e=>h e.symm
    rw [this] at hc;simp at hc;omega
  rw [qh (N:=N.set i.toNat (nx N i,rf N i-1)) hi.1 (by rw [l1];exact hi.2)]
  simp only [ab]
  rw [r1,if_pos rfl,n1]
  have n1': ∀ j,nx (N.set i.toNat (nx N i,rf N i-1)) j=nx N j:=fun j=>by rw [n1]
  generalize N.set i.toNat (nx N i,rf N i-1)=N1 at*
  by_cases hz:0<rf N i-1
  ·rw [show decide (0<rf N i-1)=true by simpa using hz,cond_true]
   refine ⟨N1,F,A,rfl,⟨I.nd,fun j=>by rw [l1];exact I.rng j,fun j=>by rw [t1];exact c1 j,fun j hj=> ?_,fun j hj h=> ?_,fun u hu v hv h=> ?_,fun j hj=> ?_⟩,l1,fun j hj=>⟨hj,n1' j⟩,fun j=>by rw [r1];split <;> rename_i h <;> first | (rw [h];omega) | omega⟩
   ·rw [r1,if_neg (fun h=>hj (by rw [h];exact a.mem))];exact I.dead j hj
   ·rw [r1] at h
    split at h
    ·omega
    ·exact I.top j hj h
   ·rw [n1] at h;exact I.dist u hu v hv h
   ·obtain ⟨k,hk,a⟩:=I.good j hj
    exact ⟨k,hk,a.grow (fun _ h=>h) fun j _=>n1' j⟩
  ·rw [show decide (0<rf N i-1)=false by simpa using hz,cond_false]
   have h1:rf N i=1:=by omega
   have hc0:(A.flatMap (tg N)++X).count i=0:=by
    have:=c1 i;rw [r1,if_pos rfl] at this;omega
   have hn0:=List.count_eq_zero.1 hc0
   have pA:A.Perm (i::A.erase i):=List.perm_cons_erase a.mem
   have ndA:A.Nodup:=(List.nodup_append.1 (List.nodup_append.1 I.nd).1).1
   have hiE:i∉A.erase i:=(List.nodup_cons.1 (pA.nodup_iff.1 ndA)).1
   have mE: ∀ j,j∈A.erase i→j∈A:=fun j hj=>List.mem_of_mem_erase hj
   have mN: ∀ j,j∈A→j≠i→j∈A.erase i:=fun j hj h=>(List.mem_erase_of_ne h).2 hj
   have pp:(A.erase i++F++(i::Z)).Perm (A++F++Z):=by
    refine List.perm_middle.trans ?_
    rw [List.append_assoc,List.append_assoc]
    exact (List.Perm.append_right (F++Z) pA).symm
   have kp: ∀ {h:Nat} {j:Int},At N A h j→j∈A.erase i→At N1 (A.erase i) h j:=fun b hb=>b.bm (fun j _ _=>n1' j) (fun j _ hj e he heA=>mN _ heA fun h=>hn0 (by
    simp only [List.mem_append,List.mem_flatMap]
    exact .inl ⟨j,hj,List.mem_map.2 ⟨e,he,h⟩⟩)) hb
   have I1:Inv N1 F (i::Z) (A.erase i) ((nx N i).map (·.2)++X) [] W:=⟨pp.nodup_iff.2 I.nd,fun j=>by rw [pp.mem_iff,I.rng,l1],fun j=>by
     rw [c1,t1]
     have:=(pA.flatMap_right (tg N)).count_eq j
     rw [List.flatMap_cons,List.count_append] at this
     rw [List.count_append,List.count_append,List.count_append,this]
     unfold tg;omega,fun j hj=>by
     rw [r1];split
     ·omega
     ·rename_i h;exact I.dead j fun hj'=>hj (mN j hj' h),fun j hj h=>by
     rw [r1,if_neg (fun h=>hiE (by have h2:=hj;rw [h] at h2;exact h2))] at h
     exact I.top j (mE j hj) h,fun u hu v hv h=>by
     rw [n1] at h;exact I.dist u (mE u hu) v (mE v hv) h,fun j hj=>by
     obtain ⟨k,hk,b⟩:=I.good j (mE j hj)
     exact ⟨k,hk,kp b hj⟩⟩
   have hl:=oY a.zZ
   obtain ⟨k',hk',ih'⟩: ∃ k',(∀ e∈nx N i,At N A k' e.2)∧(nx N i≠[]→ ∀ (i:Int) (N:List Nd) (F Z A X:List Int),At N A k' i→Inv N F Z A (i::X) [] W→N.length<1099511627775→(∀ j,rf N j<549755813888)→Leaves N Z A X W (aq z8 n (i,wi,N,ro,ma,F,y))):=by
    first
    | exact ⟨0,by rw [a.2];simp,fun h=>absurd a.2 h⟩
    | exact ⟨k,a.2.2.2,fun _=>ih n (by omega)⟩
   obtain ⟨N',F',A',g1,g2,g3,g4,g5⟩:=Dk (x:=(nx N i,rf N i-1)) (p:=[]) (q:=nx N i) ih' (by simp only [];omega) rfl N1 F (A.erase i) (fun e he heA=>kp (hk' e he) heA) I1 (by omega) (fun j=>by rw [r1];have:=hr j;have:=hr i;split <;> omega) au (by show _<2^64;omega)
   exact ⟨N',F',A',g1,g2,by omega,fun j hj=>⟨mE j (g4 j hj).1,by rw [(g4 j hj).2,n1]⟩,fun j=>by
    have:=g5 j
    rw [r1] at this
    split at this
    ·rename_i h;rw [h] at this ⊢; omega
    ·exact this⟩
end Df
end Go.Proofs.YtgcgmclghbebjaaGreat
