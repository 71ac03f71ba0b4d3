/- Own texts for ToolWhat, cut and joined by a program. -/
import Derived.Test.YtkedhpmpejhekaaGreatDoorToolWhatG
set_option linter.all false
namespace Go.Proofs.YtkedhpmpejhekaaGreatDoor
open IntKind (i32 i64)
open Go.Proofs
noncomputable section
set_option maxRecDepth 100000
abbrev UI:Ty:=(.p (.i .i64) (.p (.l (.p (.i .i64) (.i .i64))) (.p (.i .i64) (.p (.p (.p (.i .i64) (.p (.l (.l (.i .u8))) (.l (.i .i64)))) (.l (.i .u8))) (.p (.p (.l (.p (.i .i64) (.p (.l (.l (.i .u8))) (.l (.i .i64))))) (.p (.p (.i .i64) (.p (.l (.l (.i .u8))) (.l (.i .i64)))) (.l (.i .u8)))) (.p (.p (.l (.p (.i .i64) (.p (.l (.l (.i .u8))) (.l (.i .i64))))) (.l (.i .u8))) (.p (.p (.p (.i .i64) (.p (.l (.p (.l (.p (.i .u8) (.i .i64))) (.i .i64))) (.p (.i .i64) (.p (.i .i64) (.l (.i .i64)))))) (.p (.p (.i .i64) (.p (.l (.p (.l (.p (.i .u8) (.i .i64))) (.i .i64))) (.p (.i .i64) (.p (.i .i64) (.l (.i .i64)))))) (.p (.i .i64) (.p (.l (.p (.l (.p (.i .u8) (.i .i64))) (.i .i64))) (.p (.i .i64) (.p (.i .i64) (.l (.i .i64)))))))) (.p (.i .i64) (.p (.i .i64) (.p (.i .u64) (.p (.l (.i .u8)) (.p (.l (.i .u8)) (.l (.i .u8))))))))))))))
abbrev bd:Ty:=(.i .i64)
abbrev an:Pt:=(.int .i64)
abbrev QL4:List Pt:=(.same:: .same:: .same:: .same:: .same:: .same:: .same:: .same:: .same::an::(.sli (.p bd bd))::an::an::(.sli (.l (.i .u8)))::(.sli bd)::(.sli (.i .u8))::(.sli (.p bd (.p (.l (.l (.i .u8))) (.l bd))))::an::(.sli (.l (.i .u8)))::(.sli bd)::(.sli (.i .u8))::(.sli (.p bd (.p (.l (.l (.i .u8))) (.l bd))))::(.sli (.i .u8))::an::(.sli (.p (.l (.p (.i .u8) bd)) bd))::an::an::(.sli bd)::an::(.sli (.p (.l (.p (.i .u8) bd)) bd))::an::an::(.sli bd)::an::(.sli (.p (.l (.p (.i .u8) bd)) bd))::an::an::(.sli bd)::an::an::(.int .u64)::(.sli (.i .u8))::(.sli (.i .u8))::(.sli (.i .u8)):: .same::[])
abbrev kL:Pt:=(.dat UI [none,none,none,none,none,none,none,none,none,none,none,none,none,none,none,none,none,none,none])
abbrev QL6:List Pt:=((.sli .s)::(.sli (.p bd bd))::(.sli bd)::(.sli .s)::(.sli (.p bd (.p .ex (.l (.p bd .ex)))))::(.sli (.l .ex))::(.sli (.l bd))::(.sli bd)::(.sli (.l bd))::an::(.sli (.p bd bd))::an::an::(.sli (.l (.i .u8)))::(.sli bd)::(.sli (.i .u8))::(.sli (.p bd (.p (.l (.l (.i .u8))) (.l bd))))::an::(.sli (.l (.i .u8)))::(.sli bd)::(.sli (.i .u8))::(.sli (.p bd (.p (.l (.l (.i .u8))) (.l bd))))::(.sli (.i .u8))::an::(.sli (.p (.l (.p (.i .u8) bd)) bd))::an::an::(.sli bd)::an::(.sli (.p (.l (.p (.i .u8) bd)) bd))::an::an::(.sli bd)::an::(.sli (.p (.l (.p (.i .u8) bd)) bd))::an::an::(.sli bd)::an::an::(.int .u64)::(.sli (.i .u8))::(.sli (.i .u8))::(.sli (.i .u8))::an::[])
abbrev eQ:Ty:=(.p bd (.p (.l (.l (.i .u8))) (.l bd)))
abbrev cw:Pt:=(.bx 196 0 true [.same,an,.same,an,an,an])
abbrev iq:Pt:=(.bx 196 0 true [(.own (.p bd (.p .s (.p bd bd))) 142 false),an,(.own .s 9 false),an,an,an])
abbrev aP:Ty:=(.i .u8)
abbrev eK:Pt:=(.bx 196 0 true [(.sli (.p bd (.p .s (.p bd bd)))),an,(.sli .s),an,an,an])
abbrev LF:Ty:=(.p (.l .s) (.p (.l (.p bd bd)) (.p (.l bd) (.p (.l .s) (.l (.p bd (.p .ex (.l (.p bd .ex)))))))))
abbrev ahm:Ty:=(.p aP (.p aP (.p aP (.p aP (.p aP (.p aP (.p aP (.p aP (.p aP (.p aP (.p aP (.p aP (.p aP (.p aP (.p aP (.p aP (.p aP (.p aP (.p aP (.p aP (.p aP (.p aP (.p aP (.p aP (.p aP (.p aP (.p aP (.p aP (.p aP (.p aP (.p aP (.p aP (.p aP (.p aP (.p aP (.p aP (.p aP (.p aP (.p aP (.p aP (.p aP (.p aP (.p aP (.p aP (.p aP (.p aP (.p aP (.p aP (.p aP (.p aP (.p aP (.p aP (.p aP (.p aP (.p aP (.p aP (.p aP (.p aP (.p aP (.p aP (.p aP (.p aP (.p aP aP)))))))))))))))))))))))))))))))))))))))))))))))))))))))))))))))
abbrev ER:Ty:=(.p bd (.p bd (.p (.i .u64) (.p (.l aP) (.p (.l aP) (.l aP))))))
abbrev bF:Pt:=(.dat .ex [some 159])
abbrev dA:Ty:=(.p bd bd)
abbrev km:Ty:=(.p (.l (.p aP bd)) bd)
abbrev Pw:Ty:=(.p (.l (.l .ex)) (.p (.l (.l bd)) (.p (.l bd) (.l (.l bd)))))
abbrev rG:Ty:=(.p bd (.p .ex (.l (.p bd .ex))))
abbrev aS:Pt:=(.sli bd)
abbrev kX:Ty:=(.l bd)
abbrev iV:Pt:=(.bx 287 0 false [(.own .bo 4 false)])
abbrev V5:Ty:=(.p bd (.p bd (.p bd (.p (.i .u64) dA))))
abbrev fq:Pt:=(.own bd 3 true)
abbrev aky:Ty:=(.p aP (.p aP (.p aP (.p aP (.p aP (.p aP (.p aP (.p aP (.p aP (.p aP (.p aP (.p aP (.p aP (.p aP (.p aP (.p aP (.p aP (.p aP (.p aP (.p aP (.p aP (.p aP (.p aP aP)))))))))))))))))))))))
abbrev v8:Ty:=(.p bd (.p (.l km) (.p bd (.p bd kX))))
abbrev ia:Pt:=(.own kX 23 true)
abbrev aaz:Pt:=(.bx 138 0 true [(.own (.p bd (.p .s dA)) 142 false),an,(.own .s 9 false),(.own dA 156 false),(.own bd 3 false),(.own .s 9 false),(.own rG 299 false)])
abbrev nd:Ty:=(.p bd (.p .s dA))
abbrev fW:Pt:=(.own aP 5 true)
abbrev ta:Ty:=(.p (.i .u64) (.i .u64))
abbrev ahx:Pt:=(.bx 81 0 true [.str,.str,an,an,an,(.int .u64),an,an,(.sli .s),(.sli dA),aS,(.sli .s),(.sli rG),an,an,an,(.sli .ex),an,an,an,aS,ia,ia])
abbrev PE:Ty:=(.p bd (.p bd (.p bd (.p kX (.p (.l kX) (.l kX))))))
abbrev agS:Pt:=(.bx 81 0 true [.same,.same,.same,.same,.same,.same,.same,.same,.same,.same,.same,.same,.same,.same,.same,.same,.same,an,an,an,aS,ia,ia])
abbrev dN:Pt:=(.own .bo 4 true)
abbrev ahe:Pt:=(.bx 138 0 false [(.own nd 142 false),an,(.own .s 9 false),(.own dA 156 false),(.own bd 3 false),(.own .s 9 false),(.own rG 299 false)])
abbrev J7:Pt:=(.dat (.p (.l eQ) (.p eQ (.l aP))) [none,none,none,none])
abbrev xV:Pt:=(.dat LF [none,none,none,none,none])
abbrev di:Pt:=(.sli aP)
abbrev fA:Pt:=(.dat .ex [none])
abbrev Kz:Pt:=(.bx 287 0 false [(.sli .bo)])
abbrev Pz:Pt:=(.bx 138 0 true [.same,an,.same,.same,.same,.same,.same])
abbrev Lf:Pt:=(.bx 176 0 false [(.sli kX),an])
abbrev VO:Ty:=(.p aP (.p aP (.p aP (.p aP (.p aP (.p aP (.p aP aP)))))))
abbrev gz:Ty:=(.l aP)
abbrev tL:Pt:=(.dat ER [none,none,none])
abbrev JD:Pt:=(.bx 79 0 true [an,an,an,(.own .ex 79 true)])
abbrev GD:Pt:=(.bx 79 0 true [.same,.same,.same,.same])
abbrev pX:Ty:=(.l kX)
abbrev abk:Pt:=(.bx 457 0 true [.same,(.own km 352 true),.same,.same,fq,.same])
abbrev aoy:Ty:=(.p (.i .u64) (.p (.i .u64) (.p (.i .u64) (.p (.i .u64) (.p (.i .u64) (.p (.i .u64) (.p (.i .u64) (.p (.i .u64) (.p (.i .u64) (.p (.i .u64) (.p (.i .u64) (.p (.i .u64) (.p (.i .u64) (.p (.i .u64) (.p (.i .u64) (.p (.i .u64) (.p (.i .u64) (.p (.i .u64) ta))))))))))))))))))
abbrev ED:Pt:=(.ifc 470 (.bx 468 0 true [fq]))
abbrev aof:Pt:=(.bx 113 0 true [an,(.sli dA),an,an,(.sli gz),aS,di,(.sli eQ),an,(.sli gz),aS,di,(.sli eQ),di,an,(.sli km),an,an,aS,an,(.sli km),an,an,aS,an,(.sli km),an,an,aS,an,an,(.int .u64),di,di,di])
abbrev HC:Pt:=(.bx 234 0 true [(.own .ex 79 true)])
abbrev LS:Pt:=(.bx 236 0 true [(.own ta 239 true)])
abbrev JF:Pt:=(.dat (.p (.l eQ) gz) [none,none])
abbrev Lw:Pt:=(.dat Pw [none,none,none,none])
abbrev DY:Pt:=(.ifc 134 (.agg [an,an]))
abbrev Eu:Pt:=(.bx 56 0 true [.sfp,fW])
abbrev gu:Pt:=(.sli dA)
abbrev QL:Pt:=(.dat (.p eQ gz) [none,none,none])
abbrev UR:Pt:=(.bx 122 0 true [.same,.same,.same,.same])
abbrev Vn:Pt:=(.bx 79 0 false [an,an,an,(.sli .ex)])
abbrev an5:Ty:=(.p .s (.p .s (.p .s (.p .s (.p .s (.p .s (.p .s (.p .s (.p .s (.p .s (.p .s (.p .s (.p .s (.p .s (.p .s (.p .s (.p .s (.p .s (.p .s (.p .s (.p .s (.p .s (.p .s (.p .s .s))))))))))))))))))))))))
abbrev jI:Ty:=(.p aP bd)
abbrev afw:Pt:=(.bx 433 0 true [(.own eQ 349 true),(.fn 319 [(.ptr 0 0)] [])])
abbrev agZ:Pt:=(.bx 101 0 true [(.own eQ 96 true),.same,.same,.same,.same])
abbrev agp:Pt:=(.bx 76 0 false [(.sli .s),gu,aS,(.sli .s),(.sli rG)])
abbrev ew:Pt:=(.cE [])
abbrev lg:Pt:=(.dat .un [])
abbrev DJ:Pt:=(.dat eQ [none,none])
abbrev Vq:Pt:=(.fn 379 [] [(.bx 4 0 true [.bool])])
abbrev alN:Pt:=(.bx 457 0 true [.same,(.own km 352 true),.same,.same,fq,(.mp bd .bo true)])
abbrev Kx:Pt:=(.dat (.p pX bd) [none])
abbrev xO:Ty:=(.p kX pX)
abbrev AW:Pt:=(.bx 3 0 true [an])
abbrev aal:Pt:=(.ifc 166 (.agg [(.sli kX),(.sli kX)]))
abbrev agW:Pt:=(.bx 433 0 false [(.sli eQ),(.fn 323 [(.ptr 0 0)] [])])
abbrev ajW:Pt:=(.bx 457 0 true [an,(.own km 352 true),an,an,fq,(.mp bd .bo false)])
abbrev nR:Pt:=(.int .u64)
abbrev ak7:Pt:=(.bx 457 0 true [an,(.own km 352 true),an,an,fq,(.mp bd .bo true)])
abbrev Z8:Pt:=(.bx 270 0 true [ia,(.mp .s .bo true)])
abbrev Az:Pt:=(.cE [an,.bool])
abbrev ig:Pt:=(.int .u8)
abbrev PC:Pt:=(.ifc 164 (.agg [an,aS]))
abbrev VC:Pt:=(.dat (.p pX pX) [none,none])
abbrev ahr:Ty:=(.p (.i .u32) (.p (.i .u32) (.p aP (.p aP .bo))))
abbrev AH:Pt:=(.own .s 9 true)
abbrev afq:Pt:=(.bx 101 0 true [.same,.same,.same,.same,.same])
abbrev agk:Ty:=(.p (.l nd) (.p bd (.p (.l .s) (.p bd dA))))
abbrev afr:Ty:=(.p .s (.p .s (.p V5 (.p LF (.p .ex PE)))))
abbrev D9:Pt:=(.cE [.bool,an])
abbrev Lo:Pt:=(.bx 23 0 false [aS])
abbrev AX:Pt:=(.own .s 9 false)
abbrev agj:Pt:=(.bx 98 0 false [an,(.sli gz),aS,di])
abbrev Po:Pt:=(.own rG 299 true)
abbrev Hc:Pt:=(.bx 169 0 true QL4)
abbrev sn:Ty:=(.p gz bd)
abbrev afM:Pt:=(.bx 433 0 true [(.own eQ 349 true),.same])
abbrev jB:Pt:=(.int .u32)
abbrev HY:Pt:=(.own dA 156 true)
abbrev Mr:Ty:=(.p .s (.p .s (.p .s .s)))
abbrev Hw:Pt:=(.bx 31 0 true [nR])
abbrev y7:Pt:=(.cE [kL,an])
abbrev Zx:Pt:=(.bx 282 0 true [(.mp ta .bo true)])
abbrev GX:Pt:=(.own nd 142 false)
abbrev Zo:Pt:=(.bx 237 0 true [(.mp ta bd true)])
abbrev My:Pt:=(.cE [kL,.bool,an])
abbrev Mp:Pt:=(.bx 4 0 false [.bool])
abbrev SN:Ty:=(.p (.l eQ) (.p eQ gz))
abbrev wi:Pt:=(.dat V5 [])
abbrev rz:Ty:=(.p bd .ex)
abbrev agP:Pt:=(.dat Pw [some 155,some 47,some 7,some 47])
abbrev Mn:Pt:=(.own dA 156 false)
abbrev Mu:Pt:=(.own xO 277 false)
abbrev Zp:Ty:=(.p LF (.p Pw (.p UI bd)))
abbrev Hk:Pt:=(.own bd 3 false)
abbrev af4:Pt:=(.bx 98 0 true [an,(.sli gz),aS,di])
abbrev Zw:Ty:=(.p bd (.p bd (.p .bo aP)))
abbrev ami:Ty:=(.p aP (.p aP (.p aP (.p aP (.p aP (.p aP (.p aP (.p aP aky))))))))
abbrev RN:Pt:=(.dat v8 [none,none])
abbrev Mf:Pt:=(.bx 169 0 true QL6)
abbrev amw:Pt:=(.bx 283 0 true [(.fn 156 [] [(.ptr 0 0),(.ptr 2 0),(.ptr 4 0),(.ptr 7 0)])])
abbrev afy:Pt:=(.bx 217 0 true [ia,(.mp .s .bo true)])
abbrev Zs:Ty:=(.p (.l nd) (.p bd LF))
abbrev ZB:Pt:=(.bx 395 0 true [fW,an])
abbrev CK:Ty:=(.p pX pX)
abbrev wo:Pt:=(.sli kX)
abbrev L8:Pt:=(.sli (.i .u32))
abbrev ZA:Pt:=(.bx 261 0 true [.same])
abbrev amg:Pt:=(.bx 138 0 true [.same,an,.same,.same,.same,.same,Po])
abbrev amC:Pt:=(.bx 196 0 false [(.sli nd),an,(.sli .s),an,an,an])
abbrev amz:Pt:=(.bx 122 0 true [(.own (.l .ex) 77 true),ia,.same,.same])
abbrev ZC:Pt:=(.bx 468 0 true [fq])
abbrev Se:Ty:=(.p (.l eQ) gz)
abbrev Dh:Pt:=(.ifc 3 an)
abbrev amx:Pt:=(.bx 138 0 true [.same,an,AH,HY,fq,AH,Po])
abbrev MN:Pt:=(.fn 227 [] [])
abbrev Mo:Pt:=(.fn 221 [] [])
abbrev MI:Pt:=(.fn 219 [] [])
abbrev Ml:Pt:=(.fn 184 [] [])
abbrev Zy:Pt:=(.bx 23 0 true [aS])
abbrev Zl:Pt:=(.bx 4 0 true [.bool])
abbrev ahz:Pt:=(.fn 200 [] [Kz,Kz,Lf])
abbrev af6:Pt:=(.fn 201 [] [Kz,Kz,Lf])
open Tryz
theorem aiu:aj7 Tryz.prog 38:=λv w=>by rw [run_callFunc_extern func38 (by kernel_rfl) (by kernel_rfl) (by kernel_rfl) (e:=Extern.AbiNoEscape.same) (by kernel_rfl)];rfl
noncomputable def WX:Cx:=⟨Tryz.prog,[(2,bd),(3,bd),(4,.bo),(5,aP),(6,aP),(7,Zw),(8,Zw),(9,.s),(10,.s),(11,.s),(12,(.i .u64)),(13,(.p .s (.i .u64))),(14,(.p .s (.i .u64))),(21,(.i .i32)),(22,bd),(23,kX),(24,pX),(25,CK),(26,CK),(27,PE),(28,PE),(31,(.i .u64)),(32,V5),(33,V5),(38,(.i .u32)),(39,ahr),(40,ahr),(43,(.l .s)),(49,(.p .s Mr)),(50,(.p bd (.p bd (.p bd dA)))),(54,gz),(62,Mr),(73,(.l dA)),(74,(.l rG)),(75,LF),(76,LF),(77,(.l .ex)),(78,(.p bd (.p bd (.p bd (.l .ex))))),(79,.ex),(80,afr),(81,afr),(83,(.l dA)),(84,dA),(85,dA),(94,(.l gz)),(95,eQ),(96,eQ),(97,(.p eQ gz)),(98,(.p eQ gz)),(99,(.l eQ)),(100,SN),(101,SN),(102,(.l eQ)),(103,Se),(104,Se),(105,(.l km)),(106,v8),(107,v8),(108,(.p v8 (.p v8 v8))),(109,(.p gz (.p gz gz))),(110,ER),(111,ER),(112,UI),(113,UI),(120,(.l (.l .ex))),(121,Pw),(122,Pw),(129,(.i .u64)),(130,(.l nd)),(133,dA),(134,dA),(137,Zs),(138,Zs),(141,nd),(142,nd),(148,(.l .n)),(153,.n),(155,dA),(156,dA),(163,(.p bd kX)),(164,(.p bd kX)),(165,CK),(166,CK),(168,Zp),(169,Zp),(175,(.p pX bd)),(176,(.p pX bd)),(178,aky),(195,agk),(196,agk),(202,(.l .bo)),(205,dA),(206,.un),(207,.un),(208,.un),(209,.un),(210,.un),(211,.un),(225,(.l xO)),(229,dA),(230,dA),(233,(.l .ex)),(234,(.l .ex)),(236,(.l ta)),(238,ta),(239,ta),(250,aoy),(251,(.p aP ahm)),(276,xO),(277,xO),(284,(.l pX)),(287,(.l .bo)),(297,(.l rz)),(298,rG),(299,rG),(300,rz),(301,rz),(319,dA),(322,ami),(323,ahm),(325,(.p .s (.p .s (.p .s (.p .s (.p .s Mr)))))),(328,an5),(338,.un),(339,.un),(340,.un),(341,aP),(342,aP),(344,(.i .i32)),(345,(.i .i32)),(348,eQ),(349,eQ),(350,(.l jI)),(351,km),(352,km),(373,sn),(374,sn),(381,eQ),(382,eQ),(383,eQ),(384,eQ),(392,sn),(393,sn),(394,sn),(395,sn),(435,(.l (.i .u32))),(442,VO),(443,VO),(461,jI),(462,jI),(468,kX)],[],[38],(List.forall_mem_cons.2 ⟨aiu,(λ_ h=>nomatch h)⟩),aC,[207,208,209,210,211],[],(λ_ h=>nomatch h),[(25,21),(66,40),(83,44)]⟩
noncomputable def X0:Cx:=⟨Tryz.prog,[(2,bd),(3,bd),(4,.bo),(5,aP),(6,aP),(7,Zw),(8,Zw),(9,.s),(10,.s),(11,.s),(12,(.i .u64)),(13,(.p .s (.i .u64))),(14,(.p .s (.i .u64))),(21,(.i .i32)),(22,bd),(23,kX),(24,pX),(25,CK),(26,CK),(27,PE),(28,PE),(31,(.i .u64)),(32,V5),(33,V5),(38,(.i .u32)),(39,ahr),(40,ahr),(43,(.l .s)),(49,(.p .s Mr)),(50,(.p bd (.p bd (.p bd dA)))),(54,gz),(62,Mr),(73,(.l dA)),(74,(.l rG)),(75,LF),(76,LF),(77,(.l .ex)),(78,(.p bd (.p bd (.p bd (.l .ex))))),(79,.ex),(80,afr),(81,afr),(83,(.l dA)),(84,dA),(85,dA),(94,(.l gz)),(95,eQ),(96,eQ),(97,(.p eQ gz)),(98,(.p eQ gz)),(99,(.l eQ)),(100,SN),(101,SN),(102,(.l eQ)),(103,Se),(104,Se),(105,(.l km)),(106,v8),(107,v8),(108,(.p v8 (.p v8 v8))),(109,(.p gz (.p gz gz))),(110,ER),(111,ER),(112,UI),(113,UI),(120,(.l (.l .ex))),(121,Pw),(122,Pw),(129,(.i .u64)),(130,(.l nd)),(133,dA),(134,dA),(137,Zs),(138,Zs),(141,nd),(142,nd),(148,(.l .n)),(153,.n),(155,dA),(156,dA),(163,(.p bd kX)),(164,(.p bd kX)),(165,CK),(166,CK),(168,Zp),(169,Zp),(175,(.p pX bd)),(176,(.p pX bd)),(178,aky),(195,agk),(196,agk),(202,(.l .bo)),(205,dA),(206,.un),(207,.un),(208,.un),(209,.un),(210,.un),(211,.un),(225,(.l xO)),(229,dA),(230,dA),(233,(.l .ex)),(234,(.l .ex)),(236,(.l ta)),(238,ta),(239,ta),(250,aoy),(251,(.p aP ahm)),(276,xO),(277,xO),(284,(.l pX)),(287,(.l .bo)),(297,(.l rz)),(298,rG),(299,rG),(300,rz),(301,rz),(319,dA),(322,ami),(323,ahm),(325,(.p .s (.p .s (.p .s (.p .s (.p .s Mr)))))),(328,an5),(338,.un),(339,.un),(340,.un),(341,aP),(342,aP),(344,(.i .i32)),(345,(.i .i32)),(348,eQ),(349,eQ),(350,(.l jI)),(351,km),(352,km),(373,sn),(374,sn),(381,eQ),(382,eQ),(383,eQ),(384,eQ),(392,sn),(393,sn),(394,sn),(395,sn),(435,(.l (.i .u32))),(442,VO),(443,VO),(461,jI),(462,jI),(468,kX)],[(0,0,⟨.l .s,kY⟩),(1,0,⟨.l .s,lD⟩),(2,0,⟨.un,()⟩),(3,0,⟨.l (.i .u64),rn⟩),(6,0,⟨.l .s,GP⟩),(7,0,⟨.l .s,w6⟩)],[38],(List.forall_mem_cons.2 ⟨aiu,(λ_ h=>nomatch h)⟩),aC,[207,208,209,210,211],[⟨270,λargs H st K=>PA WX Tryz.f270 args H st K⟩,⟨261,λargs H st K=>PA WX Tryz.f261 args H st K⟩,⟨379,λargs H st K=>PA WX Tryz.f379 args H st K⟩,⟨380,λargs H st K=>PA WX Tryz.f380 args H st K⟩],(List.forall_mem_cons.2 ⟨Us (X:=WX) call270 func270 rfl,(List.forall_mem_cons.2 ⟨Us (X:=WX) call261 func261 rfl,(List.forall_mem_cons.2 ⟨Us (X:=WX) call379 func379 rfl,(List.forall_mem_cons.2 ⟨Us (X:=WX) call380 func380 rfl,(λ_ h=>nomatch h)⟩)⟩)⟩)⟩),[(25,21),(66,40),(83,44)]⟩
abbrev Ko(e:aq):=e.Ok X0.P X0.Γ
abbrev px(e:bH):=e.Ok X0.P X0.Γ
theorem aw{X:Cx}{tb:List aq}{fn:Func}{e:aq}(h:HT)(c:Enters X.P e.f)(b:X.P.funcs[e.f]? =some fn)(a:∀e∈tb,e.Ok X.P X.Γ)(eq:∀s,aar X tb [] [] h fn e s=e.m s:=by intro _;kernel_rfl):e.Ok X.P X.Γ:=aX h c b a al al eq
theorem abK{X:Cx}{tb:List aq}{fn:Func}{e:bH}(h:HT)(c:Enters X.P e.f)(b:X.P.funcs[e.f]? =some fn)(a:∀e∈tb,e.Ok X.P X.Γ)(eq:∀s,ajw X tb [] [] h fn e s=e.m s:=by intro _;kernel_rfl):e.Ok X.P X.Γ:=ou h c b a al al eq
abbrev U2{a z r:Type}(F:a->z->r)(s:a×z):r:=F s.1 s.2
abbrev U3{a b z r:Type}(F:a->b->z->r)(s:a×b×z):r:=F s.1 s.2.1 s.2.2
abbrev U4{a b c z r:Type}(F:a->b->c->z->r)(s:a×b×c×z):r:=F s.1 s.2.1 s.2.2.1 s.2.2.2
abbrev U5{a b c d z r:Type}(F:a->b->c->d->z->r)(s:a×b×c×d×z):r:=F s.1 s.2.1 s.2.2.1 s.2.2.2.1 s.2.2.2.2
abbrev U6{a b c d e z r:Type}(F:a->b->c->d->e->z->r)(s:a×b×c×d×e×z):r:=F s.1 s.2.1 s.2.2.1 s.2.2.2.1 s.2.2.2.2.1 s.2.2.2.2.2
abbrev U7{a b c d e f z r:Type}(F:a->b->c->d->e->f->z->r)(s:a×b×c×d×e×f×z):r:=F s.1 s.2.1 s.2.2.1 s.2.2.2.1 s.2.2.2.2.1 s.2.2.2.2.2.1 s.2.2.2.2.2.2
abbrev U8{a b c d e f g z r:Type}(F:a->b->c->d->e->f->g->z->r)(s:a×b×c×d×e×f×g×z):r:=F s.1 s.2.1 s.2.2.1 s.2.2.2.1 s.2.2.2.2.1 s.2.2.2.2.2.1 s.2.2.2.2.2.2.1 s.2.2.2.2.2.2.2
abbrev U9{a b c d e f g h z r:Type}(F:a->b->c->d->e->f->g->h->z->r)(s:a×b×c×d×e×f×g×h×z):r:=F s.1 s.2.1 s.2.2.1 s.2.2.2.1 s.2.2.2.2.1 s.2.2.2.2.2.1 s.2.2.2.2.2.2.1 s.2.2.2.2.2.2.2.1 s.2.2.2.2.2.2.2.2
def bk(x:Ex):Ex:=Ex.mk x.op x.n x.at_ x.l
theorem aJ:bk=id:=funext λx=>by cases x;rfl
def ao6:aq:=⟨31,[.int .i64],.str,[],λs=>Mi s⟩
theorem WY:Ko ao6:=alD (ρ:=Tryz.JY) Tryz.akF call31 (G:=3) (tab:=rn) (by kernel_rfl) (show gl 3 (rn.map (Value.int .u64))∈X0.Γ by first|exact bY ..|exact (.tail _ (bY ..))|exact (.tail _ (.tail _ (bY ..)))|exact (.tail _ (.tail _ (.tail _ (bY ..))))|exact (.tail _ (.tail _ (.tail _ (.tail _ (bY ..)))))|exact (.tail _ (.tail _ (.tail _ (.tail _ (.tail _ (bY ..))))))) (by decide+kernel) Mi λn r h=>by obtain ⟨b,a⟩:=dZ h;cases a;exact ⟨b,rfl⟩
def aoV:aq:=⟨217,[.own aP 5 true,.int .u64,.int .i64],.own aP 5 true,[],U3 afu⟩
theorem aiX:Ko aoV:=ajJ (ρ:=Tryz.O3) Tryz.anf call217 (G:=3) (tab:=rn) (by kernel_rfl) (show gl 3 (rn.map (Value.int .u64))∈X0.Γ by first|exact bY ..|exact (.tail _ (bY ..))|exact (.tail _ (.tail _ (bY ..)))|exact (.tail _ (.tail _ (.tail _ (bY ..))))|exact (.tail _ (.tail _ (.tail _ (.tail _ (bY ..)))))|exact (.tail _ (.tail _ (.tail _ (.tail _ (.tail _ (bY ..))))))) (by decide+kernel) afu λl u b r h=>by obtain ⟨a,c⟩:=dZ h;simp only [ae,gy,n7] at a;cases c;exact ⟨a.1.1,a.1.2.1,a.1.2.2,a.2,rfl⟩
def aoT:aq:=⟨157,[.iO (.raw (.slice none 0 0)),.int .i64],.own kX 23 true,[],λs=>ahj s⟩
theorem ajd:Ko aoT:=ajB (ρ:=Tryz.W4) Tryz.apA call157 (z:= .slice none 0 0) (bytes:=24) (t:= .l bd) (by unfold TI;kernel_rfl) rfl rfl (by decide) ahj λn r h=>by obtain ⟨a,b⟩:=dZ h;simp only [ae,n7] at a;cases b;exact ⟨a.1,a.2,rfl⟩
def apB:aq:=⟨26,[.str,.str],.cE [.str,.str,.bool],[],U2 VE⟩
theorem akn:Ko apB:=anu (ρ:=Tryz.O1) Tryz.ae6 call26 (show glx 2∈X0.Γ by repeat (first|exact bY ..|refine aW _ ?_)) VE λs t r h=>by obtain ⟨b,a⟩:=dZ h;cases a;exact ⟨qa b,rfl⟩
theorem adV(W:World)(x:Nat):FnGives X0.P 29 #[] #[.int .i32 x] (.bool (x==32)) W:=by
 refine Calls.mono (ij (S:=λv w'=>v= .bool (x==32)/\w'=W) (Sp:=λ_ _=>False) func29 rfl Tryz.ntmps29 rfl ?_) (λe w' h=>?_)
 .refine bn<|bf<|aK (cI ar.c) rfl rfl rfl rfl<|bR<|ba<|bn<|bf<|aK (aL (ar.t rfl)) rfl rfl rfl rfl<|aK (o8 (ar.t rfl) ar.c) rfl rfl rfl rfl<|aK (cI (ar.t rfl)) rfl rfl rfl rfl<|bR<|ba<|tA ?_
  repeat refine mS ?_
  refine Mt rfl (iT.t rfl) ?_;exact ⟨by congr 1;rw [qH,gy,gy];omega,rfl⟩
 .cases e with
  |returned v=>obtain ⟨rfl,rfl⟩:=h;exact ⟨rfl,0,rfl⟩
  |panicked c=>exact h.elim
  |outgrown=>exact h.elim
def apz:aq:=⟨28,[.str,.fn 29 [] []],.sli .s,[],λs=>agw s⟩
theorem ajy:Ko apz:=amH (ρ:=Tryz.NV) Tryz.anC call28 call29 adV agw λs r h=>by obtain ⟨b,a⟩:=dZ h;cases a;exact ⟨qa b,rfl⟩
theorem aiI{α:Type}{b:Nat}{s y r:List α}{k:Int}(h:acB b s k y=some r):y≠[]/\Ps k s.length=true/\aH (s.length+y.length) b=true/\r=lP s k y:=by
 unfold acB at h;split at h
 .cases h
 .obtain ⟨a,c⟩:=dZ h;simp only [ae] at a;cases c;exact ⟨by simp,a.1,a.2,rfl⟩
def alF:aq:=⟨351,[.own jI 462 true,.int .i64,.own jI 462 true],.own jI 462 true,[],λs=>acB 16 s.1 s.2.1 s.2.2⟩
theorem ac0:Ko alF:=amX (t:=jI) (bytes:=16) call351 (λa d c b=>I351.abg a d c b) (acB 16) (λ_ _ _ _ h=>aiI h)
abbrev UB:=Q2->Option Q3
def gU(k:UB):aq:=⟨91,[iq,MN],bF,[(true,0,cw)],λs=>k (s.1,s.2.1,s.2.2.1,s.2.2.2.1,s.2.2.2.2.1,s.2.2.2.2.2)⟩
abbrev OK0(k:UB):Prop:=Ko (gU k)
abbrev Uj:=Q2->Option Q3
def gY(k:Uj):aq:=⟨91,[iq,Mo],bF,[(true,0,cw)],λs=>k (s.1,s.2.1,s.2.2.1,s.2.2.2.1,s.2.2.2.2.1,s.2.2.2.2.2)⟩
abbrev OK1(k:Uj):Prop:=Ko (gY k)
abbrev RW:=Q2->Option Q3
def gP(k:RW):aq:=⟨91,[iq,MI],bF,[(true,0,cw)],λs=>k (s.1,s.2.1,s.2.2.1,s.2.2.2.1,s.2.2.2.2.1,s.2.2.2.2.2)⟩
abbrev OK2(k:RW):Prop:=Ko (gP k)
abbrev Ul:=Q2->Option Q3
def gW(k:Ul):aq:=⟨91,[iq,Ml],bF,[(true,0,cw)],λs=>k (s.1,s.2.1,s.2.2.1,s.2.2.2.1,s.2.2.2.2.1,s.2.2.2.2.2)⟩
abbrev OK3(k:Ul):Prop:=Ko (gW k)
abbrev cR:=Q2->Option Q3
def gQ(k:cR):aq:=⟨91,[iq,(.fn 92 [] [])],bF,[(true,0,cw)],λs=>k (s.1,s.2.1,s.2.2.1,s.2.2.2.1,s.2.2.2.2.1,s.2.2.2.2.2)⟩
abbrev iK(k:cR):Prop:=Ko (gQ k)
abbrev TK5:=Ex->Option nH
def s7(k:TK5):aq:=⟨59,[fA],(.cE [an,an,an]),[],λs=>k s⟩
abbrev OK5(k:TK5):Prop:=Ko (s7 k)
abbrev SS:=Q2->Option Q3
def iA(k:SS):aq:=⟨91,[eK,MN],bF,[(true,0,cw)],λs=>k (s.1,s.2.1,s.2.2.1,s.2.2.2.1,s.2.2.2.2.1,s.2.2.2.2.2)⟩
abbrev OK6(k:SS):Prop:=Ko (iA k)
abbrev SV:=Q2->Option Q3
def iu(k:SV):aq:=⟨91,[eK,Mo],bF,[(true,0,cw)],λs=>k (s.1,s.2.1,s.2.2.1,s.2.2.2.1,s.2.2.2.2.1,s.2.2.2.2.2)⟩
abbrev OK7(k:SV):Prop:=Ko (iu k)
abbrev Uc:=Q2->Option Q3
def iw(k:Uc):aq:=⟨91,[eK,MI],bF,[(true,0,cw)],λs=>k (s.1,s.2.1,s.2.2.1,s.2.2.2.1,s.2.2.2.2.1,s.2.2.2.2.2)⟩
abbrev OK8(k:Uc):Prop:=Ko (iw k)
abbrev Rp:=Q2->Option Q3
def iB(k:Rp):aq:=⟨91,[eK,Ml],bF,[(true,0,cw)],λs=>k (s.1,s.2.1,s.2.2.1,s.2.2.2.1,s.2.2.2.2.1,s.2.2.2.2.2)⟩
abbrev OK9(k:Rp):Prop:=Ko (iB k)
abbrev bP:=Q2->Option Q3
def ki(k:bP):aq:=⟨91,[eK,(.fn 92 [] [])],bF,[(true,0,cw)],λs=>k (s.1,s.2.1,s.2.2.1,s.2.2.2.1,s.2.2.2.2.1,s.2.2.2.2.2)⟩
abbrev fc(k:bP):Prop:=Ko (ki k)
abbrev GV:=OA->Option iJ
def wc(k:GV):aq:=⟨139,[fA,.bool,AW],fA,[(true,2,AW)],λs=>k (s.1,s.2.1,s.2.2)⟩
abbrev ajQ(k:GV):Prop:=Ko (wc k)
abbrev abH:=Int->vJ
def uE(k:abH):aq:=⟨314,[an],an,[],λs=>k s⟩
abbrev apY(k:abH):Prop:=Ko (uE k)
abbrev aaN:=Q55->Option (Except Int Int)
def kQ(k:aaN):bH:=⟨326,[agW,an,L8],Dh,none,false,false,jB,[],λs=>k (s.2.1,s.2.2,s.1)⟩
abbrev apX(k:aaN):Prop:=px (kQ k)
abbrev aaV:=Q55->Option Q64
def iY(k:aaV):aq:=⟨326,[afw,an,L8],jB,[(true,0,afM)],λs=>k (s.2.1,s.2.2,s.1)⟩
abbrev aqb(k:aaV):Prop:=Ko (iY k)
abbrev aaD:=Q47->Option ID
def nF(k:aaD):aq:=⟨343,[ak7,an,di],an,[(true,0,alN)],λs=>k (s.2.2.2.2.2.2.1,s.2.2.2.2.2.2.2,s.1,s.2.1,s.2.2.1,s.2.2.2.1,s.2.2.2.2.1,s.2.2.2.2.2.1)⟩
abbrev aqa(k:aaD):Prop:=Ko (nF k)
abbrev aad:=Q50->Option (Q4×Q1)
def kP(k:aad):aq:=⟨344,[ajW,an],ew,[(true,0,abk)],λs=>k (s.2.2.2.2.2.2,s.1,s.2.1,s.2.2.1,s.2.2.2.1,s.2.2.2.2.1,s.2.2.2.2.2.1)⟩
abbrev ap2(k:aad):Prop:=Ko (kP k)
abbrev aan:=(Ex×Q1)->vJ
def tl(k:aan):aq:=⟨162,[fA,aS],an,[],λs=>k (s.1,s.2)⟩
abbrev ap0(k:aan):Prop:=Ko (tl k)
abbrev Ph:=(Ex×Ex)->vc
def uJ(k:Ph):aq:=⟨155,[fA,fA],.bool,[],λs=>k (s.1,s.2)⟩
abbrev apd(k:Ph):Prop:=Ko (uJ k)
abbrev acy:=Q42->Option IL
def gA(k:acy):aq:=⟨156,[nR,(.dat ta []),Zx,LS,(.bx 232 0 true [HC]),amw],ew,[(true,2,Zx),(true,3,LS),(true,4,(.bx 232 0 true [.same])),(true,1005,HC),(true,5,(.bx 283 0 true [.same]))],λs=>k (s.1,s.2.1,s.2.2.1,s.2.2.2.1,s.2.2.2.2)⟩
abbrev ap4(k:acy):Prop:=Ko (gA k)
abbrev ZT:=(Ex×gN)->Option aU
def yw(k:ZT):aq:=⟨121,[fA,Kx],dN,[],λs=>k (s.1,s.2)⟩
abbrev aqc(k:ZT):Prop:=Ko (yw k)
def aaJ:aq:=⟨17,[.str],(.sli .s),[],λs=>yZ s⟩
theorem Sj:Ko aaJ:=
 aw .o call17 func17 (aj ajy al)
def vp:aq:=⟨18,[(.sli .s),.str],an,[],U2 cS⟩
theorem fO:Ko vp:=
 aw (.l ⟨[(false,8,an)],[]⟩ .o) call18 func18 al
def Yg:aq:=⟨19,[.str],Az,[],λs=>wu s⟩
theorem PV:Ko Yg:=
 aw (.c .o (.l ⟨[(false,4,an),(false,16,an)],[]⟩ .o)) call19 func19 al
def Wi:aq:=⟨9,[.str],(.cE [wi,.bool]),[],λs=>dC s⟩
theorem pQ:Ko Wi:=
 aw (.c .o (.r [] (.s (.j ⟨[(false,6,an)],[]⟩ .o (.c .o (.l ⟨[(true,2,(.bx 33 0 true [.same,.same,.same,.same,.same,.same])),(true,7,(.bx 50 0 true [an,an,an,an,an])),(false,37,an)],[]⟩ .o)))))) call9 func9 (aj Sj (aj fO (aj PV al)))
def ahf:aq:=⟨22,[.str,aS],.str,[],U2 kH⟩
theorem II:Ko ahf:=
 aw (.l ⟨[(false,0,.str),(false,9,an)],[]⟩ .o) call22 func22 (aj WY al)
def adq:aq:=⟨82,[ig],.bool,[],λs=>XM s⟩
theorem UT:Ko adq:=
 aw .o call82 func82 al
def UH:aq:=⟨84,[ig],.bool,[],λs=>IC s⟩
theorem KI:Ko UH:=
 aw .o call84 func84 al
def aiw:aq:=⟨83,[.str,(.fn 84 [] [])],.str,[],λs=>afl s⟩
theorem aba:Ko aiw:=
 aw (.l ⟨[(false,8,an)],[]⟩ .o) call83 func83 (aj KI al)
def acD:aq:=⟨127,[ig],.bool,[],λs=>Hs s⟩
theorem CY:Ko acD:=
 aw .o call127 func127 al
def adn:aq:=⟨129,[ig],.bool,[],λs=>CD s⟩
theorem vN:Ko adn:=
 aw .o call129 func129 al
def aaw:aq:=⟨128,[ig],.bool,[],λs=>Rd s⟩
theorem SJ:Ko aaw:=
 aw .o call128 func128 (aj CY (aj vN al))
def aa7:aq:=⟨83,[.str,(.fn 128 [] [])],.str,[],λs=>S1 s⟩
theorem SE:Ko aa7:=
 aw (.l ⟨[(false,8,an)],[]⟩ .o) call83 func83 (aj SJ al)
def aaT:aq:=⟨83,[.str,(.fn 129 [] [])],.str,[],λs=>Sy s⟩
theorem Un:Ko aaT:=
 aw (.l ⟨[(false,8,an)],[]⟩ .o) call83 func83 (aj vN al)
def adK:aq:=⟨130,[.str],Az,[],λs=>Xq s⟩
def vY(a:(Int×aF×Nat)->Option kc):Int×aF×Nat->Option kc:=λ⟨c,s,b⟩=> bif decide (b<List.length s) then ( bif decide (1073741824<(i64.wrap ((i64.wrap (10*c))+(i64.wrap (i32.wrap ((AG s b)-48)))))) then some (0,false) else a ((i64.wrap ((i64.wrap (10*c))+(i64.wrap (i32.wrap ((AG s b)-48))))),s,(mQ s b))) else ( some (c,true))
theorem Ow(s:aF):∀(N:Nat) (n:Int) (p:Nat),az vY N (n,s,p)=az (BD s) N (n,p)
 |0,_,_=>rfl
 |N+1,n,p=>by rw [Xj,Xj];simp only [vY,BD,Ow s N]
theorem Vc:Ko adK:=
 aX (.l ⟨[(false,4,an),(true,8,.it)],[]⟩ .o) call130 func130 al al al λs=>(show _=az vY aC (0,s,0) from by kernel_rfl).trans (Ow s aC 0 0)
def aed:aq:=⟨176,[],AH,[],λ_=>WV⟩
theorem VD:Ko aed:=
 aw .o call176 func176 al
def rP:aq:=⟨202,[.str,.str],.bool,[],U2 j9⟩
theorem pb:Ko rP:=
 aw .o call202 func202 al
def Jt:aq:=⟨177,[.str,.str],.bool,[],U2 ya⟩
theorem EJ:Ko Jt:=
 aw .o call177 func177 (aj pb al)
def agI:aq:=⟨131,[.str],.str,[],λs=>aci s⟩
theorem Y0:Ko agI:=
 aw (.l ⟨[(false,7,an)],[]⟩ .o) call131 func131 (aj VD (aj EJ al))
def adf:aq:=⟨85,[.str],(.cE [(.dat nd []),an]),[],λs=>W6 s⟩
theorem US:Ko adf:=
 aw .o call85 func85 (aj CY (aj SE (aj vN (aj Un (aj Vc (aj Y0 al))))))
def abz:aq:=⟨55,[.str],(.cE [(.own nd 142 true),an,an]),[],λs=>yV s⟩
theorem CA:Ko abz:=
 aw (.n 0 (.j ⟨[(false,5,(.own nd 142 true)),(false,6,an)],[]⟩ .o .o)) call55 func55 (aj UT (aj aba (aj US al)))
def Nd:aq:=⟨88,[ahe],(.dat nd []),[],U7 dE⟩
theorem dM:Ko Nd:=
 aw (.r [2] .o) call88 func88 al
def R6:aq:=⟨89,[ahe,an,.str],.bool,[],λs=>gm s.2.2.2.2.2.2.2.1 s.2.2.2.2.2.2.2.2 s.1 s.2.1 s.2.2.1 s.2.2.2.1 s.2.2.2.2.1 s.2.2.2.2.2.1 s.2.2.2.2.2.2.1⟩
theorem il:Ko R6:=
 aw .o call89 func89 (aj dM al)
def Nj:bH:=⟨90,[ahe,an],DY,none,true,false,ew,[],λs=>cG s.2.2.2.2.2.2.2 s.1 s.2.1 s.2.2.1 s.2.2.2.1 s.2.2.2.2.1 s.2.2.2.2.2.1 s.2.2.2.2.2.2.1⟩
theorem eX:px Nj:=
 abK .o call90 func90 (aj dM al)
def s6:aq:=⟨203,[(.sli .s),.str],.bool,[],U2 kM⟩
theorem pP:Ko s6:=
 aw .o call203 func203 (aj fO al)
def agC:aq:=⟨178,[.str],.bool,[],λs=>oB s⟩
theorem mO:Ko agC:=
 aw .o call178 func178 (aj pP al)
def sZ:aq:=⟨18,[AX,.str],an,[],U2 cV⟩
theorem eZ:Ko sZ:=
 aw (.l ⟨[(false,8,an)],[]⟩ .o) call18 func18 al
def pS:aq:=⟨203,[AX,.str],.bool,[],U2 fC⟩
theorem nI:Ko pS:=
 aw .o call203 func203 (aj eZ al)
def K6:aq:=⟨179,[ahe,.str],.bool,[],λs=>Bo s.2.2.2.2.2.2.2 s.1 s.2.1 s.2.2.1 s.2.2.2.1 s.2.2.2.2.1 s.2.2.2.2.2.1 s.2.2.2.2.2.2.1⟩
theorem FJ:Ko K6:=
 aw .o call179 func179 (aj nI al)
def M6:bH:=⟨132,[aaz,.bool],DY,none,false,false,.str,[(true,0,Pz)],λs=>tK s.2.2.2.2.2.2.2 s.1 s.2.1 s.2.2.1 s.2.2.2.1 s.2.2.2.2.1 s.2.2.2.2.2.1 s.2.2.2.2.2.2.1⟩
theorem uD:px M6:=
 ou (.s (.s (.j ⟨[],[]⟩ .o .o))) call132 func132 (aj dM (aj mO (aj FJ al))) (aj eX al) al λ_=>by kernel_rfl
def Jl:bH:=⟨133,[aaz],DY,none,false,false,an,[(true,0,Pz)],U7 kT⟩
theorem Ei:px Jl:=
 ou (.s (.s (.j ⟨[(true,0,Pz)],[]⟩ .o (.s (.j ⟨[],[]⟩ .o .o))))) call133 func133 (aj il (aj dM al)) (aj eX al) al λ_=>by kernel_rfl
def Ny:bH:=⟨134,[aaz,.str],DY,none,false,false,ew,[(true,0,Pz)],λs=>ek s.2.2.2.2.2.2.2 s.1 s.2.1 s.2.2.1 s.2.2.2.1 s.2.2.2.2.1 s.2.2.2.2.2.1 s.2.2.2.2.2.2.1⟩
theorem jc:px Ny:=
 ou (.j ⟨[],[]⟩ .o .o) call134 func134 (aj il al) (aj eX al) al λ_=>by kernel_rfl
def MY:aq:=⟨96,[(.dat dA [])],.bool,[],λs=>tg s⟩
theorem ud:Ko MY:=
 aw .o call96 func96 al
def Gr:aq:=⟨95,[Mn,(.fn 96 [] [])],dN,[],λs=>vk s⟩
theorem Aj:Ko Gr:=
 aw (.l ⟨[(true,5,dN),(false,13,an)],[]⟩ .o) call95 func95 (aj ud al)
def Bs:aq:=⟨140,[(.sli .bo),.bool],an,[],U2 ri⟩
theorem wF:Ko Bs:=
 aw (.l ⟨[(false,8,an)],[]⟩ .o) call140 func140 al
def w9:aq:=⟨94,[(.sli .bo),.bool],.bool,[],U2 fN⟩
theorem fS:Ko w9:=
 aw .o call94 func94 (aj wF al)
def Nq:aq:=⟨61,[Mn],.bool,[],λs=>CH s⟩
theorem Hy:Ko Nq:=
 aw .o call61 func61 (aj Aj (aj fS al))
def MO:aq:=⟨141,[(.dat dA []),an],.bool,[],U2 nA⟩
theorem lY:Ko MO:=
 aw .o call141 func141 al
def VJ:aq:=⟨97,[Mn,aS],an,[],U2 LH⟩
theorem Nh:Ko VJ:=
 aw (.c .o (.l ⟨[(false,14,an)],[]⟩ .o)) call97 func97 (aj lY al)
def Gg:bH:=⟨86,[(.bx 138 0 true [GX,an,AH,HY,fq,AX,(.own rG 299 false)])],DY,none,false,false,ew,[(true,0,(.bx 138 0 true [.same,an,AH,HY,fq,.same,.same]))],U7 uX⟩
theorem BI:px Gg:=
 ou (.s (.s (.s (.s (.s (.j ⟨[],[]⟩ .o (.r [0] .o))))))) call86 func86 (aj dM (aj Hy (aj Nh al))) (aj uD (aj Ei (aj jc al))) al λ_=>by kernel_rfl
def Ja:aq:=⟨136,[iq,an],bF,[(true,0,(.bx 196 0 true [.same,.same,.same,.same,an,an]))],λs=>bG s.2.2.2.2.2.2 s.1 s.2.1 s.2.2.1 s.2.2.2.1 s.2.2.2.2.1 s.2.2.2.2.2.1⟩
theorem dV:Ko Ja:=
 aw (.c (.r [0] .o) .o) call136 func136 al
def Jg:aq:=⟨183,[(.bx 196 0 false [GX,an,AX,an,an,an])],(.dat nd []),[],U6 aQ⟩
theorem bN:Ko Jg:=
 aw (.r [2] .o) call183 func183 al
def M9:aq:=⟨182,[(.bx 196 0 false [GX,an,AX,an,an,an]),aS],Az,[],λs=>bp s.2.2.2.2.2.2 s.1 s.2.1 s.2.2.1 s.2.2.2.1 s.2.2.2.2.1 s.2.2.2.2.2.1⟩
theorem ck:Ko M9:=
 aw (.c .o (.l ⟨[(false,27,an)],[]⟩ .o)) call182 func182 (aj bN (aj mO al))
def JK(a:cR):aq:=⟨228,[iq],bF,[(true,0,cw)],λs=>rW a s.1 s.2.1 s.2.2.1 s.2.2.2.1 s.2.2.2.2.1 s.2.2.2.2.2⟩
def oI(h:Ex->Ex)(C:Sh->(R:Type)->Option R->Option R)(B:Q2->Option Q3)(l:Q6)(at_:Int)(c:aD)(d:Int)(f:Int)(b:Int):Option Q3:= bif f != 0 then some ((Ex.mk 0 0 0 []),at_,d,f,b) else (aQ l at_ c d f b).bind λe=> (bp ([13,14]:xg) l at_ c d f b).bind λn=> bif n.2 then ( some ((Ex.mk n.1 0 e.2.2.2 []),(i64.wrap (at_+1)),d,f,b)) else ( bif e.1==2 then some ((Ex.mk 1 e.2.2.1 e.2.2.2 []),(i64.wrap (at_+1)),d,f,b) else ai (e.1==1) λp=> bu p default (oB e.2.1) λs=> ai (!s) λA=> ai (p&&A) λz=> bif z then ( (cV c e.2.1).bind λm=> bif decide (m<0) then (bG 3 l at_ c d f b).bind λj=> some ((h j.1),at_,d,j.2.1,j.2.2) else some ((Ex.mk 2 m e.2.2.2 []),(i64.wrap (at_+1)),d,f,b)) else ( ai (e.1==3) λy=> ai (e.2.1==[40]) λx=> ai (y&&x) λw=> bif w then ( (B (l,(i64.wrap (at_+1)),c,d,f,b)).bind λa=> ai (a.2.2.2.1==0) λk=> bu k default (aQ l a.2.1 c a.2.2.1 a.2.2.2.1 a.2.2.2.2) λr=> ai (r.1 != 3) λo=> bu (k&& !o) default (aQ l a.2.1 c a.2.2.1 a.2.2.2.1 a.2.2.2.2) λq=> ai (q.2.1 != [41]) λv=> ai (o||v) λu=> ai (k&&u) λt=> bif t then ( (bG 2 l a.2.1 c a.2.2.1 a.2.2.2.1 a.2.2.2.2).bind λi=> some ((h i.1),a.2.1,a.2.2.1,i.2.1,i.2.2)) else ( bif a.2.2.2.1==0 then some ((h a.1),(i64.wrap (a.2.1+1)),a.2.2.1,a.2.2.2.1,a.2.2.2.2) else some ((h a.1),a.2.1,a.2.2.1,a.2.2.2.1,a.2.2.2.2))) else ( (bG 2 l at_ c d f b).bind λg=> some ((h g.1),at_,d,g.2.1,g.2.2))))
theorem FN(a:cR)(d:iK a):Ko (JK a):=
 aX (.c .o (.c .o (.c .o (.c (.r [0] .o) .o)))) call228 func228 (aj bN (aj ck (aj mO (aj eZ (aj dV (aj d al)))))) al al λs=>(show _=oI bk aM a s.1 s.2.1 s.2.2.1 s.2.2.2.1 s.2.2.2.2.1 s.2.2.2.2.2 from by kernel_rfl).trans ((congrArg (λb=>oI b aM a s.1 s.2.1 s.2.2.1 s.2.2.2.1 s.2.2.2.2.1 s.2.2.2.2.2) aJ).trans ((congrArg (λe=>oI id e a s.1 s.2.1 s.2.2.1 s.2.2.2.1 s.2.2.2.2.1 s.2.2.2.2.2) aN).trans (by kernel_rfl)))
def Gm(a:cR)(b:UB):aq:=⟨222,[iq,MN,(.fn 228 [] []),aS],bF,[(true,0,cw)],λs=>nc a b s.2.2.2.2.2.2 s.1 s.2.1 s.2.2.1 s.2.2.2.1 s.2.2.2.2.1 s.2.2.2.2.2.1⟩
def lB(h:Ex->Ex)(m:Sh->(R:Type)->Option R->Option R)(k:Q2->Option Q3)(j:Q2->Option Q3)(ops:Q1)(l:Q6)(at_:Int)(b:aD)(c:Int)(f:Int)(a:Int):Option Q3:= (bp ops l at_ b c f a).bind λg=> bif !g.2 then (rW k l at_ b c f a).bind λe=> some ((h e.1),e.2.1,e.2.2.1,e.2.2.2.1,e.2.2.2.2) else (aQ l at_ b c f a).bind λi=> (j (l,(i64.wrap (at_+1)),b,c,f,a)).bind λd=> some ((Ex.mk g.1 0 i.2.2.2 ([(h d.1)]:List Ex)),d.2.1,d.2.2.1,d.2.2.2.1,d.2.2.2.2)
theorem Bm(a:cR)(e:iK a)(b:UB)(f:OK0 b):Ko (Gm a b):=
 aX (.c .o (.r [0,8] .o)) call222 func222 (aj ck (aj (FN a e) (aj bN (aj f al)))) al al λs=>(show _=lB bk aM a b s.2.2.2.2.2.2 s.1 s.2.1 s.2.2.1 s.2.2.2.1 s.2.2.2.2.1 s.2.2.2.2.2.1 from by kernel_rfl).trans ((congrArg (λd=>lB d aM a b s.2.2.2.2.2.2 s.1 s.2.1 s.2.2.1 s.2.2.2.1 s.2.2.2.2.1 s.2.2.2.2.2.1) aJ).trans ((congrArg (λg=>lB id g a b s.2.2.2.2.2.2 s.1 s.2.1 s.2.2.1 s.2.2.2.1 s.2.2.2.2.1 s.2.2.2.2.2.1) aN).trans (by kernel_rfl)))
def Lg(a:cR)(b:UB):aq:=⟨227,[iq],bF,[(true,0,cw)],λs=>rH a b s.1 s.2.1 s.2.2.1 s.2.2.2.1 s.2.2.2.2.1 s.2.2.2.2.2⟩
def oy(e:Ex->Ex)(i:Sh->(R:Type)->Option R->Option R)(h:Q2->Option Q3)(g:Q2->Option Q3)(l:Q6)(at_:Int)(c:aD)(d:Int)(f:Int)(b:Int):Option Q3:= (nc h g ([6]:xg) l at_ c d f b).bind λa=> some ((e a.1),a.2.1,a.2.2.1,a.2.2.2.1,a.2.2.2.2)
theorem Gd(a:cR)(d:iK a)(b:UB)(e:OK0 b):Ko (Lg a b):=
 aX .o call227 func227 (aj (Bm a d b e) al) al al λs=>(show _=oy bk aM a b s.1 s.2.1 s.2.2.1 s.2.2.2.1 s.2.2.2.2.1 s.2.2.2.2.2 from by kernel_rfl).trans ((congrArg (λc=>oy c aM a b s.1 s.2.1 s.2.2.1 s.2.2.2.1 s.2.2.2.2.1 s.2.2.2.2.2) aJ).trans ((congrArg (λf=>oy id f a b s.1 s.2.1 s.2.2.1 s.2.2.2.1 s.2.2.2.2.1 s.2.2.2.2.2) aN).trans (by kernel_rfl)))
def sC(a:cR):aq:=⟨91,[iq,MN],bF,[(true,0,cw)],λs=>nw a s.1 s.2.1 s.2.2.1 s.2.2.2.1 s.2.2.2.2.1 s.2.2.2.2.2⟩
def jO(f:Ex->Ex)(j:Sh->(R:Type)->Option R->Option R)(i:Q2->Option Q3)(h:Q2->Option Q3)(l:Q6)(at_:Int)(d:aD)(a:Int)(g:Int)(c:Int):Option Q3:= bif decide (320<=a) then (bG 9 l at_ d a g c).bind λe=> some ((f e.1),at_,a,e.2.1,e.2.2) else (rH i h l at_ d (i64.wrap (a+1)) g c).bind λb=> some ((f b.1),b.2.1,(i64.wrap (b.2.2.1-1)),b.2.2.2.1,b.2.2.2.2)
def sD(a:cR):UB->UB:=λb s=>sP a b s.1 s.2.1 s.2.2.1 s.2.2.2.1 s.2.2.2.2.1 s.2.2.2.2.2
theorem xL(a:cR)(d:iK a)(b:UB)(e:OK0 b):(gU (sD a b)).Ok X0.P X0.Γ:=
 aX .o call91 func91 (aj dV (aj (Gd a d b e) al)) al al λs=>(show _=jO bk aM a b s.1 s.2.1 s.2.2.1 s.2.2.2.1 s.2.2.2.2.1 s.2.2.2.2.2 from by kernel_rfl).trans ((congrArg (λc=>jO c aM a b s.1 s.2.1 s.2.2.1 s.2.2.2.1 s.2.2.2.2.1 s.2.2.2.2.2) aJ).trans ((congrArg (λf=>jO id f a b s.1 s.2.1 s.2.2.1 s.2.2.2.1 s.2.2.2.2.1 s.2.2.2.2.2) aN).trans (by kernel_rfl)))
theorem Bx(a:cR)(b:iK a):Ko (sC a):=(show sC a=gU (az (sD a) aC) by kernel_rfl)▸dT (X:=X0) (E:=gU) ⟨call91,λ_ _ h=>nomatch h⟩ (xL a b) aC
def EW(a:cR):aq:=⟨226,[iq],bF,[(true,0,cw)],λs=>fR a s.1 s.2.1 s.2.2.1 s.2.2.2.1 s.2.2.2.2.1 s.2.2.2.2.2⟩
def kB(e:Ex->Ex)(h:Sh->(R:Type)->Option R->Option R)(g:Q2->Option Q3)(l:Q6)(at_:Int)(c:aD)(d:Int)(f:Int)(b:Int):Option Q3:= (nw g l at_ c d f b).bind λa=> some ((e a.1),a.2.1,a.2.2.1,a.2.2.2.1,a.2.2.2.2)
theorem yC(a:cR)(c:iK a):Ko (EW a):=
 aX .o call226 func226 (aj (Bx a c) al) al al λs=>(show _=kB bk aM a s.1 s.2.1 s.2.2.1 s.2.2.2.1 s.2.2.2.2.1 s.2.2.2.2.2 from by kernel_rfl).trans ((congrArg (λb=>kB b aM a s.1 s.2.1 s.2.2.1 s.2.2.2.1 s.2.2.2.2.1 s.2.2.2.2.2) aJ).trans ((congrArg (λd=>kB id d a s.1 s.2.1 s.2.2.1 s.2.2.2.1 s.2.2.2.2.1 s.2.2.2.2.2) aN).trans (by kernel_rfl)))
def GR(a:cR):aq:=⟨214,[iq,(.fn 226 [] []),aS],bF,[(true,0,cw)],λs=>nU a s.2.2.2.2.2.2 s.1 s.2.1 s.2.2.1 s.2.2.2.1 s.2.2.2.2.1 s.2.2.2.2.2.1⟩
def BS(o:Ex->Ex)(q:Sh->(R:Type)->Option R->Option R)(p:Q2->Option Q3)(ops:Q1)(l:Q6)(a:aD)(g:x7->Option Q3):Int×Int×Int×Int×Int×Int×Int×(List Ex)->Option Q3:=λ⟨f,e,b,d,k,j,i,h⟩=> bif b==0 then (bp ops l f a e b d).bind λm=> bif !m.2 then some ((Ex.mk k j i h),f,e,b,d) else (aQ l f a e b d).bind λn=> (fR p l (i64.wrap (f+1)) a e b d).bind λc=> g (c.2.1,c.2.2.1,c.2.2.2.1,c.2.2.2.2,m.1,0,n.2.2.2,([(Ex.mk k j i h),(o c.1)]:List Ex)) else some ((Ex.mk k j i h),f,e,b,d)
def mf(e:Ex->Ex)(h:Sh->(R:Type)->Option R->Option R)(g:Q2->Option Q3)(ops:Q1)(l:Q6)(at_:Int)(b:aD)(d:Int)(f:Int)(c:Int):Option Q3:= (fR g l at_ b d f c).bind λa=> az (BS e h g ops l b) aC (a.2.1,a.2.2.1,a.2.2.2.1,a.2.2.2.2,a.1.op,a.1.n,a.1.at_,a.1.l)
theorem Ca(a:cR)(c:iK a):Ko (GR a):=
 aX (.l ⟨[(true,0,cw),(true,6,GD),(true,7,JD)],[]⟩ .o) call214 func214 (aj (yC a c) (aj ck (aj bN al))) al al λs=>(show _=mf bk aM a s.2.2.2.2.2.2 s.1 s.2.1 s.2.2.1 s.2.2.2.1 s.2.2.2.2.1 s.2.2.2.2.2.1 from by kernel_rfl).trans ((congrArg (λb=>mf b aM a s.2.2.2.2.2.2 s.1 s.2.1 s.2.2.1 s.2.2.2.1 s.2.2.2.2.1 s.2.2.2.2.2.1) aJ).trans ((congrArg (λd=>mf id d a s.2.2.2.2.2.2 s.1 s.2.1 s.2.2.1 s.2.2.2.1 s.2.2.2.2.1 s.2.2.2.2.2.1) aN).trans (by kernel_rfl)))
def Jr(a:cR):aq:=⟨225,[iq],bF,[(true,0,cw)],λs=>iN a s.1 s.2.1 s.2.2.1 s.2.2.2.1 s.2.2.2.2.1 s.2.2.2.2.2⟩
def nh(e:Ex->Ex)(h:Sh->(R:Type)->Option R->Option R)(g:Q2->Option Q3)(l:Q6)(at_:Int)(c:aD)(d:Int)(f:Int)(b:Int):Option Q3:= (nU g ([5]:xg) l at_ c d f b).bind λa=> some ((e a.1),a.2.1,a.2.2.1,a.2.2.2.1,a.2.2.2.2)
theorem EA(a:cR)(c:iK a):Ko (Jr a):=
 aX .o call225 func225 (aj (Ca a c) al) al al λs=>(show _=nh bk aM a s.1 s.2.1 s.2.2.1 s.2.2.2.1 s.2.2.2.2.1 s.2.2.2.2.2 from by kernel_rfl).trans ((congrArg (λb=>nh b aM a s.1 s.2.1 s.2.2.1 s.2.2.2.1 s.2.2.2.2.1 s.2.2.2.2.2) aJ).trans ((congrArg (λd=>nh id d a s.1 s.2.1 s.2.2.1 s.2.2.2.1 s.2.2.2.2.1 s.2.2.2.2.2) aN).trans (by kernel_rfl)))
def GG(a:cR):aq:=⟨214,[iq,(.fn 225 [] []),aS],bF,[(true,0,cw)],λs=>nP a s.2.2.2.2.2.2 s.1 s.2.1 s.2.2.1 s.2.2.2.1 s.2.2.2.2.1 s.2.2.2.2.2.1⟩
def Ch(o:Ex->Ex)(q:Sh->(R:Type)->Option R->Option R)(p:Q2->Option Q3)(ops:Q1)(l:Q6)(a:aD)(g:x7->Option Q3):Int×Int×Int×Int×Int×Int×Int×(List Ex)->Option Q3:=λ⟨f,e,b,d,k,j,i,h⟩=> bif b==0 then (bp ops l f a e b d).bind λm=> bif !m.2 then some ((Ex.mk k j i h),f,e,b,d) else (aQ l f a e b d).bind λn=> (iN p l (i64.wrap (f+1)) a e b d).bind λc=> g (c.2.1,c.2.2.1,c.2.2.2.1,c.2.2.2.2,m.1,0,n.2.2.2,([(Ex.mk k j i h),(o c.1)]:List Ex)) else some ((Ex.mk k j i h),f,e,b,d)
def lW(e:Ex->Ex)(h:Sh->(R:Type)->Option R->Option R)(g:Q2->Option Q3)(ops:Q1)(l:Q6)(at_:Int)(b:aD)(d:Int)(f:Int)(c:Int):Option Q3:= (iN g l at_ b d f c).bind λa=> az (Ch e h g ops l b) aC (a.2.1,a.2.2.1,a.2.2.2.1,a.2.2.2.2,a.1.op,a.1.n,a.1.at_,a.1.l)
theorem B0(a:cR)(c:iK a):Ko (GG a):=
 aX (.l ⟨[(true,0,cw),(true,6,GD),(true,7,JD)],[]⟩ .o) call214 func214 (aj (EA a c) (aj ck (aj bN al))) al al λs=>(show _=lW bk aM a s.2.2.2.2.2.2 s.1 s.2.1 s.2.2.1 s.2.2.2.1 s.2.2.2.2.1 s.2.2.2.2.2.1 from by kernel_rfl).trans ((congrArg (λb=>lW b aM a s.2.2.2.2.2.2 s.1 s.2.1 s.2.2.1 s.2.2.2.1 s.2.2.2.2.1 s.2.2.2.2.2.1) aJ).trans ((congrArg (λd=>lW id d a s.2.2.2.2.2.2 s.1 s.2.1 s.2.2.1 s.2.2.2.1 s.2.2.2.2.1 s.2.2.2.2.2.1) aN).trans (by kernel_rfl)))
def Lj(a:cR):aq:=⟨224,[iq],bF,[(true,0,cw)],λs=>jo a s.1 s.2.1 s.2.2.1 s.2.2.2.1 s.2.2.2.2.1 s.2.2.2.2.2⟩
def oO(e:Ex->Ex)(h:Sh->(R:Type)->Option R->Option R)(g:Q2->Option Q3)(l:Q6)(at_:Int)(c:aD)(d:Int)(f:Int)(b:Int):Option Q3:= (nP g ([3,4]:xg) l at_ c d f b).bind λa=> some ((e a.1),a.2.1,a.2.2.1,a.2.2.2.1,a.2.2.2.2)
theorem Fq(a:cR)(c:iK a):Ko (Lj a):=
 aX .o call224 func224 (aj (B0 a c) al) al al λs=>(show _=oO bk aM a s.1 s.2.1 s.2.2.1 s.2.2.2.1 s.2.2.2.2.1 s.2.2.2.2.2 from by kernel_rfl).trans ((congrArg (λb=>oO b aM a s.1 s.2.1 s.2.2.1 s.2.2.2.1 s.2.2.2.2.1 s.2.2.2.2.2) aJ).trans ((congrArg (λd=>oO id d a s.1 s.2.1 s.2.2.1 s.2.2.2.1 s.2.2.2.2.1 s.2.2.2.2.2) aN).trans (by kernel_rfl)))
def KO(a:cR):aq:=⟨223,[iq],bF,[(true,0,cw)],λs=>rY a s.1 s.2.1 s.2.2.1 s.2.2.2.1 s.2.2.2.2.1 s.2.2.2.2.2⟩
def oA(e:Ex->Ex)(o:Sh->(R:Type)->Option R->Option R)(n:Q2->Option Q3)(l:Q6)(at_:Int)(b:aD)(g:Int)(i:Int)(d:Int):Option Q3:= (jo n l at_ b g i d).bind λa=> (bp ([7,8,9,10,11,12]:xg) l a.2.1 b a.2.2.1 a.2.2.2.1 a.2.2.2.2).bind λf=> ai (a.2.2.2.1 != 0) λm=> ai (!f.2) λk=> ai (m||k) λj=> bif j then ( some ((e a.1),a.2.1,a.2.2.1,a.2.2.2.1,a.2.2.2.2)) else ( (aQ l a.2.1 b a.2.2.1 a.2.2.2.1 a.2.2.2.2).bind λh=> (jo n l (i64.wrap (a.2.1+1)) b a.2.2.1 a.2.2.2.1 a.2.2.2.2).bind λc=> some ((Ex.mk f.1 0 h.2.2.2 ([(e a.1),(e c.1)]:List Ex)),c.2.1,c.2.2.1,c.2.2.2.1,c.2.2.2.2))
theorem Ff(a:cR)(c:iK a):Ko (KO a):=
 aX .o call223 func223 (aj (Fq a c) (aj ck (aj bN al))) al al λs=>(show _=oA bk aM a s.1 s.2.1 s.2.2.1 s.2.2.2.1 s.2.2.2.2.1 s.2.2.2.2.2 from by kernel_rfl).trans ((congrArg (λb=>oA b aM a s.1 s.2.1 s.2.2.1 s.2.2.2.1 s.2.2.2.2.1 s.2.2.2.2.2) aJ).trans ((congrArg (λd=>oA id d a s.1 s.2.1 s.2.2.1 s.2.2.2.1 s.2.2.2.2.1 s.2.2.2.2.2) aN).trans (by kernel_rfl)))
def Gn(a:cR)(b:Uj):aq:=⟨222,[iq,Mo,(.fn 223 [] []),aS],bF,[(true,0,cw)],λs=>mV a b s.2.2.2.2.2.2 s.1 s.2.1 s.2.2.1 s.2.2.2.1 s.2.2.2.2.1 s.2.2.2.2.2.1⟩
def lr(h:Ex->Ex)(m:Sh->(R:Type)->Option R->Option R)(k:Q2->Option Q3)(j:Q2->Option Q3)(ops:Q1)(l:Q6)(at_:Int)(b:aD)(c:Int)(f:Int)(a:Int):Option Q3:= (bp ops l at_ b c f a).bind λg=> bif !g.2 then (rY k l at_ b c f a).bind λe=> some ((h e.1),e.2.1,e.2.2.1,e.2.2.2.1,e.2.2.2.2) else (aQ l at_ b c f a).bind λi=> (j (l,(i64.wrap (at_+1)),b,c,f,a)).bind λd=> some ((Ex.mk g.1 0 i.2.2.2 ([(h d.1)]:List Ex)),d.2.1,d.2.2.1,d.2.2.2.1,d.2.2.2.2)
theorem Bp(a:cR)(e:iK a)(b:Uj)(f:OK1 b):Ko (Gn a b):=
 aX (.c .o (.r [0,8] .o)) call222 func222 (aj ck (aj (Ff a e) (aj bN (aj f al)))) al al λs=>(show _=lr bk aM a b s.2.2.2.2.2.2 s.1 s.2.1 s.2.2.1 s.2.2.2.1 s.2.2.2.2.1 s.2.2.2.2.2.1 from by kernel_rfl).trans ((congrArg (λd=>lr d aM a b s.2.2.2.2.2.2 s.1 s.2.1 s.2.2.1 s.2.2.2.1 s.2.2.2.2.1 s.2.2.2.2.2.1) aJ).trans ((congrArg (λg=>lr id g a b s.2.2.2.2.2.2 s.1 s.2.1 s.2.2.1 s.2.2.2.1 s.2.2.2.2.1 s.2.2.2.2.2.1) aN).trans (by kernel_rfl)))
def KS(a:cR)(b:Uj):aq:=⟨221,[iq],bF,[(true,0,cw)],λs=>sa a b s.1 s.2.1 s.2.2.1 s.2.2.2.1 s.2.2.2.2.1 s.2.2.2.2.2⟩
def oN(e:Ex->Ex)(i:Sh->(R:Type)->Option R->Option R)(h:Q2->Option Q3)(g:Q2->Option Q3)(l:Q6)(at_:Int)(c:aD)(d:Int)(f:Int)(b:Int):Option Q3:= (mV h g ([15,20,21,22]:xg) l at_ c d f b).bind λa=> some ((e a.1),a.2.1,a.2.2.1,a.2.2.2.1,a.2.2.2.2)
theorem Fe(a:cR)(d:iK a)(b:Uj)(e:OK1 b):Ko (KS a b):=
 aX .o call221 func221 (aj (Bp a d b e) al) al al λs=>(show _=oN bk aM a b s.1 s.2.1 s.2.2.1 s.2.2.2.1 s.2.2.2.2.1 s.2.2.2.2.2 from by kernel_rfl).trans ((congrArg (λc=>oN c aM a b s.1 s.2.1 s.2.2.1 s.2.2.2.1 s.2.2.2.2.1 s.2.2.2.2.2) aJ).trans ((congrArg (λf=>oN id f a b s.1 s.2.1 s.2.2.1 s.2.2.2.1 s.2.2.2.2.1 s.2.2.2.2.2) aN).trans (by kernel_rfl)))
def sQ(a:cR):aq:=⟨91,[iq,Mo],bF,[(true,0,cw)],λs=>na a s.1 s.2.1 s.2.2.1 s.2.2.2.1 s.2.2.2.2.1 s.2.2.2.2.2⟩
def jF(f:Ex->Ex)(j:Sh->(R:Type)->Option R->Option R)(i:Q2->Option Q3)(h:Q2->Option Q3)(l:Q6)(at_:Int)(d:aD)(a:Int)(g:Int)(c:Int):Option Q3:= bif decide (320<=a) then (bG 9 l at_ d a g c).bind λe=> some ((f e.1),at_,a,e.2.1,e.2.2) else (sa i h l at_ d (i64.wrap (a+1)) g c).bind λb=> some ((f b.1),b.2.1,(i64.wrap (b.2.2.1-1)),b.2.2.2.1,b.2.2.2.2)
def sx(a:cR):Uj->Uj:=λb s=>sX a b s.1 s.2.1 s.2.2.1 s.2.2.2.1 s.2.2.2.2.1 s.2.2.2.2.2
theorem xJ(a:cR)(d:iK a)(b:Uj)(e:OK1 b):(gY (sx a b)).Ok X0.P X0.Γ:=
 aX .o call91 func91 (aj dV (aj (Fe a d b e) al)) al al λs=>(show _=jF bk aM a b s.1 s.2.1 s.2.2.1 s.2.2.2.1 s.2.2.2.2.1 s.2.2.2.2.2 from by kernel_rfl).trans ((congrArg (λc=>jF c aM a b s.1 s.2.1 s.2.2.1 s.2.2.2.1 s.2.2.2.2.1 s.2.2.2.2.2) aJ).trans ((congrArg (λf=>jF id f a b s.1 s.2.1 s.2.2.1 s.2.2.2.1 s.2.2.2.2.1 s.2.2.2.2.2) aN).trans (by kernel_rfl)))
theorem Ax(a:cR)(b:iK a):Ko (sQ a):=(show sQ a=gY (az (sx a) aC) by kernel_rfl)▸dT (X:=X0) (E:=gY) ⟨call91,λ_ _ h=>nomatch h⟩ (xJ a b) aC
def Eg(a:cR):aq:=⟨220,[iq],bF,[(true,0,cw)],λs=>ma a s.1 s.2.1 s.2.2.1 s.2.2.2.1 s.2.2.2.2.1 s.2.2.2.2.2⟩
def kz(e:Ex->Ex)(h:Sh->(R:Type)->Option R->Option R)(g:Q2->Option Q3)(l:Q6)(at_:Int)(c:aD)(d:Int)(f:Int)(b:Int):Option Q3:= (na g l at_ c d f b).bind λa=> some ((e a.1),a.2.1,a.2.2.1,a.2.2.2.1,a.2.2.2.2)
theorem yr(a:cR)(c:iK a):Ko (Eg a):=
 aX .o call220 func220 (aj (Ax a c) al) al al λs=>(show _=kz bk aM a s.1 s.2.1 s.2.2.1 s.2.2.2.1 s.2.2.2.2.1 s.2.2.2.2.2 from by kernel_rfl).trans ((congrArg (λb=>kz b aM a s.1 s.2.1 s.2.2.1 s.2.2.2.1 s.2.2.2.2.1 s.2.2.2.2.2) aJ).trans ((congrArg (λd=>kz id d a s.1 s.2.1 s.2.2.1 s.2.2.2.1 s.2.2.2.2.1 s.2.2.2.2.2) aN).trans (by kernel_rfl)))
def G7(a:cR)(b:RW):aq:=⟨137,[iq,(.fn 220 [] []),MI,aS],bF,[(true,0,cw)],λs=>nO a b s.2.2.2.2.2.2 s.1 s.2.1 s.2.2.1 s.2.2.2.1 s.2.2.2.2.1 s.2.2.2.2.2.1⟩
def lO(e:Ex->Ex)(p:Sh->(R:Type)->Option R->Option R)(o:Q2->Option Q3)(n:Q2->Option Q3)(ops:Q1)(l:Q6)(at_:Int)(b:aD)(g:Int)(i:Int)(d:Int):Option Q3:= (ma o l at_ b g i d).bind λa=> (bp ops l a.2.1 b a.2.2.1 a.2.2.2.1 a.2.2.2.2).bind λf=> ai (a.2.2.2.1 != 0) λm=> ai (!f.2) λk=> ai (m||k) λj=> bif j then ( some ((e a.1),a.2.1,a.2.2.1,a.2.2.2.1,a.2.2.2.2)) else ( (aQ l a.2.1 b a.2.2.1 a.2.2.2.1 a.2.2.2.2).bind λh=> (n (l,(i64.wrap (a.2.1+1)),b,a.2.2.1,a.2.2.2.1,a.2.2.2.2)).bind λc=> some ((Ex.mk f.1 0 h.2.2.2 ([(e a.1),(e c.1)]:List Ex)),c.2.1,c.2.2.1,c.2.2.2.1,c.2.2.2.2))
theorem B5(a:cR)(d:iK a)(b:RW)(e:OK2 b):Ko (G7 a b):=
 aX .o call137 func137 (aj (yr a d) (aj ck (aj bN (aj e al)))) al al λs=>(show _=lO bk aM a b s.2.2.2.2.2.2 s.1 s.2.1 s.2.2.1 s.2.2.2.1 s.2.2.2.2.1 s.2.2.2.2.2.1 from by kernel_rfl).trans ((congrArg (λc=>lO c aM a b s.2.2.2.2.2.2 s.1 s.2.1 s.2.2.1 s.2.2.2.1 s.2.2.2.2.1 s.2.2.2.2.2.1) aJ).trans ((congrArg (λf=>lO id f a b s.2.2.2.2.2.2 s.1 s.2.1 s.2.2.1 s.2.2.2.1 s.2.2.2.2.1 s.2.2.2.2.2.1) aN).trans (by kernel_rfl)))
def G6(a:cR)(b:RW):aq:=⟨219,[iq],bF,[(true,0,cw)],λs=>nY a b s.1 s.2.1 s.2.2.1 s.2.2.2.1 s.2.2.2.2.1 s.2.2.2.2.2⟩
def my(e:Ex->Ex)(i:Sh->(R:Type)->Option R->Option R)(h:Q2->Option Q3)(g:Q2->Option Q3)(l:Q6)(at_:Int)(c:aD)(d:Int)(f:Int)(b:Int):Option Q3:= (nO h g ([23,24]:xg) l at_ c d f b).bind λa=> some ((e a.1),a.2.1,a.2.2.1,a.2.2.2.1,a.2.2.2.2)
theorem Cr(a:cR)(d:iK a)(b:RW)(e:OK2 b):Ko (G6 a b):=
 aX .o call219 func219 (aj (B5 a d b e) al) al al λs=>(show _=my bk aM a b s.1 s.2.1 s.2.2.1 s.2.2.2.1 s.2.2.2.2.1 s.2.2.2.2.2 from by kernel_rfl).trans ((congrArg (λc=>my c aM a b s.1 s.2.1 s.2.2.1 s.2.2.2.1 s.2.2.2.2.1 s.2.2.2.2.2) aJ).trans ((congrArg (λf=>my id f a b s.1 s.2.1 s.2.2.1 s.2.2.2.1 s.2.2.2.2.1 s.2.2.2.2.2) aN).trans (by kernel_rfl)))
def sT(a:cR):aq:=⟨91,[iq,MI],bF,[(true,0,cw)],λs=>nk a s.1 s.2.1 s.2.2.1 s.2.2.2.1 s.2.2.2.2.1 s.2.2.2.2.2⟩
def jM(f:Ex->Ex)(j:Sh->(R:Type)->Option R->Option R)(i:Q2->Option Q3)(h:Q2->Option Q3)(l:Q6)(at_:Int)(d:aD)(a:Int)(g:Int)(c:Int):Option Q3:= bif decide (320<=a) then (bG 9 l at_ d a g c).bind λe=> some ((f e.1),at_,a,e.2.1,e.2.2) else (nY i h l at_ d (i64.wrap (a+1)) g c).bind λb=> some ((f b.1),b.2.1,(i64.wrap (b.2.2.1-1)),b.2.2.2.1,b.2.2.2.2)
def sU(a:cR):RW->RW:=λb s=>sM a b s.1 s.2.1 s.2.2.1 s.2.2.2.1 s.2.2.2.2.1 s.2.2.2.2.2
theorem xB(a:cR)(d:iK a)(b:RW)(e:OK2 b):(gP (sU a b)).Ok X0.P X0.Γ:=
 aX .o call91 func91 (aj dV (aj (Cr a d b e) al)) al al λs=>(show _=jM bk aM a b s.1 s.2.1 s.2.2.1 s.2.2.2.1 s.2.2.2.2.1 s.2.2.2.2.2 from by kernel_rfl).trans ((congrArg (λc=>jM c aM a b s.1 s.2.1 s.2.2.1 s.2.2.2.1 s.2.2.2.2.1 s.2.2.2.2.2) aJ).trans ((congrArg (λf=>jM id f a b s.1 s.2.1 s.2.2.1 s.2.2.2.1 s.2.2.2.2.1 s.2.2.2.2.2) aN).trans (by kernel_rfl)))
theorem BO(a:cR)(b:iK a):Ko (sT a):=(show sT a=gP (az (sU a) aC) by kernel_rfl)▸dT (X:=X0) (E:=gP) ⟨call91,λ_ _ h=>nomatch h⟩ (xB a b) aC
def AJ(a:cR):aq:=⟨218,[iq],bF,[(true,0,cw)],λs=>fp a s.1 s.2.1 s.2.2.1 s.2.2.2.1 s.2.2.2.2.1 s.2.2.2.2.2⟩
def jq(e:Ex->Ex)(h:Sh->(R:Type)->Option R->Option R)(g:Q2->Option Q3)(l:Q6)(at_:Int)(c:aD)(d:Int)(f:Int)(b:Int):Option Q3:= (nk g l at_ c d f b).bind λa=> some ((e a.1),a.2.1,a.2.2.1,a.2.2.2.1,a.2.2.2.2)
theorem wH(a:cR)(c:iK a):Ko (AJ a):=
 aX .o call218 func218 (aj (BO a c) al) al al λs=>(show _=jq bk aM a s.1 s.2.1 s.2.2.1 s.2.2.2.1 s.2.2.2.2.1 s.2.2.2.2.2 from by kernel_rfl).trans ((congrArg (λb=>jq b aM a s.1 s.2.1 s.2.2.1 s.2.2.2.1 s.2.2.2.2.1 s.2.2.2.2.2) aJ).trans ((congrArg (λd=>jq id d a s.1 s.2.1 s.2.2.1 s.2.2.2.1 s.2.2.2.2.1 s.2.2.2.2.2) aN).trans (by kernel_rfl)))
def Ig(a:cR):aq:=⟨214,[iq,(.fn 218 [] []),aS],bF,[(true,0,cw)],λs=>nN a s.2.2.2.2.2.2 s.1 s.2.1 s.2.2.1 s.2.2.2.1 s.2.2.2.2.1 s.2.2.2.2.2.1⟩
def BY(o:Ex->Ex)(q:Sh->(R:Type)->Option R->Option R)(p:Q2->Option Q3)(ops:Q1)(l:Q6)(a:aD)(g:x7->Option Q3):Int×Int×Int×Int×Int×Int×Int×(List Ex)->Option Q3:=λ⟨f,e,b,d,k,j,i,h⟩=> bif b==0 then (bp ops l f a e b d).bind λm=> bif !m.2 then some ((Ex.mk k j i h),f,e,b,d) else (aQ l f a e b d).bind λn=> (fp p l (i64.wrap (f+1)) a e b d).bind λc=> g (c.2.1,c.2.2.1,c.2.2.2.1,c.2.2.2.2,m.1,0,n.2.2.2,([(Ex.mk k j i h),(o c.1)]:List Ex)) else some ((Ex.mk k j i h),f,e,b,d)
def lJ(e:Ex->Ex)(h:Sh->(R:Type)->Option R->Option R)(g:Q2->Option Q3)(ops:Q1)(l:Q6)(at_:Int)(b:aD)(d:Int)(f:Int)(c:Int):Option Q3:= (fp g l at_ b d f c).bind λa=> az (BY e h g ops l b) aC (a.2.1,a.2.2.1,a.2.2.2.1,a.2.2.2.2,a.1.op,a.1.n,a.1.at_,a.1.l)
theorem B3(a:cR)(c:iK a):Ko (Ig a):=
 aX (.l ⟨[(true,0,cw),(true,6,GD),(true,7,JD)],[]⟩ .o) call214 func214 (aj (wH a c) (aj ck (aj bN al))) al al λs=>(show _=lJ bk aM a s.2.2.2.2.2.2 s.1 s.2.1 s.2.2.1 s.2.2.2.1 s.2.2.2.2.1 s.2.2.2.2.2.1 from by kernel_rfl).trans ((congrArg (λb=>lJ b aM a s.2.2.2.2.2.2 s.1 s.2.1 s.2.2.1 s.2.2.2.1 s.2.2.2.2.1 s.2.2.2.2.2.1) aJ).trans ((congrArg (λd=>lJ id d a s.2.2.2.2.2.2 s.1 s.2.1 s.2.2.1 s.2.2.2.1 s.2.2.2.2.1 s.2.2.2.2.2.1) aN).trans (by kernel_rfl)))
def KB(a:cR):aq:=⟨215,[iq],bF,[(true,0,cw)],λs=>jx a s.1 s.2.1 s.2.2.1 s.2.2.2.1 s.2.2.2.2.1 s.2.2.2.2.2⟩
def nS(e:Ex->Ex)(h:Sh->(R:Type)->Option R->Option R)(g:Q2->Option Q3)(l:Q6)(at_:Int)(c:aD)(d:Int)(f:Int)(b:Int):Option Q3:= (nN g ([16]:xg) l at_ c d f b).bind λa=> some ((e a.1),a.2.1,a.2.2.1,a.2.2.2.1,a.2.2.2.2)
theorem E8(a:cR)(c:iK a):Ko (KB a):=
 aX .o call215 func215 (aj (B3 a c) al) al al λs=>(show _=nS bk aM a s.1 s.2.1 s.2.2.1 s.2.2.2.1 s.2.2.2.2.1 s.2.2.2.2.2 from by kernel_rfl).trans ((congrArg (λb=>nS b aM a s.1 s.2.1 s.2.2.1 s.2.2.2.1 s.2.2.2.2.1 s.2.2.2.2.2) aJ).trans ((congrArg (λd=>nS id d a s.1 s.2.1 s.2.2.1 s.2.2.2.1 s.2.2.2.2.1 s.2.2.2.2.2) aN).trans (by kernel_rfl)))
def Je(a:cR):aq:=⟨214,[iq,(.fn 215 [] []),aS],bF,[(true,0,cw)],λs=>pz a s.2.2.2.2.2.2 s.1 s.2.1 s.2.2.1 s.2.2.2.1 s.2.2.2.2.1 s.2.2.2.2.2.1⟩
def DO(o:Ex->Ex)(q:Sh->(R:Type)->Option R->Option R)(p:Q2->Option Q3)(ops:Q1)(l:Q6)(a:aD)(g:x7->Option Q3):Int×Int×Int×Int×Int×Int×Int×(List Ex)->Option Q3:=λ⟨f,e,b,d,k,j,i,h⟩=> bif b==0 then (bp ops l f a e b d).bind λm=> bif !m.2 then some ((Ex.mk k j i h),f,e,b,d) else (aQ l f a e b d).bind λn=> (jx p l (i64.wrap (f+1)) a e b d).bind λc=> g (c.2.1,c.2.2.1,c.2.2.2.1,c.2.2.2.2,m.1,0,n.2.2.2,([(Ex.mk k j i h),(o c.1)]:List Ex)) else some ((Ex.mk k j i h),f,e,b,d)
def nt(e:Ex->Ex)(h:Sh->(R:Type)->Option R->Option R)(g:Q2->Option Q3)(ops:Q1)(l:Q6)(at_:Int)(b:aD)(d:Int)(f:Int)(c:Int):Option Q3:= (jx g l at_ b d f c).bind λa=> az (DO e h g ops l b) aC (a.2.1,a.2.2.1,a.2.2.2.1,a.2.2.2.2,a.1.op,a.1.n,a.1.at_,a.1.l)
theorem Dx(a:cR)(c:iK a):Ko (Je a):=
 aX (.l ⟨[(true,0,cw),(true,6,GD),(true,7,JD)],[]⟩ .o) call214 func214 (aj (E8 a c) (aj ck (aj bN al))) al al λs=>(show _=nt bk aM a s.2.2.2.2.2.2 s.1 s.2.1 s.2.2.1 s.2.2.2.1 s.2.2.2.2.1 s.2.2.2.2.2.1 from by kernel_rfl).trans ((congrArg (λb=>nt b aM a s.2.2.2.2.2.2 s.1 s.2.1 s.2.2.1 s.2.2.2.1 s.2.2.2.2.1 s.2.2.2.2.2.1) aJ).trans ((congrArg (λd=>nt id d a s.2.2.2.2.2.2 s.1 s.2.1 s.2.2.1 s.2.2.2.1 s.2.2.2.2.1 s.2.2.2.2.2.1) aN).trans (by kernel_rfl)))
def MX(a:cR):aq:=⟨206,[iq],bF,[(true,0,cw)],λs=>tU a s.1 s.2.1 s.2.2.1 s.2.2.2.1 s.2.2.2.2.1 s.2.2.2.2.2⟩
def pF(e:Ex->Ex)(h:Sh->(R:Type)->Option R->Option R)(g:Q2->Option Q3)(l:Q6)(at_:Int)(c:aD)(d:Int)(f:Int)(b:Int):Option Q3:= (pz g ([17]:xg) l at_ c d f b).bind λa=> some ((e a.1),a.2.1,a.2.2.1,a.2.2.2.1,a.2.2.2.2)
theorem GW(a:cR)(c:iK a):Ko (MX a):=
 aX .o call206 func206 (aj (Dx a c) al) al al λs=>(show _=pF bk aM a s.1 s.2.1 s.2.2.1 s.2.2.2.1 s.2.2.2.2.1 s.2.2.2.2.2 from by kernel_rfl).trans ((congrArg (λb=>pF b aM a s.1 s.2.1 s.2.2.1 s.2.2.2.1 s.2.2.2.2.1 s.2.2.2.2.2) aJ).trans ((congrArg (λd=>pF id d a s.1 s.2.1 s.2.2.1 s.2.2.2.1 s.2.2.2.2.1 s.2.2.2.2.2) aN).trans (by kernel_rfl)))
def H9(a:cR)(b:Ul):aq:=⟨137,[iq,(.fn 206 [] []),Ml,aS],bF,[(true,0,cw)],λs=>nV a b s.2.2.2.2.2.2 s.1 s.2.1 s.2.2.1 s.2.2.2.1 s.2.2.2.2.1 s.2.2.2.2.2.1⟩
def lS(e:Ex->Ex)(p:Sh->(R:Type)->Option R->Option R)(o:Q2->Option Q3)(n:Q2->Option Q3)(ops:Q1)(l:Q6)(at_:Int)(b:aD)(g:Int)(i:Int)(d:Int):Option Q3:= (tU o l at_ b g i d).bind λa=> (bp ops l a.2.1 b a.2.2.1 a.2.2.2.1 a.2.2.2.2).bind λf=> ai (a.2.2.2.1 != 0) λm=> ai (!f.2) λk=> ai (m||k) λj=> bif j then ( some ((e a.1),a.2.1,a.2.2.1,a.2.2.2.1,a.2.2.2.2)) else ( (aQ l a.2.1 b a.2.2.1 a.2.2.2.1 a.2.2.2.2).bind λh=> (n (l,(i64.wrap (a.2.1+1)),b,a.2.2.1,a.2.2.2.1,a.2.2.2.2)).bind λc=> some ((Ex.mk f.1 0 h.2.2.2 ([(e a.1),(e c.1)]:List Ex)),c.2.1,c.2.2.1,c.2.2.2.1,c.2.2.2.2))
theorem BW(a:cR)(d:iK a)(b:Ul)(e:OK3 b):Ko (H9 a b):=
 aX .o call137 func137 (aj (GW a d) (aj ck (aj bN (aj e al)))) al al λs=>(show _=lS bk aM a b s.2.2.2.2.2.2 s.1 s.2.1 s.2.2.1 s.2.2.2.1 s.2.2.2.2.1 s.2.2.2.2.2.1 from by kernel_rfl).trans ((congrArg (λc=>lS c aM a b s.2.2.2.2.2.2 s.1 s.2.1 s.2.2.1 s.2.2.2.1 s.2.2.2.2.1 s.2.2.2.2.2.1) aJ).trans ((congrArg (λf=>lS id f a b s.2.2.2.2.2.2 s.1 s.2.1 s.2.2.1 s.2.2.2.1 s.2.2.2.2.1 s.2.2.2.2.2.1) aN).trans (by kernel_rfl)))
def JL(a:cR)(b:Ul):aq:=⟨184,[iq],bF,[(true,0,cw)],λs=>rI a b s.1 s.2.1 s.2.2.1 s.2.2.2.1 s.2.2.2.2.1 s.2.2.2.2.2⟩
def oC(e:Ex->Ex)(i:Sh->(R:Type)->Option R->Option R)(h:Q2->Option Q3)(g:Q2->Option Q3)(l:Q6)(at_:Int)(c:aD)(d:Int)(f:Int)(b:Int):Option Q3:= (nV h g ([18]:xg) l at_ c d f b).bind λa=> some ((e a.1),a.2.1,a.2.2.1,a.2.2.2.1,a.2.2.2.2)
theorem Ga(a:cR)(d:iK a)(b:Ul)(e:OK3 b):Ko (JL a b):=
 aX .o call184 func184 (aj (BW a d b e) al) al al λs=>(show _=oC bk aM a b s.1 s.2.1 s.2.2.1 s.2.2.2.1 s.2.2.2.2.1 s.2.2.2.2.2 from by kernel_rfl).trans ((congrArg (λc=>oC c aM a b s.1 s.2.1 s.2.2.1 s.2.2.2.1 s.2.2.2.2.1 s.2.2.2.2.2) aJ).trans ((congrArg (λf=>oC id f a b s.1 s.2.1 s.2.2.1 s.2.2.2.1 s.2.2.2.2.1 s.2.2.2.2.2) aN).trans (by kernel_rfl)))
def sE(a:cR):aq:=⟨91,[iq,Ml],bF,[(true,0,cw)],λs=>nj a s.1 s.2.1 s.2.2.1 s.2.2.2.1 s.2.2.2.2.1 s.2.2.2.2.2⟩
def jK(f:Ex->Ex)(j:Sh->(R:Type)->Option R->Option R)(i:Q2->Option Q3)(h:Q2->Option Q3)(l:Q6)(at_:Int)(d:aD)(a:Int)(g:Int)(c:Int):Option Q3:= bif decide (320<=a) then (bG 9 l at_ d a g c).bind λe=> some ((f e.1),at_,a,e.2.1,e.2.2) else (rI i h l at_ d (i64.wrap (a+1)) g c).bind λb=> some ((f b.1),b.2.1,(i64.wrap (b.2.2.1-1)),b.2.2.2.1,b.2.2.2.2)
def sS(a:cR):Ul->Ul:=λb s=>sN a b s.1 s.2.1 s.2.2.1 s.2.2.2.1 s.2.2.2.2.1 s.2.2.2.2.2
theorem xr(a:cR)(d:iK a)(b:Ul)(e:OK3 b):(gW (sS a b)).Ok X0.P X0.Γ:=
 aX .o call91 func91 (aj dV (aj (Ga a d b e) al)) al al λs=>(show _=jK bk aM a b s.1 s.2.1 s.2.2.1 s.2.2.2.1 s.2.2.2.2.1 s.2.2.2.2.2 from by kernel_rfl).trans ((congrArg (λc=>jK c aM a b s.1 s.2.1 s.2.2.1 s.2.2.2.1 s.2.2.2.2.1 s.2.2.2.2.2) aJ).trans ((congrArg (λf=>jK id f a b s.1 s.2.1 s.2.2.1 s.2.2.2.1 s.2.2.2.2.1 s.2.2.2.2.2) aN).trans (by kernel_rfl)))
theorem A8(a:cR)(b:iK a):Ko (sE a):=(show sE a=gW (az (sS a) aC) by kernel_rfl)▸dT (X:=X0) (E:=gW) ⟨call91,λ_ _ h=>nomatch h⟩ (xr a b) aC
def Ew(a:cR):aq:=⟨138,[iq],bF,[(true,0,cw)],λs=>lT a s.1 s.2.1 s.2.2.1 s.2.2.2.1 s.2.2.2.2.1 s.2.2.2.2.2⟩
def kA(e:Ex->Ex)(h:Sh->(R:Type)->Option R->Option R)(g:Q2->Option Q3)(l:Q6)(at_:Int)(c:aD)(d:Int)(f:Int)(b:Int):Option Q3:= (nj g l at_ c d f b).bind λa=> some ((e a.1),a.2.1,a.2.2.1,a.2.2.2.1,a.2.2.2.2)
theorem yt(a:cR)(c:iK a):Ko (Ew a):=
 aX .o call138 func138 (aj (A8 a c) al) al al λs=>(show _=kA bk aM a s.1 s.2.1 s.2.2.1 s.2.2.2.1 s.2.2.2.2.1 s.2.2.2.2.2 from by kernel_rfl).trans ((congrArg (λb=>kA b aM a s.1 s.2.1 s.2.2.1 s.2.2.2.1 s.2.2.2.2.1 s.2.2.2.2.2) aJ).trans ((congrArg (λd=>kA id d a s.1 s.2.1 s.2.2.1 s.2.2.2.1 s.2.2.2.2.1 s.2.2.2.2.2) aN).trans (by kernel_rfl)))
def GU(a:cR):aq:=⟨137,[iq,(.fn 138 [] []),(.fn 92 [] []),aS],bF,[(true,0,cw)],λs=>oQ a s.2.2.2.2.2.2 s.1 s.2.1 s.2.2.1 s.2.2.2.1 s.2.2.2.2.1 s.2.2.2.2.2.1⟩
def mb(e:Ex->Ex)(o:Sh->(R:Type)->Option R->Option R)(n:Q2->Option Q3)(ops:Q1)(l:Q6)(at_:Int)(b:aD)(g:Int)(i:Int)(d:Int):Option Q3:= (lT n l at_ b g i d).bind λa=> (bp ops l a.2.1 b a.2.2.1 a.2.2.2.1 a.2.2.2.2).bind λf=> ai (a.2.2.2.1 != 0) λm=> ai (!f.2) λk=> ai (m||k) λj=> bif j then ( some ((e a.1),a.2.1,a.2.2.1,a.2.2.2.1,a.2.2.2.2)) else ( (aQ l a.2.1 b a.2.2.1 a.2.2.2.1 a.2.2.2.2).bind λh=> (n (l,(i64.wrap (a.2.1+1)),b,a.2.2.1,a.2.2.2.1,a.2.2.2.2)).bind λc=> some ((Ex.mk f.1 0 h.2.2.2 ([(e a.1),(e c.1)]:List Ex)),c.2.1,c.2.2.1,c.2.2.2.1,c.2.2.2.2))
theorem Cc(a:cR)(c:iK a):Ko (GU a):=
 aX .o call137 func137 (aj (yt a c) (aj ck (aj bN (aj c al)))) al al λs=>(show _=mb bk aM a s.2.2.2.2.2.2 s.1 s.2.1 s.2.2.1 s.2.2.2.1 s.2.2.2.2.1 s.2.2.2.2.2.1 from by kernel_rfl).trans ((congrArg (λb=>mb b aM a s.2.2.2.2.2.2 s.1 s.2.1 s.2.2.1 s.2.2.2.1 s.2.2.2.2.1 s.2.2.2.2.2.1) aJ).trans ((congrArg (λd=>mb id d a s.2.2.2.2.2.2 s.1 s.2.1 s.2.2.1 s.2.2.2.1 s.2.2.2.2.1 s.2.2.2.2.2.1) aN).trans (by kernel_rfl)))
def K4(a:cR):aq:=⟨92,[iq],bF,[(true,0,cw)],λs=>rE a s.1 s.2.1 s.2.2.1 s.2.2.2.1 s.2.2.2.2.1 s.2.2.2.2.2⟩
def ov(e:Ex->Ex)(h:Sh->(R:Type)->Option R->Option R)(g:Q2->Option Q3)(l:Q6)(at_:Int)(c:aD)(d:Int)(f:Int)(b:Int):Option Q3:= (oQ g ([19]:xg) l at_ c d f b).bind λa=> some ((e a.1),a.2.1,a.2.2.1,a.2.2.2.1,a.2.2.2.2)
theorem Gb(a:cR)(c:iK a):Ko (K4 a):=
 aX .o call92 func92 (aj (Cc a c) al) al al λs=>(show _=ov bk aM a s.1 s.2.1 s.2.2.1 s.2.2.2.1 s.2.2.2.2.1 s.2.2.2.2.2 from by kernel_rfl).trans ((congrArg (λb=>ov b aM a s.1 s.2.1 s.2.2.1 s.2.2.2.1 s.2.2.2.2.1 s.2.2.2.2.2) aJ).trans ((congrArg (λd=>ov id d a s.1 s.2.1 s.2.2.1 s.2.2.2.1 s.2.2.2.2.1 s.2.2.2.2.2) aN).trans (by kernel_rfl)))
def sV:aq:=⟨91,[iq,(.fn 92 [] [])],bF,[(true,0,cw)],U6 nr⟩
def jJ(f:Ex->Ex)(i:Sh->(R:Type)->Option R->Option R)(h:Q2->Option Q3)(l:Q6)(at_:Int)(d:aD)(a:Int)(g:Int)(c:Int):Option Q3:= bif decide (320<=a) then (bG 9 l at_ d a g c).bind λe=> some ((f e.1),at_,a,e.2.1,e.2.2) else (rE h l at_ d (i64.wrap (a+1)) g c).bind λb=> some ((f b.1),b.2.1,(i64.wrap (b.2.2.1-1)),b.2.2.2.1,b.2.2.2.2)
def sO:cR->cR:=λa s=>sK a s.1 s.2.1 s.2.2.1 s.2.2.2.1 s.2.2.2.2.1 s.2.2.2.2.2
theorem xE(a:cR)(c:iK a):(gQ (sO a)).Ok X0.P X0.Γ:=
 aX .o call91 func91 (aj dV (aj (Gb a c) al)) al al λs=>(show _=jJ bk aM a s.1 s.2.1 s.2.2.1 s.2.2.2.1 s.2.2.2.2.1 s.2.2.2.2.2 from by kernel_rfl).trans ((congrArg (λb=>jJ b aM a s.1 s.2.1 s.2.2.1 s.2.2.2.1 s.2.2.2.2.1 s.2.2.2.2.2) aJ).trans ((congrArg (λd=>jJ id d a s.1 s.2.1 s.2.2.1 s.2.2.2.1 s.2.2.2.2.1 s.2.2.2.2.2) aN).trans (by kernel_rfl)))
theorem Al:Ko sV:=(show sV=gQ (az (sO) aC) by kernel_rfl)▸dT (X:=X0) (E:=gQ) ⟨call91,λ_ _ h=>nomatch h⟩ (xE) aC
def R9:aq:=⟨58,[GX,an,AX],(.cE [bF,an,an,an]),[],U3 xn⟩
def tW(c:Ex->Ex)(d:Sh->(R:Type)->Option R->Option R)(l:Q6)(at_:Int)(b:aD):Option NW:= (nr l at_ b 0 0 0).bind λa=> bif a.2.2.2.1 != 0 then some ((Ex.mk 0 0 0 []),0,a.2.2.2.1,a.2.2.2.2) else some ((c a.1),a.2.1,0,0)
theorem KA:Ko R9:=
 aX (.c (.r [6] .o) (.r [6] .o)) call58 func58 (aj Al al) al al λs=>(show _=tW bk aM s.1 s.2.1 s.2.2 from by kernel_rfl).trans ((congrArg (λa=>tW a aM s.1 s.2.1 s.2.2) aJ).trans ((congrArg (λb=>tW id b s.1 s.2.1 s.2.2) aN).trans (by kernel_rfl)))
def OP:aq:=⟨59,[fA],(.cE [an,an,an]),[],λs=>j7 s⟩
def WI(k:Ex->Ex)(D:Sh->(R:Type)->Option R->Option R)(C:Ex->Option nH)(e:Ex)(g:Q62->Option nH):Bool×Bool×Bool×Int->Option nH:=λ⟨b,d,a,h⟩=> bif decide (h<(List.length e.l:Int)) then (idx e.l h).bind λm=> (C (k m)).bind λf=> bif f.2.1 != 0 then some (0,f.2.1,f.2.2) else ai (f.1==1) λB=> ai (b&&B) λA=> ai (f.1==2) λz=> ai (d&&z) λy=> ai (f.1 != 1) λx=> ai (a&&x) λw=> g (A,y,w,(i64.wrap (h+1))) else ai (decide (e.op<=6)) λv=> ai (v&&b) λu=> bif u then ( some (1,0,0)) else ( ai (λ(j:Bool)=>KE e a j) λc=> ai (decide (6<e.op)) λt=> ai (decide (e.op<=12)) λs=> ai (t&&s) λr=> ai (r&&b) λi=> bif i then ( c i) else ( bif e.op==13 then c (e.op==13) else bif e.op==14 then c (e.op==14) else ai (decide (15<=e.op)) λq=> ai (decide (e.op<=19)) λp=> ai (q&&p) λo=> ai (o&&d) λn=> c n))
def xI(a:Ex->Ex)(c:Sh->(R:Type)->Option R->Option R)(b:Ex->Option nH)(e:Ex):Option nH:= az (WI a c b e) aC (true,true,true,0)
def Ov:TK5->TK5:=λa s=>N6 a s
theorem Qh(a:TK5)(d:OK5 a):(s7 (Ov a)).Ok X0.P X0.Γ:=
 aX (.l ⟨[(false,5,.bool),(false,6,.bool),(false,7,.bool),(false,16,an)],[]⟩ (.c .o (.c .o (.j ⟨[(false,53,.bool)],[]⟩ .o .o)))) call59 func59 (aj d al) al al λs=>(show _=xI bk aM a s from by kernel_rfl).trans ((congrArg (λb=>xI b aM a s) aJ).trans ((congrArg (λe=>xI id e a s) aN).trans (by kernel_rfl)))
theorem oU:Ko OP:=(show OP=s7 (az (Ov) aC) by kernel_rfl)▸dT (X:=X0) (E:=s7) ⟨call59,λ_ _ h=>nomatch h⟩ (Qh) aC
def Vd:aq:=⟨59,[(.dat .ex [some 158])],(.cE [an,an,an]),[],λs=>AK s⟩
def MS(k:Ex->Ex)(C:Sh->(R:Type)->Option R->Option R)(e:Ex)(g:Q62->Option nH):Bool×Bool×Bool×Int->Option nH:=λ⟨b,d,a,h⟩=> bif decide (h<(List.length e.l:Int)) then (idx e.l h).bind λm=> (j7 (k m)).bind λf=> bif f.2.1 != 0 then some (0,f.2.1,f.2.2) else ai (f.1==1) λB=> ai (b&&B) λA=> ai (f.1==2) λz=> ai (d&&z) λy=> ai (f.1 != 1) λx=> ai (a&&x) λw=> g (A,y,w,(i64.wrap (h+1))) else ai (decide (e.op<=6)) λv=> ai (v&&b) λu=> bif u then ( some (1,0,0)) else ( ai (λ(j:Bool)=>Dj e a j) λc=> ai (decide (6<e.op)) λt=> ai (decide (e.op<=12)) λs=> ai (t&&s) λr=> ai (r&&b) λi=> bif i then ( c i) else ( bif e.op==13 then c (e.op==13) else bif e.op==14 then c (e.op==14) else ai (decide (15<=e.op)) λq=> ai (decide (e.op<=19)) λp=> ai (q&&p) λo=> ai (o&&d) λn=> c n))
def vt(a:Ex->Ex)(b:Sh->(R:Type)->Option R->Option R)(e:Ex):Option nH:= az (MS a b e) aC (true,true,true,0)
theorem Nz:Ko Vd:=
 aX (.l ⟨[(false,5,.bool),(false,6,.bool),(false,7,.bool),(false,16,an)],[]⟩ (.c .o (.c .o (.j ⟨[(false,53,.bool)],[]⟩ .o .o)))) call59 func59 (aj oU al) al al λs=>(show _=vt bk aM s from by kernel_rfl).trans ((congrArg (λa=>vt a aM s) aJ).trans ((congrArg (λb=>vt id b s) aN).trans (by kernel_rfl)))
def Cs:bH:=⟨180,[aaz,an],DY,none,false,false,bF,[(true,0,Pz)],λs=>fJ s.2.2.2.2.2.2.2 s.1 s.2.1 s.2.2.1 s.2.2.2.1 s.2.2.2.2.1 s.2.2.2.2.2.1 s.2.2.2.2.2.2.1⟩
def xK(b:Ex->Ex)(c:Sh->(R:Type)->Option R->Option R)(a:NW):Option (Except cu iJ):= some (.ok ((b a.1),a.2.1))
def xQ(e:Ex->Ex)(h:Sh->(R:Type)->Option R->Option R)(a:Int)(g:Int)(b:NW)(d:nH):Option (Except cu iJ):= ai (λ(f:Unit)=>xK e h b) λc=> bif d.1 != a then some (.error (4,b.1.at_)) else c ()
def xW(e:Ex->Ex)(g:Sh->(R:Type)->Option R->Option R)(b:Int)(at_:Int)(c:NW):Option (Except cu iJ):= (AK (e c.1)).bind λa=> ai (λ(f:Unit)=>xQ e g b at_ c a) λd=> bif a.2.1 != 0 then some (.error a.2) else d ()
def jL(g:Ex->Ex)(k:Sh->(R:Type)->Option R->Option R)(c:Int)(l:Q6)(at_:Int)(b:aD)(e:Q8)(h:Q1)(f:aD)(j:Q9):Option (Except cu iJ):= (xn l at_ b).bind λa=> ai (λ(i:Unit)=>xW g k c at_ a) λd=> bif a.2.2.1 != 0 then some (.error a.2.2) else d ()
theorem mN:px Cs:=
 ou (.r [0,40000] (.j ⟨[],[]⟩ .o (.s (.j ⟨[],[]⟩ .o (.j ⟨[],[]⟩ .o .o))))) call180 func180 (aj KA (aj Nz al)) al al λs=>(show _=jL bk aM s.2.2.2.2.2.2.2 s.1 s.2.1 s.2.2.1 s.2.2.2.1 s.2.2.2.2.1 s.2.2.2.2.2.1 s.2.2.2.2.2.2.1 from by kernel_rfl).trans ((congrArg (λa=>jL a aM s.2.2.2.2.2.2.2 s.1 s.2.1 s.2.2.1 s.2.2.2.1 s.2.2.2.2.1 s.2.2.2.2.2.1 s.2.2.2.2.2.2.1) aJ).trans ((congrArg (λb=>jL id b s.2.2.2.2.2.2.2 s.1 s.2.1 s.2.2.1 s.2.2.2.1 s.2.2.2.2.1 s.2.2.2.2.2.1 s.2.2.2.2.2.2.1) aN).trans (by kernel_rfl)))
def xz:aq:=⟨205,[(.dat rz [none]),(.bx 3 0 false [an])],.bool,[],U2 js⟩
theorem uS:Ko xz:=
 aw .o call205 func205 al
def nL:aq:=⟨213,[(.own rz 301 false),(.fn 205 [] [(.bx 3 0 false [an])])],an,[],U2 ix⟩
def mg(e:Ex->Ex)(g:Sh->(R:Type)->Option R->Option R)(s:CG)(c:Int)(a:Int->vJ)(b:Int):vJ:= bif decide (b<(s.length:Int)) then (idx s b).bind λf=> (js (f.1,(e f.2)) c).bind λd=> bif d then ( some b) else ( a (i64.wrap (b+1))) else some (-1)
def ey(a:Ex->Ex)(b:Sh->(R:Type)->Option R->Option R)(s:CG)(c:Int):vJ:= az (mg a b s c) aC 0
theorem l8:Ko nL:=
 aX (.l ⟨[(false,8,an)],[]⟩ .o) call213 func213 (aj uS al) al al λs=>(show _=ey bk aM s.1 s.2 from by kernel_rfl).trans ((congrArg (λa=>ey a aM s.1 s.2) aJ).trans ((congrArg (λb=>ey id b s.1 s.2) aN).trans (by kernel_rfl)))
def mA:aq:=⟨204,[(.own rz 301 false),(.fn 205 [] [(.bx 3 0 false [an])])],.bool,[],U2 ei⟩
theorem kN:Ko mA:=
 aw .o call204 func204 (aj l8 al)
def xC:bH:=⟨181,[aaz,(.own rz 301 false)],DY,none,false,false,(.dat rz [some 159]),[(true,0,Pz)],λs=>jj s.2.2.2.2.2.2.2 s.1 s.2.1 s.2.2.1 s.2.2.2.1 s.2.2.2.2.1 s.2.2.2.2.2.1 s.2.2.2.2.2.2.1⟩
def uP(i:Ex->Ex)(j:Sh->(R:Type)->Option R->Option R)(l:Q6)(at_:Int)(c:aD)(a:Q8)(d:Q1)(b:aD)(f:Q9)(h:Int):Option Q45:= cP (ek [61] l (i64.wrap (at_+1)) c a d b f) λg=> cP (fJ 1 l g c a d b f) λe=> some (.ok ((h,(i e.1)),e.2))
def uR(m:Ex->Ex)(q:Sh->(R:Type)->Option R->Option R)(f:CG)(l:Q6)(at_:Int)(a:aD)(b:Q8)(d:Q1)(c:aD)(i:Q9)(p:CZ):Option Q45:= (cV a p.2.1).bind λe=> ai (λ(o:Unit)=>uP m q l at_ a b d c i e) λg=> ai (decide (e<0)) λh=> bu (!h) default (ei f e) λk=> ai (h||k) λn=> bif n then ( cP (cG 3 l at_ a b d c i) λj=> j.elim) else ( g ())
def iD(i:Ex->Ex)(m:Sh->(R:Type)->Option R->Option R)(e:CG)(l:Q6)(at_:Int)(c:aD)(a:Q8)(d:Q1)(b:aD)(f:Q9):Option Q45:= (dE l at_ c a d b f).bind λj=> ai (λ(k:Unit)=>uR i m e l at_ c a d b f j) λg=> bif j.1 != 1 then cP (cG 2 l at_ c a d b f) λh=> h.elim else g ()
theorem uV:px xC:=
 ou (.s (.s (.j ⟨[],[]⟩ .o (.r [0,40000] (.j ⟨[],[]⟩ .o (.r [0,4] .o)))))) call181 func181 (aj dM (aj eZ (aj kN al))) (aj jc (aj mN (aj eX al))) al λs=>(show _=iD bk aM s.2.2.2.2.2.2.2 s.1 s.2.1 s.2.2.1 s.2.2.2.1 s.2.2.2.2.1 s.2.2.2.2.2.1 s.2.2.2.2.2.2.1 from by kernel_rfl).trans ((congrArg (λa=>iD a aM s.2.2.2.2.2.2.2 s.1 s.2.1 s.2.2.1 s.2.2.2.1 s.2.2.2.2.1 s.2.2.2.2.2.1 s.2.2.2.2.2.2.1) aJ).trans ((congrArg (λb=>iD id b s.2.2.2.2.2.2.2 s.1 s.2.1 s.2.2.1 s.2.2.2.1 s.2.2.2.2.1 s.2.2.2.2.2.1 s.2.2.2.2.2.2.1) aN).trans (by kernel_rfl)))
def Hi:bH:=⟨135,[(.bx 138 0 true [GX,an,AX,Mn,Hk,AX,Po])],DY,none,false,false,ew,[(true,0,amg)],U7 wL⟩
def Cg(e:Ex->Ex)(o:Sh->(R:Type)->Option R->Option R)(l:Q6)(d:aD)(c:Q8)(h:Q1)(b:aD)(i:Q9)(j:iJ)(g:(Int×CG)->Option XJ):Int×CG->Option XJ:=λ⟨n,f⟩=> cP (jj f l n d c h b i) λa=> aI (aH (List.length f+List.length ([(a.1.1,(e a.1.2))]:List RQ)) 56)<| (gm 3 [59] l a.2 d c h b i).bind λm=> bif m then ( aI (aH (List.length i+List.length ([((i64.wrap ((b.length:Int)-1)),(e j.1),(f++([(a.1.1,(e a.1.2))]:List RQ)))]:List Q63)) 80)<| some (.ok ((i64.wrap (a.2+1)),(i++([((i64.wrap ((b.length:Int)-1)),(e j.1),(f++([(a.1.1,(e a.1.2))]:List RQ)))]:List Q63))))) else ( cP (ek [44] l a.2 d c h b i) λk=> g (k,(f++([(a.1.1,(e a.1.2))]:List RQ))))
def Cd(h:Ex->Ex)(i:Sh->(R:Type)->Option R->Option R)(l:Q6)(at_:Int)(c:aD)(a:Q8)(d:Q1)(b:aD)(e:Q9):Option XJ:= cP (fJ 2 l at_ c a d b e) λf=> cP (ek [58] l f.2 c a d b e) λg=> az (Cg h i l c a d b e f) aC (g,[])
def ml(h:Ex->Ex)(j:Sh->(R:Type)->Option R->Option R)(l:Q6)(at_:Int)(c:aD)(a:Q8)(d:Q1)(b:aD)(e:Q9):Option XJ:= ai (λ(i:Unit)=>Cd h j l at_ c a d b e) λf=> bif decide (256<=(e.length:Int)) then cP (cG 9 l at_ c a d b e) λg=> g.elim else f ()
theorem Co:px Hi:=
 ou (.j ⟨[],[]⟩ .o (.r [0,40000] (.l ⟨[(true,0,Pz),(true,2,(.bx 299 0 true [.same,.same,.same,.same,.same,(.own rz 301 true)]))],[]⟩ (.r [0,2] (.c (.r [0,2] .o) .o))))) call135 func135 (aj il al) (aj mN (aj jc (aj uV (aj eX al)))) al λs=>(show _=ml bk aM s.1 s.2.1 s.2.2.1 s.2.2.2.1 s.2.2.2.2.1 s.2.2.2.2.2.1 s.2.2.2.2.2.2 from by kernel_rfl).trans ((congrArg (λa=>ml a aM s.1 s.2.1 s.2.2.1 s.2.2.2.1 s.2.2.2.2.1 s.2.2.2.2.2.1 s.2.2.2.2.2.2) aJ).trans ((congrArg (λb=>ml id b s.1 s.2.1 s.2.2.1 s.2.2.2.1 s.2.2.2.2.1 s.2.2.2.2.2.1 s.2.2.2.2.2.2) aN).trans (by kernel_rfl)))
def Hr:bH:=⟨87,[(.bx 138 0 true [GX,an,AX,Mn,Hk,AH,Po])],DY,none,false,false,ew,[(true,0,(.bx 138 0 true [.same,an,.same,.same,.same,AH,Po]))],U7 wD⟩
theorem BT:px Hr:=
 ou (.r [0] (.l ⟨[(true,0,amg)],[]⟩ .o)) call87 func87 (aj il al) (aj uD (aj jc (aj Co al))) al λ_=>by kernel_rfl
def PX:bH:=⟨57,[(.bx 138 0 true [GX,an,AH,HY,fq,AH,Po])],DY,none,false,false,ew,[(true,0,amx)],U7 FZ⟩
theorem Jw:px PX:=
 ou (.l ⟨[(true,0,amx),(true,2,(.bx 190 0 true [.same,.same]))],[]⟩ .o) call57 func57 (aj dM (aj il al)) (aj BI (aj eX (aj BT al))) al λ_=>by kernel_rfl
def Y9:aq:=⟨41,[.str],(.cE [xV,an,an]),[],λs=>OX s⟩
theorem akX:(⟨56,Tryz.f56⟩:jE).Ok X0.P:=⟨call56,func56⟩
theorem PM:Ko Y9:=
 aX .o call41 func41 (aj CA al) (aj Jw al) (aj akX al) λ_=>by kernel_rfl
def QZ:aq:=⟨42,[(.bx 81 0 true [.str,.str,an,an,an,nR,an,an,AX,Mn,Hk,AX,(.own rG 299 false),an,an,an,(.own .ex 79 false),an,an,an,fq,ia,ia]),an,an,aS],.bool,[(true,0,agS)],λs=>Fv (d8 (d8 s)).2.2.2.2.2.2.2.1 (d8 (d8 (d8 s))).1 (d8 (d8 (d8 s))).2 s.1 s.2.1 s.2.2.1 s.2.2.2.1 s.2.2.2.2.1 s.2.2.2.2.2.1 s.2.2.2.2.2.2.1 s.2.2.2.2.2.2.2.1 s.2.2.2.2.2.2.2.2.1 (d8 s).2.1 (d8 s).2.2.1 (d8 s).2.2.2.1 (d8 s).2.2.2.2.1 (d8 s).2.2.2.2.2.1 (d8 s).2.2.2.2.2.2.1 (d8 s).2.2.2.2.2.2.2.1 (d8 (d8 s)).1 (d8 (d8 s)).2.1 (d8 (d8 s)).2.2.1 (d8 (d8 s)).2.2.2.1 (d8 (d8 s)).2.2.2.2.1 (d8 (d8 s)).2.2.2.2.2.1 (d8 (d8 s)).2.2.2.2.2.2.1⟩
theorem Jn:Ko QZ:=
 aw .o call42 func42 al
def QG:aq:=⟨136,[eK,an],bF,[(true,0,(.bx 196 0 true [.same,.same,.same,.same,an,an]))],λs=>cf s.2.2.2.2.2.2 s.1 s.2.1 s.2.2.1 s.2.2.2.1 s.2.2.2.2.1 s.2.2.2.2.2.1⟩
theorem fi:Ko QG:=
 aw (.c (.r [0] .o) .o) call136 func136 al
def QF:aq:=⟨183,[amC],(.dat nd []),[],U6 aZ⟩
theorem cg:Ko QF:=
 aw (.r [2] .o) call183 func183 al
def VX:aq:=⟨182,[amC,aS],Az,[],λs=>bM s.2.2.2.2.2.2 s.1 s.2.1 s.2.2.1 s.2.2.2.1 s.2.2.2.2.1 s.2.2.2.2.2.1⟩
theorem cT:Ko VX:=
 aw (.c .o (.l ⟨[(false,27,an)],[]⟩ .o)) call182 func182 (aj cg (aj mO al))
def Rr(a:bP):aq:=⟨228,[eK],bF,[(true,0,cw)],λs=>xm a s.1 s.2.1 s.2.2.1 s.2.2.2.1 s.2.2.2.2.1 s.2.2.2.2.2⟩
def uq(h:Ex->Ex)(C:Sh->(R:Type)->Option R->Option R)(B:Q2->Option Q3)(l:Q6)(at_:Int)(c:aD)(d:Int)(f:Int)(b:Int):Option Q3:= bif f != 0 then some ((Ex.mk 0 0 0 []),at_,d,f,b) else (aZ l at_ c d f b).bind λe=> (bM ([13,14]:xg) l at_ c d f b).bind λn=> bif n.2 then ( some ((Ex.mk n.1 0 e.2.2.2 []),(i64.wrap (at_+1)),d,f,b)) else ( bif e.1==2 then some ((Ex.mk 1 e.2.2.1 e.2.2.2 []),(i64.wrap (at_+1)),d,f,b) else ai (e.1==1) λp=> bu p default (oB e.2.1) λs=> ai (!s) λA=> ai (p&&A) λz=> bif z then ( (cS c e.2.1).bind λm=> bif decide (m<0) then (cf 3 l at_ c d f b).bind λj=> some ((h j.1),at_,d,j.2.1,j.2.2) else some ((Ex.mk 2 m e.2.2.2 []),(i64.wrap (at_+1)),d,f,b)) else ( ai (e.1==3) λy=> ai (e.2.1==[40]) λx=> ai (y&&x) λw=> bif w then ( (B (l,(i64.wrap (at_+1)),c,d,f,b)).bind λa=> ai (a.2.2.2.1==0) λk=> bu k default (aZ l a.2.1 c a.2.2.1 a.2.2.2.1 a.2.2.2.2) λr=> ai (r.1 != 3) λo=> bu (k&& !o) default (aZ l a.2.1 c a.2.2.1 a.2.2.2.1 a.2.2.2.2) λq=> ai (q.2.1 != [41]) λv=> ai (o||v) λu=> ai (k&&u) λt=> bif t then ( (cf 2 l a.2.1 c a.2.2.1 a.2.2.2.1 a.2.2.2.2).bind λi=> some ((h i.1),a.2.1,a.2.2.1,i.2.1,i.2.2)) else ( bif a.2.2.2.1==0 then some ((h a.1),(i64.wrap (a.2.1+1)),a.2.2.1,a.2.2.2.1,a.2.2.2.2) else some ((h a.1),a.2.1,a.2.2.1,a.2.2.2.1,a.2.2.2.2))) else ( (cf 2 l at_ c d f b).bind λg=> some ((h g.1),at_,d,g.2.1,g.2.2))))
theorem K2(a:bP)(b:fc a):Ko (Rr a):=
 aX .o call228 func228 (aj cg (aj cT (aj mO (aj fO (aj fi (aj b al)))))) al al λs=>(show _=uq bk aM a s.1 s.2.1 s.2.2.1 s.2.2.2.1 s.2.2.2.2.1 s.2.2.2.2.2 from by kernel_rfl).trans ((congrArg (λc=>uq c aM a s.1 s.2.1 s.2.2.1 s.2.2.2.1 s.2.2.2.2.1 s.2.2.2.2.2) aJ).trans ((congrArg (λd=>uq id d a s.1 s.2.1 s.2.2.1 s.2.2.2.1 s.2.2.2.2.1 s.2.2.2.2.2) aN).trans (by kernel_rfl)))
def FP(a:bP)(b:SS):aq:=⟨222,[eK,MN,(.fn 228 [] []),aS],bF,[(true,0,cw)],λs=>mX a b s.2.2.2.2.2.2 s.1 s.2.1 s.2.2.1 s.2.2.2.1 s.2.2.2.2.1 s.2.2.2.2.2.1⟩
def lf(h:Ex->Ex)(m:Sh->(R:Type)->Option R->Option R)(k:Q2->Option Q3)(j:Q2->Option Q3)(ops:Q1)(l:Q6)(at_:Int)(b:aD)(c:Int)(f:Int)(a:Int):Option Q3:= (bM ops l at_ b c f a).bind λg=> bif !g.2 then (xm k l at_ b c f a).bind λe=> some ((h e.1),e.2.1,e.2.2.1,e.2.2.2.1,e.2.2.2.2) else (aZ l at_ b c f a).bind λi=> (j (l,(i64.wrap (at_+1)),b,c,f,a)).bind λd=> some ((Ex.mk g.1 0 i.2.2.2 ([(h d.1)]:List Ex)),d.2.1,d.2.2.1,d.2.2.2.1,d.2.2.2.2)
theorem A3(a:bP)(d:fc a)(b:SS)(f:OK6 b):Ko (FP a b):=
 aX (.c .o (.r [0,8] .o)) call222 func222 (aj cT (aj (K2 a d) (aj cg (aj f al)))) al al λs=>(show _=lf bk aM a b s.2.2.2.2.2.2 s.1 s.2.1 s.2.2.1 s.2.2.2.1 s.2.2.2.2.1 s.2.2.2.2.2.1 from by kernel_rfl).trans ((congrArg (λe=>lf e aM a b s.2.2.2.2.2.2 s.1 s.2.1 s.2.2.1 s.2.2.2.1 s.2.2.2.2.1 s.2.2.2.2.2.1) aJ).trans ((congrArg (λg=>lf id g a b s.2.2.2.2.2.2 s.1 s.2.1 s.2.2.1 s.2.2.2.1 s.2.2.2.2.1 s.2.2.2.2.2.1) aN).trans (by kernel_rfl)))
def S8(a:bP)(b:SS):aq:=⟨227,[eK],bF,[(true,0,cw)],λs=>xv a b s.1 s.2.1 s.2.2.1 s.2.2.2.1 s.2.2.2.2.1 s.2.2.2.2.2⟩
def uh(e:Ex->Ex)(i:Sh->(R:Type)->Option R->Option R)(h:Q2->Option Q3)(g:Q2->Option Q3)(l:Q6)(at_:Int)(c:aD)(d:Int)(f:Int)(b:Int):Option Q3:= (mX h g ([6]:xg) l at_ c d f b).bind λa=> some ((e a.1),a.2.1,a.2.2.1,a.2.2.2.1,a.2.2.2.2)
theorem Kj(a:bP)(c:fc a)(b:SS)(e:OK6 b):Ko (S8 a b):=
 aX .o call227 func227 (aj (A3 a c b e) al) al al λs=>(show _=uh bk aM a b s.1 s.2.1 s.2.2.1 s.2.2.2.1 s.2.2.2.2.1 s.2.2.2.2.2 from by kernel_rfl).trans ((congrArg (λd=>uh d aM a b s.1 s.2.1 s.2.2.1 s.2.2.2.1 s.2.2.2.2.1 s.2.2.2.2.2) aJ).trans ((congrArg (λf=>uh id f a b s.1 s.2.1 s.2.2.1 s.2.2.2.1 s.2.2.2.2.1 s.2.2.2.2.2) aN).trans (by kernel_rfl)))
def uv(a:bP):aq:=⟨91,[eK,MN],bF,[(true,0,cw)],λs=>oq a s.1 s.2.1 s.2.2.1 s.2.2.2.1 s.2.2.2.2.1 s.2.2.2.2.2⟩
def ky(f:Ex->Ex)(j:Sh->(R:Type)->Option R->Option R)(i:Q2->Option Q3)(h:Q2->Option Q3)(l:Q6)(at_:Int)(d:aD)(a:Int)(g:Int)(c:Int):Option Q3:= bif decide (320<=a) then (cf 9 l at_ d a g c).bind λe=> some ((f e.1),at_,a,e.2.1,e.2.2) else (xv i h l at_ d (i64.wrap (a+1)) g c).bind λb=> some ((f b.1),b.2.1,(i64.wrap (b.2.2.1-1)),b.2.2.2.1,b.2.2.2.2)
def tM(a:bP):SS->SS:=λb s=>tr a b s.1 s.2.1 s.2.2.1 s.2.2.2.1 s.2.2.2.2.1 s.2.2.2.2.2
theorem yS(a:bP)(c:fc a)(b:SS)(e:OK6 b):(iA (tM a b)).Ok X0.P X0.Γ:=
 aX .o call91 func91 (aj fi (aj (Kj a c b e) al)) al al λs=>(show _=ky bk aM a b s.1 s.2.1 s.2.2.1 s.2.2.2.1 s.2.2.2.2.1 s.2.2.2.2.2 from by kernel_rfl).trans ((congrArg (λd=>ky d aM a b s.1 s.2.1 s.2.2.1 s.2.2.2.1 s.2.2.2.2.1 s.2.2.2.2.2) aJ).trans ((congrArg (λf=>ky id f a b s.1 s.2.1 s.2.2.1 s.2.2.2.1 s.2.2.2.2.1 s.2.2.2.2.2) aN).trans (by kernel_rfl)))
theorem Ce(a:bP)(b:fc a):Ko (uv a):=(show uv a=iA (az (tM a) aC) by kernel_rfl)▸dT (X:=X0) (E:=iA) ⟨call91,λ_ _ h=>nomatch h⟩ (yS a b) aC
def Jm(a:bP):aq:=⟨226,[eK],bF,[(true,0,cw)],λs=>iS a s.1 s.2.1 s.2.2.1 s.2.2.2.1 s.2.2.2.2.1 s.2.2.2.2.2⟩
def nq(e:Ex->Ex)(h:Sh->(R:Type)->Option R->Option R)(g:Q2->Option Q3)(l:Q6)(at_:Int)(c:aD)(d:Int)(f:Int)(b:Int):Option Q3:= (oq g l at_ c d f b).bind λa=> some ((e a.1),a.2.1,a.2.2.1,a.2.2.2.1,a.2.2.2.2)
theorem Ed(a:bP)(b:fc a):Ko (Jm a):=
 aX .o call226 func226 (aj (Ce a b) al) al al λs=>(show _=nq bk aM a s.1 s.2.1 s.2.2.1 s.2.2.2.1 s.2.2.2.2.1 s.2.2.2.2.2 from by kernel_rfl).trans ((congrArg (λc=>nq c aM a s.1 s.2.1 s.2.2.1 s.2.2.2.1 s.2.2.2.2.1 s.2.2.2.2.2) aJ).trans ((congrArg (λd=>nq id d a s.1 s.2.1 s.2.2.1 s.2.2.2.1 s.2.2.2.2.1 s.2.2.2.2.2) aN).trans (by kernel_rfl)))
def Ji(a:bP):aq:=⟨214,[eK,(.fn 226 [] []),aS],bF,[(true,0,cw)],λs=>pL a s.2.2.2.2.2.2 s.1 s.2.1 s.2.2.1 s.2.2.2.1 s.2.2.2.2.1 s.2.2.2.2.2.1⟩
def EM(o:Ex->Ex)(q:Sh->(R:Type)->Option R->Option R)(p:Q2->Option Q3)(ops:Q1)(l:Q6)(a:aD)(g:x7->Option Q3):Int×Int×Int×Int×Int×Int×Int×(List Ex)->Option Q3:=λ⟨f,e,b,d,k,j,i,h⟩=> bif b==0 then (bM ops l f a e b d).bind λm=> bif !m.2 then some ((Ex.mk k j i h),f,e,b,d) else (aZ l f a e b d).bind λn=> (iS p l (i64.wrap (f+1)) a e b d).bind λc=> g (c.2.1,c.2.2.1,c.2.2.2.1,c.2.2.2.2,m.1,0,n.2.2.2,([(Ex.mk k j i h),(o c.1)]:List Ex)) else some ((Ex.mk k j i h),f,e,b,d)
def mU(e:Ex->Ex)(h:Sh->(R:Type)->Option R->Option R)(g:Q2->Option Q3)(ops:Q1)(l:Q6)(at_:Int)(b:aD)(d:Int)(f:Int)(c:Int):Option Q3:= (iS g l at_ b d f c).bind λa=> az (EM e h g ops l b) aC (a.2.1,a.2.2.1,a.2.2.2.1,a.2.2.2.2,a.1.op,a.1.n,a.1.at_,a.1.l)
theorem Eb(a:bP)(b:fc a):Ko (Ji a):=
 aX (.l ⟨[(true,0,cw),(true,6,GD),(true,7,JD)],[]⟩ .o) call214 func214 (aj (Ed a b) (aj cT (aj cg al))) al al λs=>(show _=mU bk aM a s.2.2.2.2.2.2 s.1 s.2.1 s.2.2.1 s.2.2.2.1 s.2.2.2.2.1 s.2.2.2.2.2.1 from by kernel_rfl).trans ((congrArg (λc=>mU c aM a s.2.2.2.2.2.2 s.1 s.2.1 s.2.2.1 s.2.2.2.1 s.2.2.2.2.1 s.2.2.2.2.2.1) aJ).trans ((congrArg (λd=>mU id d a s.2.2.2.2.2.2 s.1 s.2.1 s.2.2.1 s.2.2.2.1 s.2.2.2.2.1 s.2.2.2.2.2.1) aN).trans (by kernel_rfl)))
def QE(a:bP):aq:=⟨225,[eK],bF,[(true,0,cw)],λs=>lj a s.1 s.2.1 s.2.2.1 s.2.2.2.1 s.2.2.2.2.1 s.2.2.2.2.2⟩
def rQ(e:Ex->Ex)(h:Sh->(R:Type)->Option R->Option R)(g:Q2->Option Q3)(l:Q6)(at_:Int)(c:aD)(d:Int)(f:Int)(b:Int):Option Q3:= (pL g ([5]:xg) l at_ c d f b).bind λa=> some ((e a.1),a.2.1,a.2.2.1,a.2.2.2.1,a.2.2.2.2)
theorem Jp(a:bP)(b:fc a):Ko (QE a):=
 aX .o call225 func225 (aj (Eb a b) al) al al λs=>(show _=rQ bk aM a s.1 s.2.1 s.2.2.1 s.2.2.2.1 s.2.2.2.2.1 s.2.2.2.2.2 from by kernel_rfl).trans ((congrArg (λc=>rQ c aM a s.1 s.2.1 s.2.2.1 s.2.2.2.1 s.2.2.2.2.1 s.2.2.2.2.2) aJ).trans ((congrArg (λd=>rQ id d a s.1 s.2.1 s.2.2.1 s.2.2.2.1 s.2.2.2.2.1 s.2.2.2.2.2) aN).trans (by kernel_rfl)))
def Js(a:bP):aq:=⟨214,[eK,(.fn 225 [] []),aS],bF,[(true,0,cw)],λs=>pM a s.2.2.2.2.2.2 s.1 s.2.1 s.2.2.1 s.2.2.2.1 s.2.2.2.2.1 s.2.2.2.2.2.1⟩
def EK(o:Ex->Ex)(q:Sh->(R:Type)->Option R->Option R)(p:Q2->Option Q3)(ops:Q1)(l:Q6)(a:aD)(g:x7->Option Q3):Int×Int×Int×Int×Int×Int×Int×(List Ex)->Option Q3:=λ⟨f,e,b,d,k,j,i,h⟩=> bif b==0 then (bM ops l f a e b d).bind λm=> bif !m.2 then some ((Ex.mk k j i h),f,e,b,d) else (aZ l f a e b d).bind λn=> (lj p l (i64.wrap (f+1)) a e b d).bind λc=> g (c.2.1,c.2.2.1,c.2.2.2.1,c.2.2.2.2,m.1,0,n.2.2.2,([(Ex.mk k j i h),(o c.1)]:List Ex)) else some ((Ex.mk k j i h),f,e,b,d)
def ni(e:Ex->Ex)(h:Sh->(R:Type)->Option R->Option R)(g:Q2->Option Q3)(ops:Q1)(l:Q6)(at_:Int)(b:aD)(d:Int)(f:Int)(c:Int):Option Q3:= (lj g l at_ b d f c).bind λa=> az (EK e h g ops l b) aC (a.2.1,a.2.2.1,a.2.2.2.1,a.2.2.2.2,a.1.op,a.1.n,a.1.at_,a.1.l)
theorem DU(a:bP)(b:fc a):Ko (Js a):=
 aX (.l ⟨[(true,0,cw),(true,6,GD),(true,7,JD)],[]⟩ .o) call214 func214 (aj (Jp a b) (aj cT (aj cg al))) al al λs=>(show _=ni bk aM a s.2.2.2.2.2.2 s.1 s.2.1 s.2.2.1 s.2.2.2.1 s.2.2.2.2.1 s.2.2.2.2.2.1 from by kernel_rfl).trans ((congrArg (λc=>ni c aM a s.2.2.2.2.2.2 s.1 s.2.1 s.2.2.1 s.2.2.2.1 s.2.2.2.2.1 s.2.2.2.2.2.1) aJ).trans ((congrArg (λd=>ni id d a s.2.2.2.2.2.2 s.1 s.2.1 s.2.2.1 s.2.2.2.1 s.2.2.2.2.1 s.2.2.2.2.2.1) aN).trans (by kernel_rfl)))
def RX(a:bP):aq:=⟨224,[eK],bF,[(true,0,cw)],λs=>mE a s.1 s.2.1 s.2.2.1 s.2.2.2.1 s.2.2.2.2.1 s.2.2.2.2.2⟩
def uj(e:Ex->Ex)(h:Sh->(R:Type)->Option R->Option R)(g:Q2->Option Q3)(l:Q6)(at_:Int)(c:aD)(d:Int)(f:Int)(b:Int):Option Q3:= (pM g ([3,4]:xg) l at_ c d f b).bind λa=> some ((e a.1),a.2.1,a.2.2.1,a.2.2.2.1,a.2.2.2.2)
theorem LP(a:bP)(b:fc a):Ko (RX a):=
 aX .o call224 func224 (aj (DU a b) al) al al λs=>(show _=uj bk aM a s.1 s.2.1 s.2.2.1 s.2.2.2.1 s.2.2.2.2.1 s.2.2.2.2.2 from by kernel_rfl).trans ((congrArg (λc=>uj c aM a s.1 s.2.1 s.2.2.1 s.2.2.2.1 s.2.2.2.2.1 s.2.2.2.2.2) aJ).trans ((congrArg (λd=>uj id d a s.1 s.2.1 s.2.2.1 s.2.2.2.1 s.2.2.2.2.1 s.2.2.2.2.2) aN).trans (by kernel_rfl)))
def Up(a:bP):aq:=⟨223,[eK],bF,[(true,0,cw)],λs=>xw a s.1 s.2.1 s.2.2.1 s.2.2.2.1 s.2.2.2.2.1 s.2.2.2.2.2⟩
def tQ(e:Ex->Ex)(o:Sh->(R:Type)->Option R->Option R)(n:Q2->Option Q3)(l:Q6)(at_:Int)(b:aD)(g:Int)(i:Int)(d:Int):Option Q3:= (mE n l at_ b g i d).bind λa=> (bM ([7,8,9,10,11,12]:xg) l a.2.1 b a.2.2.1 a.2.2.2.1 a.2.2.2.2).bind λf=> ai (a.2.2.2.1 != 0) λm=> ai (!f.2) λk=> ai (m||k) λj=> bif j then ( some ((e a.1),a.2.1,a.2.2.1,a.2.2.2.1,a.2.2.2.2)) else ( (aZ l a.2.1 b a.2.2.1 a.2.2.2.1 a.2.2.2.2).bind λh=> (mE n l (i64.wrap (a.2.1+1)) b a.2.2.1 a.2.2.2.1 a.2.2.2.2).bind λc=> some ((Ex.mk f.1 0 h.2.2.2 ([(e a.1),(e c.1)]:List Ex)),c.2.1,c.2.2.1,c.2.2.2.1,c.2.2.2.2))
theorem Le(a:bP)(b:fc a):Ko (Up a):=
 aX .o call223 func223 (aj (LP a b) (aj cT (aj cg al))) al al λs=>(show _=tQ bk aM a s.1 s.2.1 s.2.2.1 s.2.2.2.1 s.2.2.2.2.1 s.2.2.2.2.2 from by kernel_rfl).trans ((congrArg (λc=>tQ c aM a s.1 s.2.1 s.2.2.1 s.2.2.2.1 s.2.2.2.2.1 s.2.2.2.2.2) aJ).trans ((congrArg (λd=>tQ id d a s.1 s.2.1 s.2.2.1 s.2.2.2.1 s.2.2.2.2.1 s.2.2.2.2.2) aN).trans (by kernel_rfl)))
def Ki(a:bP)(b:SV):aq:=⟨222,[eK,Mo,(.fn 223 [] []),aS],bF,[(true,0,cw)],λs=>rO a b s.2.2.2.2.2.2 s.1 s.2.1 s.2.2.1 s.2.2.2.1 s.2.2.2.2.1 s.2.2.2.2.2.1⟩
def oE(h:Ex->Ex)(m:Sh->(R:Type)->Option R->Option R)(k:Q2->Option Q3)(j:Q2->Option Q3)(ops:Q1)(l:Q6)(at_:Int)(b:aD)(c:Int)(f:Int)(a:Int):Option Q3:= (bM ops l at_ b c f a).bind λg=> bif !g.2 then (xw k l at_ b c f a).bind λe=> some ((h e.1),e.2.1,e.2.2.1,e.2.2.2.1,e.2.2.2.2) else (aZ l at_ b c f a).bind λi=> (j (l,(i64.wrap (at_+1)),b,c,f,a)).bind λd=> some ((Ex.mk g.1 0 i.2.2.2 ([(h d.1)]:List Ex)),d.2.1,d.2.2.1,d.2.2.2.1,d.2.2.2.2)
theorem Gq(a:bP)(d:fc a)(b:SV)(f:OK7 b):Ko (Ki a b):=
 aX (.c .o (.r [0,8] .o)) call222 func222 (aj cT (aj (Le a d) (aj cg (aj f al)))) al al λs=>(show _=oE bk aM a b s.2.2.2.2.2.2 s.1 s.2.1 s.2.2.1 s.2.2.2.1 s.2.2.2.2.1 s.2.2.2.2.2.1 from by kernel_rfl).trans ((congrArg (λe=>oE e aM a b s.2.2.2.2.2.2 s.1 s.2.1 s.2.2.1 s.2.2.2.1 s.2.2.2.2.1 s.2.2.2.2.2.1) aJ).trans ((congrArg (λg=>oE id g a b s.2.2.2.2.2.2 s.1 s.2.1 s.2.2.1 s.2.2.2.1 s.2.2.2.2.1 s.2.2.2.2.2.1) aN).trans (by kernel_rfl)))
def Ur(a:bP)(b:SV):aq:=⟨221,[eK],bF,[(true,0,cw)],λs=>xt a b s.1 s.2.1 s.2.2.1 s.2.2.2.1 s.2.2.2.2.1 s.2.2.2.2.2⟩
def tq(e:Ex->Ex)(i:Sh->(R:Type)->Option R->Option R)(h:Q2->Option Q3)(g:Q2->Option Q3)(l:Q6)(at_:Int)(c:aD)(d:Int)(f:Int)(b:Int):Option Q3:= (rO h g ([15,20,21,22]:xg) l at_ c d f b).bind λa=> some ((e a.1),a.2.1,a.2.2.1,a.2.2.2.1,a.2.2.2.2)
theorem Kp(a:bP)(c:fc a)(b:SV)(e:OK7 b):Ko (Ur a b):=
 aX .o call221 func221 (aj (Gq a c b e) al) al al λs=>(show _=tq bk aM a b s.1 s.2.1 s.2.2.1 s.2.2.2.1 s.2.2.2.2.1 s.2.2.2.2.2 from by kernel_rfl).trans ((congrArg (λd=>tq d aM a b s.1 s.2.1 s.2.2.1 s.2.2.2.1 s.2.2.2.2.1 s.2.2.2.2.2) aJ).trans ((congrArg (λf=>tq id f a b s.1 s.2.1 s.2.2.1 s.2.2.2.1 s.2.2.2.2.1 s.2.2.2.2.2) aN).trans (by kernel_rfl)))
def uf(a:bP):aq:=⟨91,[eK,Mo],bF,[(true,0,cw)],λs=>nZ a s.1 s.2.1 s.2.2.1 s.2.2.2.1 s.2.2.2.2.1 s.2.2.2.2.2⟩
def kJ(f:Ex->Ex)(j:Sh->(R:Type)->Option R->Option R)(i:Q2->Option Q3)(h:Q2->Option Q3)(l:Q6)(at_:Int)(d:aD)(a:Int)(g:Int)(c:Int):Option Q3:= bif decide (320<=a) then (cf 9 l at_ d a g c).bind λe=> some ((f e.1),at_,a,e.2.1,e.2.2) else (xt i h l at_ d (i64.wrap (a+1)) g c).bind λb=> some ((f b.1),b.2.1,(i64.wrap (b.2.2.1-1)),b.2.2.2.1,b.2.2.2.2)
def tE(a:bP):SV->SV:=λb s=>s9 a b s.1 s.2.1 s.2.2.1 s.2.2.2.1 s.2.2.2.2.1 s.2.2.2.2.2
theorem yM(a:bP)(c:fc a)(b:SV)(e:OK7 b):(iu (tE a b)).Ok X0.P X0.Γ:=
 aX .o call91 func91 (aj fi (aj (Kp a c b e) al)) al al λs=>(show _=kJ bk aM a b s.1 s.2.1 s.2.2.1 s.2.2.2.1 s.2.2.2.2.1 s.2.2.2.2.2 from by kernel_rfl).trans ((congrArg (λd=>kJ d aM a b s.1 s.2.1 s.2.2.1 s.2.2.2.1 s.2.2.2.2.1 s.2.2.2.2.2) aJ).trans ((congrArg (λf=>kJ id f a b s.1 s.2.1 s.2.2.1 s.2.2.2.1 s.2.2.2.2.1 s.2.2.2.2.2) aN).trans (by kernel_rfl)))
theorem B6(a:bP)(b:fc a):Ko (uf a):=(show uf a=iu (az (tE a) aC) by kernel_rfl)▸dT (X:=X0) (E:=iu) ⟨call91,λ_ _ h=>nomatch h⟩ (yM a b) aC
def Jd(a:bP):aq:=⟨220,[eK],bF,[(true,0,cw)],λs=>pO a s.1 s.2.1 s.2.2.1 s.2.2.2.1 s.2.2.2.2.1 s.2.2.2.2.2⟩
def np(e:Ex->Ex)(h:Sh->(R:Type)->Option R->Option R)(g:Q2->Option Q3)(l:Q6)(at_:Int)(c:aD)(d:Int)(f:Int)(b:Int):Option Q3:= (nZ g l at_ c d f b).bind λa=> some ((e a.1),a.2.1,a.2.2.1,a.2.2.2.1,a.2.2.2.2)
theorem EE(a:bP)(b:fc a):Ko (Jd a):=
 aX .o call220 func220 (aj (B6 a b) al) al al λs=>(show _=np bk aM a s.1 s.2.1 s.2.2.1 s.2.2.2.1 s.2.2.2.2.1 s.2.2.2.2.2 from by kernel_rfl).trans ((congrArg (λc=>np c aM a s.1 s.2.1 s.2.2.1 s.2.2.2.1 s.2.2.2.2.1 s.2.2.2.2.2) aJ).trans ((congrArg (λd=>np id d a s.1 s.2.1 s.2.2.1 s.2.2.2.1 s.2.2.2.2.1 s.2.2.2.2.2) aN).trans (by kernel_rfl)))
def GN(a:bP)(b:Uc):aq:=⟨137,[eK,(.fn 220 [] []),MI,aS],bF,[(true,0,cw)],λs=>oF a b s.2.2.2.2.2.2 s.1 s.2.1 s.2.2.1 s.2.2.2.1 s.2.2.2.2.1 s.2.2.2.2.2.1⟩
def lU(e:Ex->Ex)(p:Sh->(R:Type)->Option R->Option R)(o:Q2->Option Q3)(n:Q2->Option Q3)(ops:Q1)(l:Q6)(at_:Int)(b:aD)(g:Int)(i:Int)(d:Int):Option Q3:= (pO o l at_ b g i d).bind λa=> (bM ops l a.2.1 b a.2.2.1 a.2.2.2.1 a.2.2.2.2).bind λf=> ai (a.2.2.2.1 != 0) λm=> ai (!f.2) λk=> ai (m||k) λj=> bif j then ( some ((e a.1),a.2.1,a.2.2.1,a.2.2.2.1,a.2.2.2.2)) else ( (aZ l a.2.1 b a.2.2.1 a.2.2.2.1 a.2.2.2.2).bind λh=> (n (l,(i64.wrap (a.2.1+1)),b,a.2.2.1,a.2.2.2.1,a.2.2.2.2)).bind λc=> some ((Ex.mk f.1 0 h.2.2.2 ([(e a.1),(e c.1)]:List Ex)),c.2.1,c.2.2.1,c.2.2.2.1,c.2.2.2.2))
theorem Cp(a:bP)(c:fc a)(b:Uc)(e:OK8 b):Ko (GN a b):=
 aX .o call137 func137 (aj (EE a c) (aj cT (aj cg (aj e al)))) al al λs=>(show _=lU bk aM a b s.2.2.2.2.2.2 s.1 s.2.1 s.2.2.1 s.2.2.2.1 s.2.2.2.2.1 s.2.2.2.2.2.1 from by kernel_rfl).trans ((congrArg (λd=>lU d aM a b s.2.2.2.2.2.2 s.1 s.2.1 s.2.2.1 s.2.2.2.1 s.2.2.2.2.1 s.2.2.2.2.2.1) aJ).trans ((congrArg (λf=>lU id f a b s.2.2.2.2.2.2 s.1 s.2.1 s.2.2.1 s.2.2.2.1 s.2.2.2.2.1 s.2.2.2.2.2.1) aN).trans (by kernel_rfl)))
def NL(a:bP)(b:Uc):aq:=⟨219,[eK],bF,[(true,0,cw)],λs=>tS a b s.1 s.2.1 s.2.2.1 s.2.2.2.1 s.2.2.2.2.1 s.2.2.2.2.2⟩
def pR(e:Ex->Ex)(i:Sh->(R:Type)->Option R->Option R)(h:Q2->Option Q3)(g:Q2->Option Q3)(l:Q6)(at_:Int)(c:aD)(d:Int)(f:Int)(b:Int):Option Q3:= (oF h g ([23,24]:xg) l at_ c d f b).bind λa=> some ((e a.1),a.2.1,a.2.2.1,a.2.2.2.1,a.2.2.2.2)
theorem GH(a:bP)(c:fc a)(b:Uc)(e:OK8 b):Ko (NL a b):=
 aX .o call219 func219 (aj (Cp a c b e) al) al al λs=>(show _=pR bk aM a b s.1 s.2.1 s.2.2.1 s.2.2.2.1 s.2.2.2.2.1 s.2.2.2.2.2 from by kernel_rfl).trans ((congrArg (λd=>pR d aM a b s.1 s.2.1 s.2.2.1 s.2.2.2.1 s.2.2.2.2.1 s.2.2.2.2.2) aJ).trans ((congrArg (λf=>pR id f a b s.1 s.2.1 s.2.2.1 s.2.2.2.1 s.2.2.2.2.1 s.2.2.2.2.2) aN).trans (by kernel_rfl)))
def ui(a:bP):aq:=⟨91,[eK,MI],bF,[(true,0,cw)],λs=>ob a s.1 s.2.1 s.2.2.1 s.2.2.2.1 s.2.2.2.2.1 s.2.2.2.2.2⟩
def kl(f:Ex->Ex)(j:Sh->(R:Type)->Option R->Option R)(i:Q2->Option Q3)(h:Q2->Option Q3)(l:Q6)(at_:Int)(d:aD)(a:Int)(g:Int)(c:Int):Option Q3:= bif decide (320<=a) then (cf 9 l at_ d a g c).bind λe=> some ((f e.1),at_,a,e.2.1,e.2.2) else (tS i h l at_ d (i64.wrap (a+1)) g c).bind λb=> some ((f b.1),b.2.1,(i64.wrap (b.2.2.1-1)),b.2.2.2.1,b.2.2.2.2)
def tB(a:bP):Uc->Uc:=λb s=>uz a b s.1 s.2.1 s.2.2.1 s.2.2.2.1 s.2.2.2.2.1 s.2.2.2.2.2
theorem yP(a:bP)(c:fc a)(b:Uc)(e:OK8 b):(iw (tB a b)).Ok X0.P X0.Γ:=
 aX .o call91 func91 (aj fi (aj (GH a c b e) al)) al al λs=>(show _=kl bk aM a b s.1 s.2.1 s.2.2.1 s.2.2.2.1 s.2.2.2.2.1 s.2.2.2.2.2 from by kernel_rfl).trans ((congrArg (λd=>kl d aM a b s.1 s.2.1 s.2.2.1 s.2.2.2.1 s.2.2.2.2.1 s.2.2.2.2.2) aJ).trans ((congrArg (λf=>kl id f a b s.1 s.2.1 s.2.2.1 s.2.2.2.1 s.2.2.2.2.1 s.2.2.2.2.2) aN).trans (by kernel_rfl)))
theorem B1(a:bP)(b:fc a):Ko (ui a):=(show ui a=iw (az (tB a) aC) by kernel_rfl)▸dT (X:=X0) (E:=iw) ⟨call91,λ_ _ h=>nomatch h⟩ (yP a b) aC
def F5(a:bP):aq:=⟨218,[eK],bF,[(true,0,cw)],λs=>gE a s.1 s.2.1 s.2.2.1 s.2.2.2.1 s.2.2.2.2.1 s.2.2.2.2.2⟩
def ld(e:Ex->Ex)(h:Sh->(R:Type)->Option R->Option R)(g:Q2->Option Q3)(l:Q6)(at_:Int)(c:aD)(d:Int)(f:Int)(b:Int):Option Q3:= (ob g l at_ c d f b).bind λa=> some ((e a.1),a.2.1,a.2.2.1,a.2.2.2.1,a.2.2.2.2)
theorem Ap(a:bP)(b:fc a):Ko (F5 a):=
 aX .o call218 func218 (aj (B1 a b) al) al al λs=>(show _=ld bk aM a s.1 s.2.1 s.2.2.1 s.2.2.2.1 s.2.2.2.2.1 s.2.2.2.2.2 from by kernel_rfl).trans ((congrArg (λc=>ld c aM a s.1 s.2.1 s.2.2.1 s.2.2.2.1 s.2.2.2.2.1 s.2.2.2.2.2) aJ).trans ((congrArg (λd=>ld id d a s.1 s.2.1 s.2.2.1 s.2.2.2.1 s.2.2.2.2.1 s.2.2.2.2.2) aN).trans (by kernel_rfl)))
def IY(a:bP):aq:=⟨214,[eK,(.fn 218 [] []),aS],bF,[(true,0,cw)],λs=>pK a s.2.2.2.2.2.2 s.1 s.2.1 s.2.2.1 s.2.2.2.1 s.2.2.2.2.1 s.2.2.2.2.2.1⟩
def Ep(o:Ex->Ex)(q:Sh->(R:Type)->Option R->Option R)(p:Q2->Option Q3)(ops:Q1)(l:Q6)(a:aD)(g:x7->Option Q3):Int×Int×Int×Int×Int×Int×Int×(List Ex)->Option Q3:=λ⟨f,e,b,d,k,j,i,h⟩=> bif b==0 then (bM ops l f a e b d).bind λm=> bif !m.2 then some ((Ex.mk k j i h),f,e,b,d) else (aZ l f a e b d).bind λn=> (gE p l (i64.wrap (f+1)) a e b d).bind λc=> g (c.2.1,c.2.2.1,c.2.2.2.1,c.2.2.2.2,m.1,0,n.2.2.2,([(Ex.mk k j i h),(o c.1)]:List Ex)) else some ((Ex.mk k j i h),f,e,b,d)
def mZ(e:Ex->Ex)(h:Sh->(R:Type)->Option R->Option R)(g:Q2->Option Q3)(ops:Q1)(l:Q6)(at_:Int)(b:aD)(d:Int)(f:Int)(c:Int):Option Q3:= (gE g l at_ b d f c).bind λa=> az (Ep e h g ops l b) aC (a.2.1,a.2.2.1,a.2.2.2.1,a.2.2.2.2,a.1.op,a.1.n,a.1.at_,a.1.l)
theorem D7(a:bP)(b:fc a):Ko (IY a):=
 aX (.l ⟨[(true,0,cw),(true,6,GD),(true,7,JD)],[]⟩ .o) call214 func214 (aj (Ap a b) (aj cT (aj cg al))) al al λs=>(show _=mZ bk aM a s.2.2.2.2.2.2 s.1 s.2.1 s.2.2.1 s.2.2.2.1 s.2.2.2.2.1 s.2.2.2.2.2.1 from by kernel_rfl).trans ((congrArg (λc=>mZ c aM a s.2.2.2.2.2.2 s.1 s.2.1 s.2.2.1 s.2.2.2.1 s.2.2.2.2.1 s.2.2.2.2.2.1) aJ).trans ((congrArg (λd=>mZ id d a s.2.2.2.2.2.2 s.1 s.2.1 s.2.2.1 s.2.2.2.1 s.2.2.2.2.1 s.2.2.2.2.2.1) aN).trans (by kernel_rfl)))
def Sm(a:bP):aq:=⟨215,[eK],bF,[(true,0,cw)],λs=>mM a s.1 s.2.1 s.2.2.1 s.2.2.2.1 s.2.2.2.2.1 s.2.2.2.2.2⟩
def uk(e:Ex->Ex)(h:Sh->(R:Type)->Option R->Option R)(g:Q2->Option Q3)(l:Q6)(at_:Int)(c:aD)(d:Int)(f:Int)(b:Int):Option Q3:= (pK g ([16]:xg) l at_ c d f b).bind λa=> some ((e a.1),a.2.1,a.2.2.1,a.2.2.2.1,a.2.2.2.2)
theorem Ly(a:bP)(b:fc a):Ko (Sm a):=
 aX .o call215 func215 (aj (D7 a b) al) al al λs=>(show _=uk bk aM a s.1 s.2.1 s.2.2.1 s.2.2.2.1 s.2.2.2.2.1 s.2.2.2.2.2 from by kernel_rfl).trans ((congrArg (λc=>uk c aM a s.1 s.2.1 s.2.2.1 s.2.2.2.1 s.2.2.2.2.1 s.2.2.2.2.2) aJ).trans ((congrArg (λd=>uk id d a s.1 s.2.1 s.2.2.1 s.2.2.2.1 s.2.2.2.2.1 s.2.2.2.2.2) aN).trans (by kernel_rfl)))
def PF(a:bP):aq:=⟨214,[eK,(.fn 215 [] []),aS],bF,[(true,0,cw)],λs=>vV a s.2.2.2.2.2.2 s.1 s.2.1 s.2.2.1 s.2.2.2.1 s.2.2.2.2.1 s.2.2.2.2.2.1⟩
def Jh(o:Ex->Ex)(q:Sh->(R:Type)->Option R->Option R)(p:Q2->Option Q3)(ops:Q1)(l:Q6)(a:aD)(g:x7->Option Q3):Int×Int×Int×Int×Int×Int×Int×(List Ex)->Option Q3:=λ⟨f,e,b,d,k,j,i,h⟩=> bif b==0 then (bM ops l f a e b d).bind λm=> bif !m.2 then some ((Ex.mk k j i h),f,e,b,d) else (aZ l f a e b d).bind λn=> (mM p l (i64.wrap (f+1)) a e b d).bind λc=> g (c.2.1,c.2.2.1,c.2.2.2.1,c.2.2.2.2,m.1,0,n.2.2.2,([(Ex.mk k j i h),(o c.1)]:List Ex)) else some ((Ex.mk k j i h),f,e,b,d)
def rN(e:Ex->Ex)(h:Sh->(R:Type)->Option R->Option R)(g:Q2->Option Q3)(ops:Q1)(l:Q6)(at_:Int)(b:aD)(d:Int)(f:Int)(c:Int):Option Q3:= (mM g l at_ b d f c).bind λa=> az (Jh e h g ops l b) aC (a.2.1,a.2.2.1,a.2.2.2.1,a.2.2.2.2,a.1.op,a.1.n,a.1.at_,a.1.l)
theorem IU(a:bP)(b:fc a):Ko (PF a):=
 aX (.l ⟨[(true,0,cw),(true,6,GD),(true,7,JD)],[]⟩ .o) call214 func214 (aj (Ly a b) (aj cT (aj cg al))) al al λs=>(show _=rN bk aM a s.2.2.2.2.2.2 s.1 s.2.1 s.2.2.1 s.2.2.2.1 s.2.2.2.2.1 s.2.2.2.2.2.1 from by kernel_rfl).trans ((congrArg (λc=>rN c aM a s.2.2.2.2.2.2 s.1 s.2.1 s.2.2.1 s.2.2.2.1 s.2.2.2.2.1 s.2.2.2.2.2.1) aJ).trans ((congrArg (λd=>rN id d a s.2.2.2.2.2.2 s.1 s.2.1 s.2.2.1 s.2.2.2.1 s.2.2.2.2.1 s.2.2.2.2.2.1) aN).trans (by kernel_rfl)))
def VH(a:bP):aq:=⟨206,[eK],bF,[(true,0,cw)],λs=>A6 a s.1 s.2.1 s.2.2.1 s.2.2.2.1 s.2.2.2.2.1 s.2.2.2.2.2⟩
def vS(e:Ex->Ex)(h:Sh->(R:Type)->Option R->Option R)(g:Q2->Option Q3)(l:Q6)(at_:Int)(c:aD)(d:Int)(f:Int)(b:Int):Option Q3:= (vV g ([17]:xg) l at_ c d f b).bind λa=> some ((e a.1),a.2.1,a.2.2.1,a.2.2.2.1,a.2.2.2.2)
theorem NA(a:bP)(b:fc a):Ko (VH a):=
 aX .o call206 func206 (aj (IU a b) al) al al λs=>(show _=vS bk aM a s.1 s.2.1 s.2.2.1 s.2.2.2.1 s.2.2.2.2.1 s.2.2.2.2.2 from by kernel_rfl).trans ((congrArg (λc=>vS c aM a s.1 s.2.1 s.2.2.1 s.2.2.2.1 s.2.2.2.2.1 s.2.2.2.2.2) aJ).trans ((congrArg (λd=>vS id d a s.1 s.2.1 s.2.2.1 s.2.2.2.1 s.2.2.2.2.1 s.2.2.2.2.2) aN).trans (by kernel_rfl)))
def HF(a:bP)(b:Rp):aq:=⟨137,[eK,(.fn 206 [] []),Ml,aS],bF,[(true,0,cw)],λs=>n8 a b s.2.2.2.2.2.2 s.1 s.2.1 s.2.2.1 s.2.2.2.1 s.2.2.2.2.1 s.2.2.2.2.2.1⟩
def lZ(e:Ex->Ex)(p:Sh->(R:Type)->Option R->Option R)(o:Q2->Option Q3)(n:Q2->Option Q3)(ops:Q1)(l:Q6)(at_:Int)(b:aD)(g:Int)(i:Int)(d:Int):Option Q3:= (A6 o l at_ b g i d).bind λa=> (bM ops l a.2.1 b a.2.2.1 a.2.2.2.1 a.2.2.2.2).bind λf=> ai (a.2.2.2.1 != 0) λm=> ai (!f.2) λk=> ai (m||k) λj=> bif j then ( some ((e a.1),a.2.1,a.2.2.1,a.2.2.2.1,a.2.2.2.2)) else ( (aZ l a.2.1 b a.2.2.1 a.2.2.2.1 a.2.2.2.2).bind λh=> (n (l,(i64.wrap (a.2.1+1)),b,a.2.2.1,a.2.2.2.1,a.2.2.2.2)).bind λc=> some ((Ex.mk f.1 0 h.2.2.2 ([(e a.1),(e c.1)]:List Ex)),c.2.1,c.2.2.1,c.2.2.2.1,c.2.2.2.2))
theorem Cq(a:bP)(c:fc a)(b:Rp)(e:OK9 b):Ko (HF a b):=
 aX .o call137 func137 (aj (NA a c) (aj cT (aj cg (aj e al)))) al al λs=>(show _=lZ bk aM a b s.2.2.2.2.2.2 s.1 s.2.1 s.2.2.1 s.2.2.2.1 s.2.2.2.2.1 s.2.2.2.2.2.1 from by kernel_rfl).trans ((congrArg (λd=>lZ d aM a b s.2.2.2.2.2.2 s.1 s.2.1 s.2.2.1 s.2.2.2.1 s.2.2.2.2.1 s.2.2.2.2.2.1) aJ).trans ((congrArg (λf=>lZ id f a b s.2.2.2.2.2.2 s.1 s.2.1 s.2.2.1 s.2.2.2.1 s.2.2.2.2.1 s.2.2.2.2.2.1) aN).trans (by kernel_rfl)))
def UA(a:bP)(b:Rp):aq:=⟨184,[eK],bF,[(true,0,cw)],λs=>xR a b s.1 s.2.1 s.2.2.1 s.2.2.2.1 s.2.2.2.2.1 s.2.2.2.2.2⟩
def tv(e:Ex->Ex)(i:Sh->(R:Type)->Option R->Option R)(h:Q2->Option Q3)(g:Q2->Option Q3)(l:Q6)(at_:Int)(c:aD)(d:Int)(f:Int)(b:Int):Option Q3:= (n8 h g ([18]:xg) l at_ c d f b).bind λa=> some ((e a.1),a.2.1,a.2.2.1,a.2.2.2.1,a.2.2.2.2)
theorem Kk(a:bP)(c:fc a)(b:Rp)(e:OK9 b):Ko (UA a b):=
 aX .o call184 func184 (aj (Cq a c b e) al) al al λs=>(show _=tv bk aM a b s.1 s.2.1 s.2.2.1 s.2.2.2.1 s.2.2.2.2.1 s.2.2.2.2.2 from by kernel_rfl).trans ((congrArg (λd=>tv d aM a b s.1 s.2.1 s.2.2.1 s.2.2.2.1 s.2.2.2.2.1 s.2.2.2.2.2) aJ).trans ((congrArg (λf=>tv id f a b s.1 s.2.1 s.2.2.1 s.2.2.2.1 s.2.2.2.2.1 s.2.2.2.2.2) aN).trans (by kernel_rfl)))
def s8(a:bP):aq:=⟨91,[eK,Ml],bF,[(true,0,cw)],λs=>oH a s.1 s.2.1 s.2.2.1 s.2.2.2.1 s.2.2.2.2.1 s.2.2.2.2.2⟩
def ko(f:Ex->Ex)(j:Sh->(R:Type)->Option R->Option R)(i:Q2->Option Q3)(h:Q2->Option Q3)(l:Q6)(at_:Int)(d:aD)(a:Int)(g:Int)(c:Int):Option Q3:= bif decide (320<=a) then (cf 9 l at_ d a g c).bind λe=> some ((f e.1),at_,a,e.2.1,e.2.2) else (xR i h l at_ d (i64.wrap (a+1)) g c).bind λb=> some ((f b.1),b.2.1,(i64.wrap (b.2.2.1-1)),b.2.2.2.1,b.2.2.2.2)
def uc(a:bP):Rp->Rp:=λb s=>uI a b s.1 s.2.1 s.2.2.1 s.2.2.2.1 s.2.2.2.2.1 s.2.2.2.2.2
theorem yJ(a:bP)(c:fc a)(b:Rp)(e:OK9 b):(iB (uc a b)).Ok X0.P X0.Γ:=
 aX .o call91 func91 (aj fi (aj (Kk a c b e) al)) al al λs=>(show _=ko bk aM a b s.1 s.2.1 s.2.2.1 s.2.2.2.1 s.2.2.2.2.1 s.2.2.2.2.2 from by kernel_rfl).trans ((congrArg (λd=>ko d aM a b s.1 s.2.1 s.2.2.1 s.2.2.2.1 s.2.2.2.2.1 s.2.2.2.2.2) aJ).trans ((congrArg (λf=>ko id f a b s.1 s.2.1 s.2.2.1 s.2.2.2.1 s.2.2.2.2.1 s.2.2.2.2.2) aN).trans (by kernel_rfl)))
theorem Cm(a:bP)(b:fc a):Ko (s8 a):=(show s8 a=iB (az (uc a) aC) by kernel_rfl)▸dT (X:=X0) (E:=iB) ⟨call91,λ_ _ h=>nomatch h⟩ (yJ a b) aC
def Jc(a:bP):aq:=⟨138,[eK],bF,[(true,0,cw)],λs=>pE a s.1 s.2.1 s.2.2.1 s.2.2.2.1 s.2.2.2.2.1 s.2.2.2.2.2⟩
def mT(e:Ex->Ex)(h:Sh->(R:Type)->Option R->Option R)(g:Q2->Option Q3)(l:Q6)(at_:Int)(c:aD)(d:Int)(f:Int)(b:Int):Option Q3:= (oH g l at_ c d f b).bind λa=> some ((e a.1),a.2.1,a.2.2.1,a.2.2.2.1,a.2.2.2.2)
theorem DP(a:bP)(b:fc a):Ko (Jc a):=
 aX .o call138 func138 (aj (Cm a b) al) al al λs=>(show _=mT bk aM a s.1 s.2.1 s.2.2.1 s.2.2.2.1 s.2.2.2.2.1 s.2.2.2.2.2 from by kernel_rfl).trans ((congrArg (λc=>mT c aM a s.1 s.2.1 s.2.2.1 s.2.2.2.1 s.2.2.2.2.1 s.2.2.2.2.2) aJ).trans ((congrArg (λd=>mT id d a s.1 s.2.1 s.2.2.1 s.2.2.2.1 s.2.2.2.2.1 s.2.2.2.2.2) aN).trans (by kernel_rfl)))
def MW(a:bP):aq:=⟨137,[eK,(.fn 138 [] []),(.fn 92 [] []),aS],bF,[(true,0,cw)],λs=>uw a s.2.2.2.2.2.2 s.1 s.2.1 s.2.2.1 s.2.2.2.1 s.2.2.2.2.1 s.2.2.2.2.2.1⟩
def pD(e:Ex->Ex)(o:Sh->(R:Type)->Option R->Option R)(n:Q2->Option Q3)(ops:Q1)(l:Q6)(at_:Int)(b:aD)(g:Int)(i:Int)(d:Int):Option Q3:= (pE n l at_ b g i d).bind λa=> (bM ops l a.2.1 b a.2.2.1 a.2.2.2.1 a.2.2.2.2).bind λf=> ai (a.2.2.2.1 != 0) λm=> ai (!f.2) λk=> ai (m||k) λj=> bif j then ( some ((e a.1),a.2.1,a.2.2.1,a.2.2.2.1,a.2.2.2.2)) else ( (aZ l a.2.1 b a.2.2.1 a.2.2.2.1 a.2.2.2.2).bind λh=> (n (l,(i64.wrap (a.2.1+1)),b,a.2.2.1,a.2.2.2.1,a.2.2.2.2)).bind λc=> some ((Ex.mk f.1 0 h.2.2.2 ([(e a.1),(e c.1)]:List Ex)),c.2.1,c.2.2.1,c.2.2.2.1,c.2.2.2.2))
theorem G5(a:bP)(b:fc a):Ko (MW a):=
 aX .o call137 func137 (aj (DP a b) (aj cT (aj cg (aj b al)))) al al λs=>(show _=pD bk aM a s.2.2.2.2.2.2 s.1 s.2.1 s.2.2.1 s.2.2.2.1 s.2.2.2.2.1 s.2.2.2.2.2.1 from by kernel_rfl).trans ((congrArg (λc=>pD c aM a s.2.2.2.2.2.2 s.1 s.2.1 s.2.2.1 s.2.2.2.1 s.2.2.2.2.1 s.2.2.2.2.2.1) aJ).trans ((congrArg (λd=>pD id d a s.2.2.2.2.2.2 s.1 s.2.1 s.2.2.1 s.2.2.2.1 s.2.2.2.2.1 s.2.2.2.2.2.1) aN).trans (by kernel_rfl)))
def SL(a:bP):aq:=⟨92,[eK],bF,[(true,0,cw)],λs=>xP a s.1 s.2.1 s.2.2.1 s.2.2.2.1 s.2.2.2.2.1 s.2.2.2.2.2⟩
def tF(e:Ex->Ex)(h:Sh->(R:Type)->Option R->Option R)(g:Q2->Option Q3)(l:Q6)(at_:Int)(c:aD)(d:Int)(f:Int)(b:Int):Option Q3:= (uw g ([19]:xg) l at_ c d f b).bind λa=> some ((e a.1),a.2.1,a.2.2.1,a.2.2.2.1,a.2.2.2.2)
theorem KJ(a:bP)(b:fc a):Ko (SL a):=
 aX .o call92 func92 (aj (G5 a b) al) al al λs=>(show _=tF bk aM a s.1 s.2.1 s.2.2.1 s.2.2.2.1 s.2.2.2.2.1 s.2.2.2.2.2 from by kernel_rfl).trans ((congrArg (λc=>tF c aM a s.1 s.2.1 s.2.2.1 s.2.2.2.1 s.2.2.2.2.1 s.2.2.2.2.2) aJ).trans ((congrArg (λd=>tF id d a s.1 s.2.1 s.2.2.1 s.2.2.2.1 s.2.2.2.2.1 s.2.2.2.2.2) aN).trans (by kernel_rfl)))
def yq:aq:=⟨91,[eK,(.fn 92 [] [])],bF,[(true,0,cw)],U6 tY⟩
def ng(f:Ex->Ex)(i:Sh->(R:Type)->Option R->Option R)(h:Q2->Option Q3)(l:Q6)(at_:Int)(d:aD)(a:Int)(g:Int)(c:Int):Option Q3:= bif decide (320<=a) then (cf 9 l at_ d a g c).bind λe=> some ((f e.1),at_,a,e.2.1,e.2.2) else (xP h l at_ d (i64.wrap (a+1)) g c).bind λb=> some ((f b.1),b.2.1,(i64.wrap (b.2.2.1-1)),b.2.2.2.1,b.2.2.2.2)
def xY:bP->bP:=λa s=>ye a s.1 s.2.1 s.2.2.1 s.2.2.2.1 s.2.2.2.2.1 s.2.2.2.2.2
theorem Ek(a:bP)(b:fc a):(ki (xY a)).Ok X0.P X0.Γ:=
 aX .o call91 func91 (aj fi (aj (KJ a b) al)) al al λs=>(show _=ng bk aM a s.1 s.2.1 s.2.2.1 s.2.2.2.1 s.2.2.2.2.1 s.2.2.2.2.2 from by kernel_rfl).trans ((congrArg (λc=>ng c aM a s.1 s.2.1 s.2.2.1 s.2.2.2.1 s.2.2.2.2.1 s.2.2.2.2.2) aJ).trans ((congrArg (λd=>ng id d a s.1 s.2.1 s.2.2.1 s.2.2.2.1 s.2.2.2.2.1 s.2.2.2.2.2) aN).trans (by kernel_rfl)))
theorem Il:Ko yq:=(show yq=ki (az (xY) aC) by kernel_rfl)▸dT (X:=X0) (E:=ki) ⟨call91,λ_ _ h=>nomatch h⟩ (Ek) aC
def acq:aq:=⟨58,[(.sli nd),an,(.sli .s)],(.cE [bF,an,an,an]),[],U3 HL⟩
def BQ(c:Ex->Ex)(d:Sh->(R:Type)->Option R->Option R)(l:Q6)(at_:Int)(b:aD):Option NW:= (tY l at_ b 0 0 0).bind λa=> bif a.2.2.2.1 != 0 then some ((Ex.mk 0 0 0 []),0,a.2.2.2.1,a.2.2.2.2) else some ((c a.1),a.2.1,0,0)
theorem Sg:Ko acq:=
 aX (.c (.r [6] .o) (.r [6] .o)) call58 func58 (aj Il al) al al λs=>(show _=BQ bk aM s.1 s.2.1 s.2.2 from by kernel_rfl).trans ((congrArg (λa=>BQ a aM s.1 s.2.1 s.2.2) aJ).trans ((congrArg (λb=>BQ id b s.1 s.2.1 s.2.2) aN).trans (by kernel_rfl)))
def aiS:aq:=⟨112,[fA],.bool,[],λs=>o9 s⟩
def Kw(a:Ex->Ex)(g:Sh->(R:Type)->Option R->Option R)(e:Ex):vc:= (j7 (a e)).bind λd=> ai (d.2.1==0) λf=> ai (d.1==2) λc=> ai (f&&c) λb=> some b
theorem BK:Ko aiS:=
 aX .o call112 func112 (aj oU al) al al λs=>(show _=Kw bk aM s from by kernel_rfl).trans ((congrArg (λa=>Kw a aM s) aJ).trans ((congrArg (λb=>Kw id b s) aN).trans (by kernel_rfl)))
def Yd(a:GV):aq:=⟨185,[an,.bool,Vn,(.bx 261 0 true [AW])],fA,[(true,3,ZA),(true,1003,AW)],λs=>bz a s.1 s.2.1 s.2.2.1 s.2.2.2.1 s.2.2.2.2.1 s.2.2.2.2.2.1 s.2.2.2.2.2.2⟩
def xH(b:Ex->Ex)(e:Sh->(R:Type)->Option R->Option R)(d:OA->Option iJ)(i:Int)(not:Bool)(f:Int)(h:Int)(g:Int)(L:(List Ex))(x:Int):Option iJ:= (idx L i).bind λc=> (d ((b c),not,x)).bind λa=> some ((b a.1),a.2)
theorem A5(a:GV)(b:ajQ a):Ko (Yd a):=
 aX (.r [3,6] .o) call185 func185 (aj b al) al al λs=>(show _=xH bk aM a s.1 s.2.1 s.2.2.1 s.2.2.2.1 s.2.2.2.2.1 s.2.2.2.2.2.1 s.2.2.2.2.2.2 from by kernel_rfl).trans ((congrArg (λc=>xH c aM a s.1 s.2.1 s.2.2.1 s.2.2.2.1 s.2.2.2.2.1 s.2.2.2.2.2.1 s.2.2.2.2.2.2) aJ).trans ((congrArg (λd=>xH id d a s.1 s.2.1 s.2.2.1 s.2.2.2.1 s.2.2.2.2.1 s.2.2.2.2.2.1 s.2.2.2.2.2.2) aN).trans (by kernel_rfl)))
def YZ:aq:=⟨186,[an,an,fA,fA,Mp,Vn],bF,[],U9 dS⟩
def Qg(d:Ex->Ex)(e:Sh->(R:Type)->Option R->Option R)(a:Ex)(b:Ex)(At:Int)(c:Int):Option Ex:= some (Ex.mk c 0 At ([(d a),(d b)]:List Ex))
def xX(f:Ex->Ex)(g:Sh->(R:Type)->Option R->Option R)(op:Int)(d:Int)(a:Ex)(b:Ex)(x:Bool)(h:Int)(i:Int)(At:Int)(j:(List Ex)):Option Ex:= ai (λ(e:Int)=>Qg f g a b At e) λc=> bif x then ( c d) else ( c op)
theorem P6:Ko YZ:=
 aX (.s (.j ⟨[(false,0,an)],[]⟩ .o .o)) call186 func186 al al al λs=>(show _=xX bk aM s.1 s.2.1 s.2.2.1 s.2.2.2.1 s.2.2.2.2.1 s.2.2.2.2.2.1 s.2.2.2.2.2.2.1 s.2.2.2.2.2.2.2.1 s.2.2.2.2.2.2.2.2 from by kernel_rfl).trans ((congrArg (λa=>xX a aM s.1 s.2.1 s.2.2.1 s.2.2.2.1 s.2.2.2.2.1 s.2.2.2.2.2.1 s.2.2.2.2.2.2.1 s.2.2.2.2.2.2.2.1 s.2.2.2.2.2.2.2.2) aJ).trans ((congrArg (λb=>xX id b s.1 s.2.1 s.2.2.1 s.2.2.2.1 s.2.2.2.2.1 s.2.2.2.2.2.1 s.2.2.2.2.2.2.1 s.2.2.2.2.2.2.2.1 s.2.2.2.2.2.2.2.2) aN).trans (by kernel_rfl)))
def Yo(a:GV):aq:=⟨188,[.bool,.bool,Vn,(.bx 304 0 true [(.fn 185 [] [(.ptr 0 0),(.bx 261 0 true [AW])])])],bF,[(true,3,(.bx 304 0 true [.same])),(true,1003,ZA),(true,1004,AW)],λs=>p7 a s.1 s.2.1 s.2.2.1 s.2.2.2.1 s.2.2.2.2.1 s.2.2.2.2.2.1 s.2.2.2.2.2.2⟩
def xx(d:Ex->Ex)(g:Sh->(R:Type)->Option R->Option R)(e:OA->Option iJ)(x:Bool)(y:Bool)(f:Int)(N:Int)(At:Int)(L:(List Ex))(c:Int):Option iJ:= (bz e 0 x f N At L c).bind λb=> (bz e 1 y f N At L b.2).bind λa=> some ((Ex.mk 16 0 At ([(d b.1),(d a.1)]:List Ex)),a.2)
theorem PT(a:GV)(b:ajQ a):Ko (Yo a):=
 aX (.r [3,6] .o) call188 func188 (aj (A5 a b) al) al al λs=>(show _=xx bk aM a s.1 s.2.1 s.2.2.1 s.2.2.2.1 s.2.2.2.2.1 s.2.2.2.2.2.1 s.2.2.2.2.2.2 from by kernel_rfl).trans ((congrArg (λc=>xx c aM a s.1 s.2.1 s.2.2.1 s.2.2.2.1 s.2.2.2.2.1 s.2.2.2.2.2.1 s.2.2.2.2.2.2) aJ).trans ((congrArg (λd=>xx id d a s.1 s.2.1 s.2.2.1 s.2.2.2.1 s.2.2.2.2.1 s.2.2.2.2.2.1 s.2.2.2.2.2.2) aN).trans (by kernel_rfl)))
def Za:aq:=⟨187,[an,an,(.bx 261 0 true [AW]),Mp,Vn],bF,[(true,2,ZA),(true,1001,AW)],λs=>p9 s.1 s.2.1 s.2.2.2.1 s.2.2.2.2.1 s.2.2.2.2.2.1 s.2.2.2.2.2.2.1 s.2.2.2.2.2.2.2 s.2.2.1⟩
theorem Qk:Ko Za:=
 aw .o call187 func187 al
def SQ:aq:=⟨139,[fA,.bool,AW],fA,[(true,2,AW)],U3 QX⟩
def Y5(b:Ex->Ex)(i:Sh->(R:Type)->Option R->Option R)(h:OA->Option iJ)(e:Ex)(not:Bool)(c:Int)(a:Bool):Option iJ:= (bz h 0 a e.op e.n e.at_ e.l (i64.wrap (c-1))).bind λf=> (bz h 1 not e.op e.n e.at_ e.l f.2).bind λd=> (dS 17 16 (b f.1) (b d.1) not e.op e.n e.at_ e.l).bind λg=> some ((b g),d.2)
def BB(a:Ex->Ex)(C:Sh->(R:Type)->Option R->Option R)(c:OA->Option iJ)(e:Ex)(not:Bool)(b:Int):Option iJ:= bif decide ((i64.wrap (b-1))<0) then some ((Ex.mk 0 0 0 []),(i64.wrap (b-1))) else (o9 (a e)).bind λB=> bif B then ( bif not then ( some ((Ex.mk 15 0 e.at_ ([(a e)]:List Ex)),(i64.wrap (b-1)))) else ( some ((a e),(i64.wrap (b-1))))) else ( ai (λ(z:Bool)=>Y5 a C c e not b z) λo=> bif e.op==15 then (bz c 0 (!not) e.op e.n e.at_ e.l (i64.wrap ((i64.wrap (b-1))+1))).bind λu=> some ((a u.1),u.2) else bif e.op==18 then o (!not) else bif e.op==17 then o not else bif e.op==16 then (bz c 0 not e.op e.n e.at_ e.l (i64.wrap (b-1))).bind λt=> (bz c 1 not e.op e.n e.at_ e.l t.2).bind λs=> (dS 16 17 (a t.1) (a s.1) not e.op e.n e.at_ e.l).bind λA=> some ((a A),s.2) else bif e.op==19 then (p7 c false not e.op e.n e.at_ e.l (i64.wrap ((i64.wrap (b-1))-2))).bind λr=> (p7 c true (!not) e.op e.n e.at_ e.l r.2).bind λq=> some ((Ex.mk 17 0 e.at_ ([(a r.1),(a q.1)]:List Ex)),q.2) else bif e.op==20 then (bz c 0 not e.op e.n e.at_ e.l (i64.wrap (b-1))).bind λp=> some ((Ex.mk 20 0 e.at_ ([(a p.1)]:List Ex)),p.2) else bif e.op==21 then (p9 13 14 not e.op e.n e.at_ e.l (i64.wrap (b-1))).bind λm=> (bz c 0 not e.op e.n e.at_ e.l m.2).bind λk=> (dS 23 24 (a m.1) (a k.1) not e.op e.n e.at_ e.l).bind λy=> some ((a y),k.2) else bif e.op==22 then (p9 14 13 not e.op e.n e.at_ e.l (i64.wrap (b-1))).bind λj=> (bz c 0 not e.op e.n e.at_ e.l j.2).bind λi=> (dS 24 23 (a j.1) (a i.1) not e.op e.n e.at_ e.l).bind λx=> some ((a x),i.2) else bif e.op==23 then (bz c 0 not e.op e.n e.at_ e.l (i64.wrap (b-1))).bind λh=> (bz c 1 not e.op e.n e.at_ e.l h.2).bind λg=> (dS 23 24 (a h.1) (a g.1) not e.op e.n e.at_ e.l).bind λw=> some ((a w),g.2) else (bz c 0 not e.op e.n e.at_ e.l (i64.wrap (b-1))).bind λf=> (bz c 1 not e.op e.n e.at_ e.l f.2).bind λd=> (dS 24 23 (a f.1) (a d.1) not e.op e.n e.at_ e.l).bind λv=> some ((a v),d.2))
def Sx:GV->GV:=λa s=>SK a s.1 s.2.1 s.2.2
theorem Si(a:GV)(b:ajQ a):(wc (Sx a)).Ok X0.P X0.Γ:=
 aX (.c .o (.c .o (.s (.s (.s (.s (.s (.s (.s (.s (.s (.s (.s (.s (.j ⟨[(true,6,GD),(true,7,(.bx 304 0 true [.same])),(true,5,ZA),(true,2,(.bx 3 0 true [.same])),(false,10,.bool)],[]⟩ (.c .o (.c .o (.c .o (.c (.r [9,6] .o) (.c (.r [11,6] .o) (.c (.r [7,6] .o) (.c (.r [9,6] .o) (.c (.r [9,6] .o) (.c (.r [7,4,6] .o) (.r [7,4,6] .o)))))))))) (.r [7,4,6] .o)))))))))))))))) call139 func139 (aj BK (aj (A5 a b) (aj P6 (aj (PT a b) (aj Qk al))))) al al λs=>(show _=BB bk aM a s.1 s.2.1 s.2.2 from by kernel_rfl).trans ((congrArg (λd=>BB d aM a s.1 s.2.1 s.2.2) aJ).trans ((congrArg (λe=>BB id e a s.1 s.2.1 s.2.2) aN).trans (by kernel_rfl)))
theorem YW:Ko SQ:=(show SQ=wc (az (Sx) aC) by kernel_rfl)▸dT (X:=X0) (E:=wc) ⟨call139,λ_ _ h=>nomatch h⟩ (Si) aC
def afX:aq:=⟨93,[fA,.bool],(.cE [fA,an]),[],U2 Pq⟩
def G8(b:Ex->Ex)(c:Sh->(R:Type)->Option R->Option R)(e:Ex)(not:Bool):Option iJ:= (QX (b e) not 24).bind λa=> bif decide (a.2<0) then some ((Ex.mk 0 0 0 []),9) else some ((b a.1),0)
theorem Yt:Ko afX:=
 aX .o call93 func93 (aj YW al) al al λs=>(show _=G8 bk aM s.1 s.2 from by kernel_rfl).trans ((congrArg (λa=>G8 a aM s.1 s.2) aJ).trans ((congrArg (λb=>G8 id b s.1 s.2) aN).trans (by kernel_rfl)))
def ajg:aq:=⟨60,[fA],(.cE [fA,an]),[],λs=>Gi s⟩
def Ka(a:Ex->Ex)(c:Sh->(R:Type)->Option R->Option R)(e:Ex):Option iJ:= (Pq (a e) true).bind λb=> some ((a b.1),b.2)
theorem JN:Ko ajg:=
 aX .o call60 func60 (aj Yt al) al al λs=>(show _=Ka bk aM s from by kernel_rfl).trans ((congrArg (λa=>Ka a aM s) aJ).trans ((congrArg (λb=>Ka id b s) aN).trans (by kernel_rfl)))
def Rw:aq:=⟨43,[.str,(.sli .s)],(.cE [fA,an,an]),[],U2 IN⟩
def tH(d:Ex->Ex)(j:Sh->(R:Type)->Option R->Option R)(f:aF)(c:aD):Option (Ex×Int×Int):= (yV f).bind λe=> bif e.2.1 != 0 then some ((Ex.mk 0 0 0 []),e.2.1,e.2.2) else (HL e.1 0 c).bind λa=> bif a.2.2.1 != 0 then some ((Ex.mk 0 0 0 []),a.2.2.1,a.2.2.2) else (idx e.1 a.2.1).bind λi=> bif i.1 != 4 then (idx e.1 a.2.1).bind λh=> some ((Ex.mk 0 0 0 []),2,h.2.2.2) else (j7 (d a.1)).bind λb=> bif b.2.1 != 0 then some ((Ex.mk 0 0 0 []),b.2.1,b.2.2) else bif b.1==1 then some ((Ex.mk 0 0 0 []),4,a.1.at_) else (Gi (d a.1)).bind λg=> bif g.2 != 0 then some ((Ex.mk 0 0 0 []),g.2,a.1.at_) else some ((d a.1),0,0)
theorem J4:Ko Rw:=
 aX (.c .o (.c .o (.c (.r [4] .o) (.c .o (.c (.r [4] .o) (.c (.r [4] .o) .o)))))) call43 func43 (aj CA (aj Sg (aj oU (aj JN al)))) al al λs=>(show _=tH bk aM s.1 s.2 from by kernel_rfl).trans ((congrArg (λa=>tH a aM s.1 s.2) aJ).trans ((congrArg (λb=>tH id b s.1 s.2) aN).trans (by kernel_rfl)))
def IZ:aq:=⟨42,[ahx,an,an,aS],.bool,[(true,0,agS)],λs=>iQ (d8 (d8 s)).2.2.2.2.2.2.2.1 (d8 (d8 (d8 s))).1 (d8 (d8 (d8 s))).2 s.1 s.2.1 s.2.2.1 s.2.2.2.1 s.2.2.2.2.1 s.2.2.2.2.2.1 s.2.2.2.2.2.2.1 s.2.2.2.2.2.2.2.1 s.2.2.2.2.2.2.2.2.1 (d8 s).2.1 (d8 s).2.2.1 (d8 s).2.2.2.1 (d8 s).2.2.2.2.1 (d8 s).2.2.2.2.2.1 (d8 s).2.2.2.2.2.2.1 (d8 s).2.2.2.2.2.2.2.1 (d8 (d8 s)).1 (d8 (d8 s)).2.1 (d8 (d8 s)).2.2.1 (d8 (d8 s)).2.2.2.1 (d8 (d8 s)).2.2.2.2.1 (d8 (d8 s)).2.2.2.2.2.1 (d8 (d8 s)).2.2.2.2.2.2.1⟩
theorem gX:Ko IZ:=
 aw .o call42 func42 al
def Nb:aq:=⟨34,[(.bx 81 0 true [.str,.str,an,an,an,nR,an,an,AH,HY,fq,AH,Po,an,an,an,(.own .ex 79 true),an,an,an,fq,ia,ia])],.bool,[(true,0,(.bx 81 0 true [.same,.same,.same,.same,.same,.same,.same,.same,(.sli .s),gu,aS,(.sli .s),(.sli rG),an,an,an,(.sli .ex),an,an,an,aS,ia,ia]))],λs=>Di s.1 s.2.1 s.2.2.1 s.2.2.2.1 s.2.2.2.2.1 s.2.2.2.2.2.1 s.2.2.2.2.2.2.1 s.2.2.2.2.2.2.2.1 s.2.2.2.2.2.2.2.2.1 (d8 s).2.1 (d8 s).2.2.1 (d8 s).2.2.2.1 (d8 s).2.2.2.2.1 (d8 s).2.2.2.2.2.1 (d8 s).2.2.2.2.2.2.1 (d8 s).2.2.2.2.2.2.2.1 (d8 (d8 s)).1 (d8 (d8 s)).2.1 (d8 (d8 s)).2.2.1 (d8 (d8 s)).2.2.2.1 (d8 (d8 s)).2.2.2.2.1 (d8 (d8 s)).2.2.2.2.2.1 (d8 (d8 s)).2.2.2.2.2.2⟩
theorem Im:Ko Nb:=
 aw (.c .o (.r [40000] .o)) call34 func34 (aj PM (aj Jn (aj J4 (aj gX al))))
def Kr:aq:=⟨95,[gu,(.fn 96 [] [])],dN,[],λs=>Bi s⟩
theorem Fi:Ko Kr:=
 aw (.l ⟨[(true,5,dN),(false,13,an)],[]⟩ .o) call95 func95 (aj ud al)
def UQ:aq:=⟨61,[gu],.bool,[],λs=>AS s⟩
theorem xZ:Ko UQ:=
 aw .o call61 func61 (aj Fi (aj fS al))
def XU:aq:=⟨62,[],(.sli .n),[],λ_=>wA⟩
theorem Ar:Ko XU:=
 aw .o call62 func62 al
def pJ:aq:=⟨63,[gu],HY,[],λs=>fD s⟩
def pT(s:Q8):Option Q8:= vo s ( some []) ( aI (aH (List.length ([]:List cu)+List.length s) 16)<| some (([]:List cu)++s))
theorem gM:Ko pJ:=
 aX .o call63 func63 al al al λs=>(show _=pT s from by kernel_rfl).trans kf
def OK:aq:=⟨256,[an],(.cE [(.dat eQ [some 109,some 7]),an]),[],λs=>oh s⟩
theorem vH:Ko OK:=
 aw .o call256 func256 al
def ag0:aq:=⟨251,[an],(.cE [(.dat (.p eQ gz) [some 109,some 7,some 11]),an]),[],λs=>aam s⟩
theorem XT:Ko ag0:=
 aw .o call251 func251 (aj vH al)
def Jo:aq:=⟨245,[lg,kL,wi],(.cE [(.dat UI [none,some 109,some 7,some 11,none,none,none,none,none,none,none,none,none,none,none,none,none,none,none]),an]),[],U3 yo⟩
theorem EH:Ko Jo:=
 aw .o call245 func245 (aj XT al)
def Hm:aq:=⟨291,[gu,an],(.cE [(.dat SN [some 193,some 109,some 7,some 11]),an]),[],U2 abq⟩
def Yw(g:Nat)(s:Q8)(e:Int)(f:(Q7×Int))(a:((List Q7)×Int)->Option (uW×Int)):(List Q7)×Int->Option (uW×Int):=λ⟨b,c⟩=> bif decide (c<(i64.wrap (Int.tdiv (i64.wrap ((i64.wrap ((s.length:Int)+2))-1)) 2))) then (oh e).bind λd=> aI (aH (List.length b+List.length ([d.1]:List Q7)) 56)<| a ((b++([d.1]:List Q7)),(i64.wrap (c+1))) else some ((b,f.1,[]),0)
def ahg(fl:Nat)(s:Q8)(a:Int):Option (uW×Int):= (oh a).bind λb=> bif b.2 != 0 then some (([],(0,[],[]),[]),b.2) else az (Yw fl s a b) fl ([],0)
theorem WQ(fl:Nat)(s:eo (lX Hm.ps)):aar { X0 with fl:=fl } [OK] [] [] (.c .o (.l ⟨[(true,4,afq),(true,8,agZ),(false,27,an)],[]⟩ .o)) Tryz.f291 Hm s=ahg fl s.1 s.2:=by kernel_rfl
theorem YQ:Ko Hm:=
 aX (.c .o (.l ⟨[(true,4,afq),(true,8,agZ),(false,27,an)],[]⟩ .o)) call291 func291 (aj vH al) al al λs=>(WQ aC s).trans (by kernel_rfl)
def He:aq:=⟨285,[lg,kL,wi],(.cE [(.dat UI [none,none,none,none,some 193,some 109,some 7,some 11,none,none,none,none,none,none,none,none,none,none,none]),an]),[],U3 wR⟩
theorem Ci:Ko He:=
 aw .o call285 func285 (aj YQ al)
def ad5:aq:=⟨313,[an],(.cE [(.dat eQ [some 109,some 7]),an]),[],λs=>Xn s⟩
theorem VQ:Ko ad5:=
 aw .o call313 func313 (aj vH al)
def N7:aq:=⟨314,[an],an,[],λs=>Du s⟩
def Oq:abH->abH:=λa s=>NR a s
theorem PO(a:abH)(b:apY a):(uE (Oq a)).Ok X0.P X0.Γ:=
 aw .o call314 func314 (aj b al)
theorem vO:Ko N7:=(show N7=uE (az (Oq) aC) by kernel_rfl)▸dT (X:=X0) (E:=uE) ⟨call314,λ_ _ h=>nomatch h⟩ (PO) aC
def agH:aq:=⟨309,[gu,an],(.cE [(.dat Se [some 699,some 11]),an]),[],U2 acx⟩
theorem Y3:Ko agH:=
 aw (.c .o (.r [30000,20006] (.l ⟨[(true,4,(.bx 104 0 true [.same,.same])),(true,8,(.bx 104 0 true [(.own eQ 349 true),.same])),(false,23,an)],[]⟩ .o))) call309 func309 (aj VQ (aj vO al))
def Ik:aq:=⟨303,[lg,kL,wi],(.cE [(.dat UI [none,none,none,none,none,none,none,none,some 699,some 11,none,none,none,none,none,none,none,none,none]),an]),[],U3 w8⟩
theorem B9:Ko Ik:=
 aw .o call303 func303 (aj Y3 al)
def adh:aq:=⟨275,[nR],an,[],λs=>KT s⟩
theorem Gw:Ko adh:=
 aw (.l ⟨[(false,0,nR),(false,3,an)],[]⟩ .o) call275 func275 al
def JT:aq:=⟨267,[(.dat dA [])],an,[],λs=>Bk s⟩
theorem Gs:Ko JT:=
 aw .o call267 func267 (aj Gw al)
def NI:aq:=⟨266,[gu,(.fn 267 [] [])],fq,[],λs=>tV s⟩
theorem uK:Ko NI:=
 aw (.l ⟨[(true,5,fq),(false,13,an)],[]⟩ .o) call266 func266 (aj Gs al)
def Zg:aq:=⟨278,[gu],an,[],λs=>OJ s⟩
theorem P1:Ko Zg:=
 aw (.l ⟨[(false,3,an),(false,9,an)],[]⟩ .o) call278 func278 (aj uK al)
def Vm:aq:=⟨269,[gu],an,[],λs=>Ay s⟩
theorem yi:Ko Vm:=
 aw .o call269 func269 (aj P1 al)
def aiK:aq:=⟨336,[an],(.cE [(.dat v8 [some 705,some 7]),an]),[],λs=>afh s⟩
theorem abB:Ko aiK:=
 aw .o call336 func336 al
def Jx:aq:=⟨330,[lg,kL,wi],y7,[],U3 ym⟩
theorem EF:Ko Jx:=
 aw (.c .o (.l ⟨[(true,4,(.bx 113 0 true [.same,.same,.same,.same,.same,.same,.same,.same,.same,.same,.same,.same,.same,.same,an,(.sli km),an,an,aS,an,(.sli km),an,an,aS,an,(.sli km),an,an,aS,.same,.same,.same,.same,.same,.same])),(true,6,(.bx 113 0 true [.same,.same,.same,.same,.same,.same,.same,.same,.same,.same,.same,.same,.same,.same,.same,.same,.same,.same,.same,.same,.same,.same,.same,.same,.same,.same,.same,.same,.same,.same,.same,.same,.same,.same,.same])),(false,18,an)],[]⟩ .o)) call330 func330 (aj yi (aj abB al))
def ahn:aq:=⟨370,[an,an,nR],(.cE [(.dat ER [some 11,some 11,some 11]),an]),[],U3 aa2⟩
theorem YE:Ko ahn:=
 aw (.c .o (.l ⟨[(true,6,(.bx 111 0 true [.same,.same,.same,.same,.same,.same])),(true,8,(.bx 111 0 true [.same,.same,.same,fW,fW,fW])),(false,29,an)],[]⟩ .o)) call370 func370 al
def IV:aq:=⟨364,[lg,kL,wi],y7,[],U3 yh⟩
theorem DC:Ko IV:=
 aw .o call364 func364 (aj YE al)
def acZ:aq:=⟨44,[gu,wi],y7,[],U2 Dl⟩
theorem vD:Ko acZ:=
 aw (.r [] (.c .o (.r [3,40000] .o))) call44 func44 (aj xZ (aj Ar (aj gM (aj EH (aj Ci (aj B9 (aj EF (aj DC al))))))))
def Jy:aq:=⟨35,[ahx],.bool,[(true,0,agS)],λs=>yg s.1 s.2.1 s.2.2.1 s.2.2.2.1 s.2.2.2.2.1 s.2.2.2.2.2.1 s.2.2.2.2.2.2.1 s.2.2.2.2.2.2.2.1 s.2.2.2.2.2.2.2.2.1 (d8 s).2.1 (d8 s).2.2.1 (d8 s).2.2.2.1 (d8 s).2.2.2.2.1 (d8 s).2.2.2.2.2.1 (d8 s).2.2.2.2.2.2.1 (d8 s).2.2.2.2.2.2.2.1 (d8 (d8 s)).1 (d8 (d8 s)).2.1 (d8 (d8 s)).2.2.1 (d8 (d8 s)).2.2.2.1 (d8 (d8 s)).2.2.2.2.1 (d8 (d8 s)).2.2.2.2.2.1 (d8 (d8 s)).2.2.2.2.2.2⟩
theorem ET:Ko Jy:=
 aw (.r [40000] (.j ⟨[(false,4,an)],[]⟩ .o .o)) call35 func35 (aj vD (aj gX al))
def OG:aq:=⟨97,[gu,aS],an,[],U2 hZ⟩
theorem eW:Ko OG:=
 aw (.c .o (.l ⟨[(false,14,an)],[]⟩ .o)) call97 func97 (aj lY al)
def agd:aq:=⟨98,[kL],.ifn,[],λs=>Hb s⟩
theorem xM:Ko agd:=
 aw (.r [1] .o) call98 func98 (aj Ar al)
def Yl:aq:=⟨271,[di],fW,[],λs=>EO s⟩
def YO(b:Q1):Option Q1:= vo b ( some []) ( aI (aH (List.length ([]:xg)+List.length b) 1)<| some (([]:xg)++b))
theorem AN:Ko Yl:=
 aX .o call271 func271 al al al λs=>(show _=YO s from by kernel_rfl).trans kf
def aiq:aq:=⟨276,[(.dat sn [none])],ZB,[],λs=>aeZ s⟩
theorem ZI:Ko aiq:=
 aw .o call276 func276 (aj AN al)
def VF:aq:=⟨277,[ZB,.bool],ew,[(true,0,ZB)],λs=>LV s.2.2 s.1 s.2.1⟩
theorem Nr:Ko VF:=
 aw (.j ⟨[(true,0,(.bx 395 0 true [fW,.same]))],[]⟩ .o (.j ⟨[(true,0,(.bx 395 0 true [fW,.same]))],[]⟩ (.c (.r [0] .o) .o) .o)) call277 func277 al
def afT:aq:=⟨268,[(.dat sn [none]),nR,an],(.cE [(.dat sn [none]),an]),[],U3 aaL⟩
theorem YT:Ko afT:=
 aw (.c .o (.c .o (.l ⟨[(true,6,(.bx 374 0 true [.same,.same])),(true,8,ZB),(false,9,an)],[]⟩ (.c (.r [8] .o) .o)))) call268 func268 (aj Gw (aj ZI (aj Nr al)))
def Dr:aq:=⟨259,[gu,aS],(.cE [fW,an]),[],U2 mJ⟩
theorem oG:Ko Dr:=
 aw (.c .o (.l ⟨[(true,7,(.bx 374 0 true [di,an])),(false,20,an)],[]⟩ (.c (.r [7] .o) .o))) call259 func259 (aj eW (aj uK (aj YT (aj yi al))))
def adz:aq:=⟨253,[kL,aS],di,[],U2 eN⟩
theorem dU:Ko adz:=
 aw .o call253 func253 (aj oG al)
def Yk:aq:=⟨282,[Hw],ew,[(true,0,Hw)],λs=>OC s⟩
theorem O6:Ko Yk:=
 aw .o call282 func282 al
def Y6:aq:=⟨283,[Hw],ew,[(true,0,Hw)],λs=>O0 s⟩
theorem Pr:Ko Y6:=
 aw .o call283 func283 al
def Ye:aq:=⟨284,[Hw],ew,[(true,0,Hw)],λs=>Og s⟩
theorem PB:Ko Ye:=
 aw .o call284 func284 al
def afG:aq:=⟨280,[di,nR],nR,[],U2 H2⟩
theorem xo:Ko afG:=
 aw (.l ⟨[(true,5,Hw),(false,15,an)],[]⟩ (.c .o (.n 50 .o))) call280 func280 (aj O6 (aj Pr (aj PB al)))
def adg:aq:=⟨279,[nR,an],an,[],U2 Dm⟩
theorem vI:Ko adg:=
 aw .o call279 func279 al
def YP:aq:=⟨281,[di,di],.bool,[],U2 EC⟩
theorem Be:Ko YP:=
 aw .o call281 func281 al
def MP:aq:=⟨273,[DJ,di],an,[],U2 ua⟩
theorem tG:Ko MP:=
 aw (.n 0 (.j ⟨[(false,5,an)],[]⟩ .o .o)) call273 func273 (aj xo (aj vI (aj Be al)))
def MT:aq:=⟨274,[DJ,di],Az,[],U2 CC⟩
theorem H3:Ko MT:=
 aw .o call274 func274 (aj tG al)
def acv:aq:=⟨265,[DJ,di],Az,[],U2 j2⟩
theorem jZ:Ko acv:=
 aw .o call265 func265 (aj H3 al)
def GQ:aq:=⟨273,[(.dat eQ [some 108,some 6]),di],an,[],U2 wZ⟩
theorem Cl:Ko GQ:=
 aw (.n 0 (.j ⟨[(false,5,an)],[]⟩ .o .o)) call273 func273 (aj xo (aj vI (aj Be al)))
def La:aq:=⟨272,[(.bx 384 0 true [an,(.own gz 54 true),aS]),an],ew,[(true,0,(.bx 384 0 true [.same,(.own gz 54 true),aS]))],λs=>AU s.2.2.2 s.1 s.2.1 s.2.2.1⟩
theorem Fh:Ko La:=
 aw (.l ⟨[(true,0,(.bx 384 0 true [.same,(.own gz 54 true),fq])),(false,18,(.slr 1)),(false,20,an)],[]⟩ (.c (.r [0] .o) .o)) call272 func272 (aj Cl al)
def DA:aq:=⟨101,[aS],fq,[],λs=>cW s⟩
def Em(s:Q1):Option Q1:= vo s ( some []) ( aI (aH (List.length ([]:xg)+List.length s) 8)<| some (([]:xg)++s))
theorem dw:Ko DA:=
 aX .o call101 func101 al al al λs=>(show _=Em s from by kernel_rfl).trans kf
def Gv:aq:=⟨260,[DJ,di],(.cE [DJ,an,.bool,an]),[],U2 ga⟩
theorem pG:Ko Gv:=
 aw (.c .o (.c .o (.s (.s (.j ⟨[(true,11,(.bx 384 0 true [.same,(.own gz 54 true),aS]))],[2]⟩ (.c .o (.r [11] .o)) .o))))) call260 func260 (aj jZ (aj AN (aj Fh (aj dw (aj tG al)))))
def YA:aq:=⟨254,[QL,di],(.cE [QL,.bool,an]),[],U2 Oc⟩
theorem Qu:Ko YA:=
 aw (.c .o (.r [4,40000] .o)) call254 func254 (aj pG al)
def HH:aq:=⟨247,[lg,kL,aS],My,[],U3 wO⟩
theorem BU:Ko HH:=
 aw (.r [40000] .o) call247 func247 (aj dU (aj Qu al))
def It:aq:=⟨299,[gu,aS],(.fn 302 [] [(.bx 73 0 true [gu]),Zy]),[],U2 wz⟩
theorem Aw:Ko It:=
 aw .o call299 func299 al
def IA:aq:=⟨300,[fW,aS],fW,[],U2 wb⟩
theorem Au:Ko IA:=
 aw (.l ⟨[(false,0,fW),(false,10,an)],[]⟩ (.c (.l ⟨[(false,0,fW),(false,14,an)],[]⟩ .o) .o)) call300 func300 al
def OU:aq:=⟨296,[J7,gu,aS],an,[],U3 CE⟩
theorem W2:(⟨302,Tryz.f302⟩:jE).Ok X0.P:=⟨call302,func302⟩
theorem FG:Ko OU:=
 aX (.c (.c (.l ⟨[(false,4,an),(true,10006,AW),(true,10007,(.bx 54 0 true [fW]))],[]⟩ .o) .o) (.r [70000,6,7] .o)) call296 func296 (aj Aw (aj oG (aj jZ (aj Au al)))) al (aj W2 al) λ_=>by kernel_rfl
def abd:aq:=⟨301,[DJ],an,[],λs=>Ib s⟩
theorem C1:Ko abd:=
 aw .o call301 func301 al
def Oa:aq:=⟨297,[J7],an,[],λs=>L4 s⟩
theorem VP:Ko Oa:=
 aw .o call297 func297 (aj C1 al)
def iM:aq:=⟨298,[(.sli eQ)],(.own eQ 96 true),[],λs=>fB s⟩
def pB(s:(List Q7)):Option (List Q7):= vo s ( some []) ( aI (aH (List.length ([]:List Q7)+List.length s) 56)<| some (([]:List Q7)++s))
theorem nM:Ko iM:=
 aX .o call298 func298 al al al λs=>(show _=pB s from by kernel_rfl).trans kf
def xU:aq:=⟨293,[J7,gu,aS],(.cE [J7,.bool,an]),[],U3 N9⟩
def O5(n:Nat)(c:uW)(o:Q8)(b:(Q8×Q1))(e:(Int×(List Q7)×Q1)->Option Q61):Int×(List Q7)×Q1->Option Q61:=λ⟨a,d,j⟩=> bif decide ((i64.wrap (a*2))<(b.1.length:Int)) then aI (dn (i64.wrap (a*2)) (min (b.1.length:Int) (i64.wrap ((i64.wrap (a+1))*2))) (List.length b.1))<| aI (dn (i64.wrap (a*2)) (min (b.1.length:Int) (i64.wrap ((i64.wrap (a+1))*2))) (List.length b.2))<| (mJ (bC b.1 (i64.wrap (a*2)) (min (b.1.length:Int) (i64.wrap ((i64.wrap (a+1))*2)))) (bC b.2 (i64.wrap (a*2)) (min (b.1.length:Int) (i64.wrap ((i64.wrap (a+1))*2))))).bind λk=> (idx d a).bind λl=> (ga l k.1).bind λf=> (wb j ([f.2.1]:xg)).bind λg=> (idx d a).bind λm=> bif !true then (ga c.2.1 g).bind λi=> aI (jz 0 (c.2.2.length:Int) (c.2.2.length:Int) (List.length c.2.2)&&((c.2.2.length:Int)==(c.2.2.length:Int)))<| aI (aH (List.length (bC c.2.2 0 (c.2.2.length:Int))+List.length ([0]:xg)) 1)<| some (((List.set d (Int.toNat a) f.1),i.1,((bC c.2.2 0 (c.2.2.length:Int))++([0]:xg))),true,0) else e ((i64.wrap (a+1)),(List.set d (Int.toNat a) f.1),g) else (ga c.2.1 j).bind λh=> aI (jz 0 (c.2.2.length:Int) (c.2.2.length:Int) (List.length c.2.2)&&((c.2.2.length:Int)==(c.2.2.length:Int)))<| aI (aH (List.length (bC c.2.2 0 (c.2.2.length:Int))+List.length ([0]:xg)) 1)<| some ((d,h.1,((bC c.2.2 0 (c.2.2.length:Int))++([0]:xg))),true,0)
def Yu(fl:Nat)(c:uW)(s:Q8)(a:Q1):Option Q61:= (hZ s a).bind λb=> bif b != 0 then some (c,false,b) else (CE c s a).bind λg=> bif decide (0<=g) then some (c,false,0) else (L4 c).bind λf=> bif decide (c.2.1.1<=f) then some (c,false,7) else (fB c.1).bind λe=> (wz s a).bind λd=> az (O5 fl c s d) fl (0,e,[])
theorem Nt(fl:Nat)(s:eo (lX xU.ps)):aar { X0 with fl:=fl } [OG,OU,Oa,iM,It,Dr,Gv,IA] [] [⟨302,Tryz.f302⟩] (.c .o (.c .o (.r [] (.c .o (.c (.c (.l ⟨[(false,4,an),(true,10003,agZ),(true,10006,afq),(true,10010,(.bx 54 0 true [fW]))],[]⟩ .o) (.r [10,3] .o)) (.r [70000,3,6,10] .o)))))) Tryz.f293 xU s=Yu fl s.1 s.2.1 s.2.2:=by kernel_rfl
theorem Qs:Ko xU:=
 aX (.c .o (.c .o (.r [] (.c .o (.c (.c (.l ⟨[(false,4,an),(true,10003,agZ),(true,10006,afq),(true,10010,(.bx 54 0 true [fW]))],[]⟩ .o) (.r [10,3] .o)) (.r [70000,3,6,10] .o)))))) call293 func293 (aj eW (aj FG (aj VP (aj nM (aj Aw (aj oG (aj pG (aj Au al)))))))) al (aj W2 al) λs=>(Nt aC s).trans (by kernel_rfl)
def Gc:aq:=⟨287,[lg,kL,aS],My,[],U3 vf⟩
theorem Bd:Ko Gc:=
 aw .o call287 func287 (aj Qs al)
def Vj:aq:=⟨321,[gu,aS],(.own (.i .u32) 38 true),[],U2 Ah⟩
theorem yn:Ko Vj:=
 aw (.l ⟨[(false,5,(.own (.i .u32) 38 true)),(false,10,an)],[]⟩ .o) call321 func321 al
def agG:aq:=⟨328,[jB,jB],(.dat VO []),[],U2 PJ⟩
theorem IE:Ko agG:=
 aw (.l ⟨[(true,4,(.bx 443 0 true [.same,.same,.same,.same,.same,.same,.same,.same])),(true,5,(.bx 443 0 true [ig,ig,ig,ig,ig,ig,ig,ig])),(false,7,an)],[]⟩ (.c (.r [5] .o) .o)) call328 func328 al
def Qm:aq:=⟨329,[(.dat VO [])],di,[],λs=>vq s⟩
theorem vn:Ko Qm:=
 aw .o call329 func329 al
def ZM:aq:=⟨327,[DJ,jB,jB],Az,[],U3 R3⟩
theorem Sn:Ko ZM:=
 aw .o call327 func327 (aj IE (aj vn (aj jZ al)))
def QM:bH:=⟨323,[agW,an,jB,jB],Dh,none,false,false,jB,[],λs=>vx s.2.1 s.2.2.1 s.2.2.2 s.1⟩
theorem u5:px QM:=
 abK .o call323 func323 (aj Sn al)
def Bw:bH:=⟨326,[agW,an,L8],Dh,none,false,false,jB,[],λs=>EY s.2.1 s.2.2 s.1⟩
def AM:aaN->aaN:=λa s=>AF a s.1 s.2.1 s.2.2
theorem Fm(a:aaN)(b:apX a):(kQ (AM a)).Ok X0.P X0.Γ:=
 ou (.c .o (.r [0] .o)) call326 func326 (aj vO al) (aj b (aj u5 al)) al λ_=>by kernel_rfl
theorem IX:px Bw:=(show Bw=kQ (az (AM) aC) by kernel_rfl)▸acL (X:=X0) (E:=kQ) ⟨call326,λ_ _ h=>nomatch h⟩ (Fm) aC
def Nn:bH:=⟨320,[agW,L8],Dh,none,false,false,jB,[],λs=>CX s.2 s.1⟩
theorem Ha:px Nn:=
 ou (.c (.r [0] .o) .o) call320 func320 al (aj u5 (aj IX al)) al λ_=>by kernel_rfl
def adG:aq:=⟨316,[JF,gu,aS],Az,[],U3 Ky⟩
theorem aiZ:(⟨322,Tryz.f322⟩:jE).Ok X0.P:=⟨call322,func322⟩
theorem E4:Ko adG:=
 aX .o call316 func316 (aj yn al) (aj Ha al) (aj aiZ al) λ_=>by kernel_rfl
def Z2:aq:=⟨324,[DJ],an,[],λs=>Uw s⟩
theorem S0:Ko Z2:=
 aw .o call324 func324 (aj C1 al)
def adI:aq:=⟨317,[JF],an,[],λs=>Xg s⟩
theorem Wg:Ko adI:=
 aw .o call317 func317 (aj S0 al)
def pV:aq:=⟨318,[(.sli eQ)],(.own eQ 349 true),[],λs=>jn s⟩
def pC(s:(List Q7)):Option (List Q7):= vo s ( some []) ( aI (aH (List.length ([]:List Q7)+List.length s) 56)<| some (([]:List Q7)++s))
theorem nJ:Ko pV:=
 aX .o call318 func318 al al al λs=>(show _=pC s from by kernel_rfl).trans kf
def Vv:aq:=⟨325,[DJ,jB,jB],(.cE [DJ,an,.bool,an]),[],U3 Ls⟩
theorem NN:Ko Vv:=
 aw (.r [40000] .o) call325 func325 (aj IE (aj vn (aj pG al)))
def LK:aq:=⟨319,[afw,an,jB,jB],jB,[(true,0,afM)],λs=>rM s.2.1 s.2.2.1 s.2.2.2 s.1⟩
theorem sB:Ko LK:=
 aw (.r [0] .o) call319 func319 (aj NN al)
def vg:aq:=⟨326,[afw,an,L8],jB,[(true,0,afM)],λs=>yl s.2.1 s.2.2 s.1⟩
def va:aaV->aaV:=λa s=>u6 a s.1 s.2.1 s.2.2
theorem Ao(a:aaV)(b:aqb a):(iY (va a)).Ok X0.P X0.Γ:=
 aw (.c .o (.r [0] .o)) call326 func326 (aj b (aj vO (aj sB al)))
theorem EX:Ko vg:=(show vg=iY (az (va) aC) by kernel_rfl)▸dT (X:=X0) (E:=iY) ⟨call326,λ_ _ h=>nomatch h⟩ (Ao) aC
def H5:aq:=⟨320,[afw,L8],jB,[(true,0,afM)],λs=>wP s.2 s.1⟩
theorem Cj:Ko H5:=
 aw (.c (.r [0] .o) .o) call320 func320 (aj sB (aj EX al))
def Yj:aq:=⟨311,[JF,gu,aS],(.cE [JF,.bool,an]),[],U3 OV⟩
theorem PU:Ko Yj:=
 aw (.c .o (.c .o (.r [] (.c .o (.r [6,40000] .o))))) call311 func311 (aj eW (aj E4 (aj Wg (aj nJ (aj yn (aj Cj al))))))
def F8:aq:=⟨305,[lg,kL,aS],My,[],U3 ve⟩
theorem Av:Ko F8:=
 aw .o call305 func305 (aj PU al)
def P4:aq:=⟨353,[ig],.bool,[],λs=>vM s⟩
theorem Jq:Ko P4:=
 aw .o call353 func353 al
def LL:aq:=⟨347,[ig,ig],an,[],U2 rJ⟩
theorem sI:Ko LL:=
 aw .o call347 func347 (aj Jq al)
def adZ:aq:=⟨346,[(.dat jI []),ig],an,[],U2 J3⟩
theorem V9:Ko adZ:=
 aw .o call346 func346 (aj sI al)
def jk:aq:=⟨345,[(.sli jI),ig,(.fn 346 [] [])],Az,[],U2 dm⟩
theorem dW:Ko jk:=
 aw (.l ⟨[(false,9,an),(false,10,an)],[]⟩ .o) call345 func345 (aj V9 al)
def alJ:aq:=⟨341,[RN,an,ig],an,[],U3 ai5⟩
theorem adW:Ko alJ:=
 aw .o call341 func341 (aj dW al)
def ahN:aq:=⟨338,[RN,di],.bool,[],U2 vu⟩
theorem uM:Ko ahN:=
 aw (.l ⟨[(false,5,an),(false,12,an)],[]⟩ .o) call338 func338 (aj adW al)
def agi:aq:=⟨339,[RN],an,[],λs=>ack s⟩
theorem Yi:Ko agi:=
 aw .o call339 func339 al
def rF:aq:=⟨342,[(.sli km)],(.own km 352 true),[],λs=>kg s⟩
def rV(s:Q4):Option Q4:= vo s ( some []) ( aI (aH (List.length ([]:List (Q8×Int))+List.length s) 32)<| some (([]:List (Q8×Int))++s))
theorem o7:Ko rF:=
 aX .o call342 func342 al al al λs=>(show _=rV s from by kernel_rfl).trans kf
def sh:aq:=⟨359,[(.sli jI),(.sli jI)],.bool,[],U2 j8⟩
theorem oZ:Ko sh:=
 aw (.c .o (.l ⟨[(false,13,an)],[]⟩ .o)) call359 func359 al
def Rt:aq:=⟨354,[(.bx 457 0 false [an,(.own km 352 false),an,an,Hk,(.mp bd .bo false)]),(.sli jI)],Az,[],λs=>IK s.2.2.2.2.2.2 s.1 s.2.1 s.2.2.1 s.2.2.2.1 s.2.2.2.2.1 s.2.2.2.2.2.1⟩
theorem LD:Ko Rt:=
 aw (.l ⟨[(false,14,an)],[]⟩ .o) call354 func354 (aj oZ al)
def H4:aq:=⟨384,[Hk],an,[],λs=>oS s⟩
theorem pr:Ko H4:=
 aw .o call384 func384 al
def Gl:aq:=⟨386,[fq,an,an],ew,[(true,0,fq)],U3 jy⟩
theorem jm:Ko Gl:=
 aw (.r [0] .o) call386 func386 al
def E9:aq:=⟨385,[Hk,an,an],.bool,[],U3 jA⟩
theorem oM:Ko E9:=
 aw .o call385 func385 al
def F1:aq:=⟨362,[ED,an,an],.bool,[(true,0,ED)],λs=>u7 s.2.1 s.2.2 s.1⟩
theorem Bg:Ko F1:=
 aw (.l ⟨[(true,0,ED),(false,7,an)],[]⟩ (.c .o (.s (.j ⟨[(false,9,an)],[]⟩ .o .o)))) call362 func362 (aj oM (aj jm al))
def Nv:aq:=⟨387,[ZC],Dh,[(true,0,ZC)],λs=>Db s⟩
theorem H7:Ko Nv:=
 aw .o call387 func387 al
def HG:aq:=⟨360,[ED],Dh,[(true,0,ED)],λs=>wE s⟩
theorem BX:Ko HG:=
 aw .o call360 func360 (aj pr (aj jm (aj Bg (aj H7 al))))
def Pc:aq:=⟨355,[ajW],an,[(true,0,abk)],U6 F7⟩
theorem I8:Ko Pc:=
 aw .o call355 func355 (aj BX al)
def Uf:aq:=⟨348,[ak7,(.sli jI)],an,[(true,0,alN)],λs=>xA s.2.2.2.2.2.2 s.1 s.2.1 s.2.2.1 s.2.2.2.1 s.2.2.2.2.1 s.2.2.2.2.2.1⟩
theorem Kc:Ko Uf:=
 aw (.c .o (.l ⟨[(true,0,(.bx 457 0 true [.same,(.own km 352 true),.same,.same,.same,.same])),(false,35,an)],[]⟩ (.c (.r [0] .o) .o))) call348 func348 (aj LD (aj I8 al))
def ac8:aq:=⟨341,[(.dat v8 [some 704,some 6]),an,ig],an,[],U3 Xt⟩
theorem Wk:Ko ac8:=
 aw .o call341 func341 (aj dW al)
def Ng:aq:=⟨350,[(.dat jI []),ig],an,[],U2 ue⟩
theorem H6:Ko Ng:=
 aw .o call350 func350 (aj sI al)
def iR:aq:=⟨345,[(.own jI 462 false),ig,(.fn 350 [] [])],Az,[],U2 eA⟩
theorem im:Ko iR:=
 aw (.l ⟨[(false,9,an),(false,10,an)],[]⟩ .o) call345 func345 (aj H6 al)
def sk:aq:=⟨349,[(.sli jI)],(.own jI 462 true),[],λs=>kh s⟩
def su(s:Q8):Option Q8:= vo s ( some []) ( aI (aH (List.length ([]:List cu)+List.length s) 16)<| some (([]:List cu)++s))
theorem pj:Ko sk:=
 aX .o call349 func349 al al al λs=>(show _=su s from by kernel_rfl).trans kf
def FD:aq:=⟨343,[ak7,an,di],an,[(true,0,alN)],λs=>K0 s.2.2.2.2.2.2.1 s.2.2.2.2.2.2.2 s.1 s.2.1 s.2.2.1 s.2.2.2.1 s.2.2.2.2.1 s.2.2.2.2.2.1⟩
def Gj:aaD->aaD:=λa s=>FH a s.1 s.2.1 s.2.2.1 s.2.2.2.1 s.2.2.2.2.1 s.2.2.2.2.2.1 s.2.2.2.2.2.2.1 s.2.2.2.2.2.2.2
theorem Jb(a:aaD)(b:aqa a):(nF (Gj a)).Ok X0.P X0.Γ:=
 aw (.c .o (.s (.j ⟨[(false,7,(.own jI 462 true))],[]⟩ .o (.r [0,40000] (.s (.j ⟨[(false,7,(.own jI 462 true))],[8]⟩ .o .o)))))) call343 func343 (aj Kc (aj Wk (aj b (aj im (aj ac0 (aj pj al))))))
theorem MU:Ko FD:=(show FD=nF (az (Gj) aC) by kernel_rfl)▸dT (X:=X0) (E:=nF) ⟨call343,λ_ _ h=>nomatch h⟩ (Jb) aC
def Ld:aq:=⟨388,[ZC,Dh],ew,[(true,0,ZC)],λs=>Bz s.2 s.1⟩
theorem FE:Ko Ld:=
 aw (.r [0] .o) call388 func388 al
def Eo:aq:=⟨358,[ED,an],ew,[(true,0,ED)],λs=>tD s.2 s.1⟩
theorem yO:Ko Eo:=
 aw (.l ⟨[(true,0,ED),(false,1,an)],[]⟩ .o) call358 func358 (aj oM (aj jm al))
def FX:aq:=⟨352,[ED,Dh],ew,[(true,0,ED)],λs=>uZ s.2 s.1⟩
theorem AA:Ko FX:=
 aw .o call352 func352 (aj FE (aj pr (aj yO al)))
def AL:aq:=⟨344,[ajW,an],ew,[(true,0,abk)],λs=>Ft s.2.2.2.2.2.2 s.1 s.2.1 s.2.2.1 s.2.2.2.1 s.2.2.2.2.1 s.2.2.2.2.2.1⟩
def Bc:aad->aad:=λa s=>Af a s.1 s.2.1 s.2.2.1 s.2.2.2.1 s.2.2.2.2.1 s.2.2.2.2.2.1 s.2.2.2.2.2.2
theorem E5(a:aad)(b:ap2 a):(kP (Bc a)).Ok X0.P X0.Γ:=
 aw (.c .o (.l ⟨[(true,0,abk),(false,42,an)],[]⟩ .o)) call344 func344 (aj b (aj AA al))
theorem I9:Ko AL:=(show AL=kP (az (Bc) aC) by kernel_rfl)▸dT (X:=X0) (E:=kP) ⟨call344,λ_ _ h=>nomatch h⟩ (E5) aC
def ZO:aq:=⟨340,[RN,di],(.cE [RN,.bool,an]),[],U2 uF⟩
theorem CU:Ko ZO:=
 aw (.c .o (.c .o (.r [7] (.r [7] (.j ⟨[(true,7,abk)],[]⟩ .o .o))))) call340 func340 (aj uM (aj o7 (aj dw (aj MU (aj I9 al)))))
def HS:aq:=⟨332,[lg,kL,aS],My,[],U3 wT⟩
theorem B2:Ko HS:=
 aw .o call332 func332 (aj dU (aj uM (aj Yi (aj CU al))))
def aaX:aq:=⟨381,[di,nR,an,an],fq,[],U4 oW⟩
theorem jW:Ko aaX:=
 aw (.l ⟨[(false,9,fq),(false,13,an)],[]⟩ .o) call381 func381 (aj xo (aj vI al))
def adN:aq:=⟨378,[tL,di,(.iO (.int .i64 0)),Vq],ew,[(true,3,Vq)],U3 XN⟩
theorem Vx:Ko adN:=
 aw (.l ⟨[(true,3,Vq),(false,19,an)],[]⟩ (.c (.r [3] .o) .o)) call378 func378 (aj jW al)
def aho:aq:=⟨375,[tL,di,(.iO (.int .i64 0))],.bool,[],U2 abI⟩
theorem YM:Ko aho:=
 aw .o call375 func375 (aj Vx al)
def Yz:aq:=⟨376,[tL,di],.bool,[],U2 EN⟩
theorem BL:Ko Yz:=
 aw .o call376 func376 (aj YM al)
def Ae:aq:=⟨263,[di],fW,[],λs=>cY s⟩
def Bu(s:Q1):Option Q1:= vo s ( some []) ( aI (aH (List.length ([]:xg)+List.length s) 1)<| some (([]:xg)++s))
theorem dK:Ko Ae:=
 aX .o call263 func263 al al al λs=>(show _=Bu s from by kernel_rfl).trans kf
def Wv:aq:=⟨378,[(.dat ER [some 11,none,none]),di,(.iO (.int .i64 0)),(.fn 380 [] [])],ew,[(true,0,(.agg [.same,.same,.same,fW,.same,.same]))],U2 BM⟩
theorem yp:Ko Wv:=
 aw (.l ⟨[(true,0,(.agg [.same,.same,.same,fW,.same,.same])),(false,19,an)],[]⟩ (.c (.r [4,0] .o) .o)) call378 func378 (aj jW al)
def ahu:aq:=⟨377,[tL,di,(.iO (.int .i64 0))],(.dat ER [some 11,none,none]),[],U2 aac⟩
theorem Yr:Ko ahu:=
 aw .o call377 func377 (aj dK (aj yp al))
def YB:aq:=⟨372,[tL,di],(.cE [tL,.bool]),[],U2 NZ⟩
theorem P0:Ko YB:=
 aw .o call372 func372 (aj BL (aj Yr al))
def Hh:aq:=⟨366,[lg,kL,aS],My,[],U3 wY⟩
theorem BZ:Ko Hh:=
 aw (.r [40000] .o) call366 func366 (aj dU (aj P0 al))
def WS:aq:=⟨64,[kL,aS],My,[],U2 um⟩
theorem yb:Ko WS:=
 aw (.c .o (.r [2,4] .o)) call64 func64 (aj eW (aj xM (aj BU (aj Bd (aj Av (aj B2 (aj BZ al)))))))
def aab:aq:=⟨99,[xV,aS],(.fn 142 [] [(.bx 76 0 true [(.sli .s),gu,aS,(.sli .s),(.sli rG)]),Zy]),[],U2 Uu⟩
theorem Uy:Ko aab:=
 aw .o call99 func99 al
def aax:aq:=⟨198,[.bool],an,[],λs=>yL s⟩
theorem UD:Ko aax:=
 aw .o call198 func198 al
def NX:aq:=⟨162,[fA,aS],an,[],U2 lG⟩
def Ww(s:Ex->Ex)(A:Sh->(R:Type)->Option R->Option R)(z:(Ex×Q1)->vJ)(e:Ex)(q:Q1)(b:nH->vJ):Int×Int×Int->vJ:=λ⟨a,c,d⟩=> bif decide (d<(List.length (bC e.l 0 (min (List.length e.l:Int) 2)):Int)) then (idx (bC e.l 0 (min (List.length e.l:Int) 2)) d).bind λu=> (z ((s u),q)).bind λk=> bif d==0 then b (k,c,(i64.wrap (d+1))) else bif d==1 then b (a,k,(i64.wrap (d+1))) else none else ai (λ(j:Int×Int×Bool)=>L3 j.1 j.2.1 j.2.2) λp=> ai (λ(i:Int×Int×Bool)=>LI i.1 i.2.1 i.2.2) λo=> ai (λ(h:Int×Int×Bool)=>K3 h.1 h.2.1 h.2.2) λg=> bif e.op==1 then some e.n else bif e.op==2 then ai (decide (e.n<0)) λx=> ai (decide ((q.length:Int)<=e.n)) λw=> ai (x||w) λv=> bif v then ( some 0) else ( (idx q e.n).bind λt=> some t) else bif e.op==3 then some (i64.wrap (a+c)) else bif e.op==5 then some (i64.wrap (a*c)) else bif e.op==6 then some (i64.wrap (0-a)) else bif e.op==4 then some (i64.wrap (a-c)) else bif e.op==8 then g (a,c,true) else ai (λ(y:Unit)=>Ks e a c p o) λm=> ai (λ(r:Bool)=>KM a c g m r) λf=> bif e.op==7 then f (e.op==7) else f (e.op==19)
def xy(a:Ex->Ex)(d:Sh->(R:Type)->Option R->Option R)(c:(Ex×Q1)->vJ)(e:Ex)(b:Q1):vJ:= aI (dn 0 (min (List.length e.l:Int) 2) (List.length e.l))<| az (Ww a d c e b) aC (0,0,0)
def Ob:aan->aan:=λa s=>Ol a s.1 s.2
theorem QA(a:aan)(b:ap0 a):(tl (Ob a)).Ok X0.P X0.Γ:=
 aX (.l ⟨[(true,5,(.bx 319 0 true [an,an])),(false,19,an)],[]⟩ (.c .o (.r [] (.s (.s (.s (.s (.s (.s (.s (.s (.j ⟨[(false,8,an),(false,9,an),(false,10,.bool)],[2]⟩ (.s (.j ⟨[(false,8,an),(false,9,an),(false,10,.bool)],[2]⟩ (.s (.j ⟨[(false,8,an),(false,9,an),(false,10,.bool)],[2]⟩ (.c .o (.c .o (.c .o (.c .o (.c .o (.c .o (.c .o (.j ⟨[],[]⟩ (.j ⟨[(false,50,.bool)],[]⟩ .o .o) .o)))))))) .o)) .o)) .o)))))))))))) call162 func162 (aj b (aj UD al)) al al λs=>(show _=xy bk aM a s.1 s.2 from by kernel_rfl).trans ((congrArg (λd=>xy d aM a s.1 s.2) aJ).trans ((congrArg (λe=>xy id e a s.1 s.2) aN).trans (by kernel_rfl)))
theorem oX:Ko NX:=(show NX=tl (az (Ob) aC) by kernel_rfl)▸dT (X:=X0) (E:=tl) ⟨call162,λ_ _ h=>nomatch h⟩ (QA) aC
def Wo:aq:=⟨143,[xV,aS],fq,[],U2 KC⟩
def NG(f:Ex->Ex)(h:Sh->(R:Type)->Option R->Option R)(m:sF)(d:Q1)(a:fv->Option Q1):Q1×Int->Option Q1:=λ⟨b,c⟩=> bif decide (c<(m.2.2.2.2.length:Int)) then (idx m.2.2.2.2 c).bind λg=> (lG (f g.2.1) d).bind λe=> bif e==1 then aI (aH (List.length b+List.length ([c]:xg)) 8)<| a ((b++([c]:xg)),(i64.wrap (c+1))) else a (b,(i64.wrap (c+1))) else some b
def vF(b:Ex->Ex)(c:Sh->(R:Type)->Option R->Option R)(m:sF)(a:Q1):Option Q1:= az (NG b c m a) aC ([],0)
theorem NM:Ko Wo:=
 aX (.l ⟨[(false,5,fq),(false,11,an)],[]⟩ .o) call143 func143 (aj oX al) al al λs=>(show _=vF bk aM s.1 s.2 from by kernel_rfl).trans ((congrArg (λa=>vF a aM s.1 s.2) aJ).trans ((congrArg (λb=>vF id b s.1 s.2) aN).trans (by kernel_rfl)))
def Wa:aq:=⟨97,[gu,Hk],an,[],U2 Ai⟩
theorem Ni:Ko Wa:=
 aw (.c .o (.l ⟨[(false,14,an)],[]⟩ .o)) call97 func97 (aj lY al)
def adJ:aq:=⟨144,[xV,aS,an],(.cE [fq,an]),[],U3 W7⟩
def VZ(i:Ex->Ex)(k:Sh->(R:Type)->Option R->Option R)(m:sF)(f:Q1)(e:Q63)(a:fv->Option fv):Q1×Int->Option fv:=λ⟨b,c⟩=> bif decide (c<(e.2.2.length:Int)) then (idx e.2.2 c).bind λd=> (lG (i d.2) f).bind λh=> (idx b d.1).bind λj=> a ((List.set b (Int.toNat d.1) h),(i64.wrap (c+1))) else (Ai m.2.1 b).bind λg=> bif g != 0 then some ([],6) else some (b,0)
def DI(c:Ex->Ex)(g:Sh->(R:Type)->Option R->Option R)(m:sF)(a:Q1)(k:Int):Option fv:= ai (decide (k<0)) λh=> ai (decide ((m.2.2.2.2.length:Int)<=k)) λf=> ai (h||f) λe=> bif e then ( some ([],10)) else ( (cW a).bind λb=> (idx m.2.2.2.2 k).bind λd=> az (VZ c g m a d) aC (b,0))
theorem VU:Ko adJ:=
 aX (.c .o (.l ⟨[(true,8,fq),(false,29,an)],[]⟩ (.c (.r [8] .o) .o))) call144 func144 (aj dw (aj oX (aj Ni al))) al al λs=>(show _=DI bk aM s.1 s.2.1 s.2.2 from by kernel_rfl).trans ((congrArg (λa=>DI a aM s.1 s.2.1 s.2.2) aJ).trans ((congrArg (λb=>DI id b s.1 s.2.1 s.2.2) aN).trans (by kernel_rfl)))
def w7:aq:=⟨30,[(.bx 56 0 true [.sfp,(.own aP 5 false)])],ew,[(true,0,(.bx 56 0 true [.sfp,.same]))],U2 jb⟩
theorem jY:Ko w7:=
 aw .o call30 func30 al
def uQ:aq:=⟨21,[Eu,.str],(.cE [an,(.iO (.raw .nilIface))]),[(true,0,Eu)],λs=>cN s.2.2 s.1 s.2.1⟩
theorem jl:Ko uQ:=
 aw .o call21 func21 (aj jY al)
def wX:aq:=⟨189,[Eu,ig],(.iO (.raw .nilIface)),[(true,0,Eu)],λs=>nC s.2.2 s.1 s.2.1⟩
theorem tx:Ko wX:=
 aw .o call189 func189 (aj jY al)
def An:aq:=⟨23,[Eu],.str,[],U2 ku⟩
theorem lC:Ko An:=
 aw (.r [0] .o) call23 func23 al
def aeb:aq:=⟨145,[aS],.str,[],λs=>XQ s⟩
theorem VV:Ko aeb:=
 aw (.l ⟨[(true,3,Eu),(false,8,an)],[]⟩ .o) call145 func145 (aj WY (aj jl (aj tx (aj lC al))))
def Rm:aq:=⟨100,[afy,aS],ew,[(true,0,afy)],λs=>rA s.2.2 s.1 s.2.1⟩
theorem K9:Ko Rm:=
 aw (.j ⟨[(true,0,(.bx 217 0 true [.same,(.mp .s .bo true)]))],[]⟩ .o .o) call100 func100 (aj VV al)
def adu:aq:=⟨65,[xV,aS],(.cE [ia,an]),[],U2 C9⟩
theorem ai1:(⟨142,Tryz.f142⟩:jE).Ok X0.P:=⟨call142,func142⟩
theorem vK:Ko adu:=
 aX (.c (.c (.l ⟨[(false,10,an),(true,10004,(.bx 24 0 true [.same])),(true,10005,(.bx 22 0 true [an])),(true,10006,afy)],[]⟩ .o) .o) (.r [70000,4,5,6] .o)) call65 func65 (aj Uy (aj NM (aj VU (aj K9 (aj dw al))))) al (aj ai1 al) λ_=>by kernel_rfl
def Zi:aq:=⟨45,[xV,wi],(.cE [an,aS]),[],U2 NQ⟩
theorem PZ:Ko Zi:=
 aw (.c .o (.l ⟨[(true,6,aof),(false,10,an),(false,11,ia)],[]⟩ (.c (.r [] (.c .o (.l ⟨[(true,6,aof),(false,10,an),(false,11,ia),(false,61,an)],[]⟩ .o))) .o))) call45 func45 (aj vD (aj yb (aj vK al)))
def FF:aq:=⟨36,[ahx],.bool,[(true,0,agS)],λs=>vm s.1 s.2.1 s.2.2.1 s.2.2.2.1 s.2.2.2.2.1 s.2.2.2.2.2.1 s.2.2.2.2.2.2.1 s.2.2.2.2.2.2.2.1 s.2.2.2.2.2.2.2.2.1 (d8 s).2.1 (d8 s).2.2.1 (d8 s).2.2.2.1 (d8 s).2.2.2.2.1 (d8 s).2.2.2.2.2.1 (d8 s).2.2.2.2.2.2.1 (d8 s).2.2.2.2.2.2.2.1 (d8 (d8 s)).1 (d8 (d8 s)).2.1 (d8 (d8 s)).2.2.1 (d8 (d8 s)).2.2.2.1 (d8 (d8 s)).2.2.2.2.1 (d8 (d8 s)).2.2.2.2.2.1 (d8 (d8 s)).2.2.2.2.2.2⟩
theorem AZ:Ko FF:=
 aw .o call36 func36 (aj PZ (aj gX al))
def ie(a:Ph):aq:=⟨197,[(.sli .ex),(.sli .ex),(.fn 155 [] [])],.bool,[],λs=>dO a s.1 s.2⟩
def gD(b:Ex->Ex)(j:Sh->(R:Type)->Option R->Option R)(h:(Ex×Ex)->vc)(f:(List Ex))(g:(List Ex))(a:Int->vc)(c:Int):vc:= bif decide (c<(f.length:Int)) then (idx f c).bind λi=> (idx g c).bind λe=> (h ((b i),(b e))).bind λd=> bif !d then some false else a (i64.wrap (c+1)) else some true
def cO(a:Ex->Ex)(e:Sh->(R:Type)->Option R->Option R)(d:(Ex×Ex)->vc)(c:(List Ex))(b:(List Ex)):vc:= bif (c.length:Int) != (b.length:Int) then some false else az (gD a e d c b) aC 0
theorem gG(a:Ph)(b:apd a):Ko (ie a):=
 aX (.c .o (.l ⟨[(false,17,an)],[]⟩ .o)) call197 func197 (aj b al) al al λs=>(show _=cO bk aM a s.1 s.2 from by kernel_rfl).trans ((congrArg (λd=>cO d aM a s.1 s.2) aJ).trans ((congrArg (λe=>cO id e a s.1 s.2) aN).trans (by kernel_rfl)))
def On:aq:=⟨155,[fA,fA],.bool,[],U2 wQ⟩
def OD:Ph->Ph:=λa s=>OM a s.1 s.2
theorem PH(a:Ph)(b:apd a):(uJ (OD a)).Ok X0.P X0.Γ:=
 aw .o call155 func155 (aj (gG a b) al)
theorem F3:Ko On:=(show On=uJ (az (OD) aC) by kernel_rfl)▸dT (X:=X0) (E:=uJ) ⟨call155,λ_ _ h=>nomatch h⟩ (PH) aC
def MV:aq:=⟨109,[HC,fA],nR,[(true,0,HC)],λs=>fV s.2 s.1⟩
def HU(c:Ex->Ex)(i:Sh->(R:Type)->Option R->Option R)(e:Ex)(l:(List Ex))(d:Int->Option Q65)(a:Int):Option Q65:= bif decide (a<(l.length:Int)) then (idx l a).bind λg=> (wQ (c g) (c e)).bind λf=> bif f then ( aI (decide (0<=a))<| some ((bW .u64 1 a),l)) else ( d (i64.wrap (a+1))) else aI (aH (List.length l+List.length ([(Ex.mk 0 0 0 [])]:List Ex)) 48)<| (idx (l++([(Ex.mk 0 0 0 [])]:List Ex)) (l.length:Int)).bind λh=> i (.b .l .l) _ ( aI (decide (0<=(i64.wrap ((List.length (List.set (l++([(Ex.mk 0 0 0 [])]:List Ex)) (Int.toNat (l.length:Int)) (c e)):Int)-1))))<| some ((bW .u64 1 (i64.wrap ((List.length (List.set (l++([(Ex.mk 0 0 0 [])]:List Ex)) (Int.toNat (l.length:Int)) (c e)):Int)-1))),(List.set (l++([(Ex.mk 0 0 0 [])]:List Ex)) (Int.toNat (l.length:Int)) (c e))))
def pI(a:Ex->Ex)(b:Sh->(R:Type)->Option R->Option R)(e:Ex)(l:(List Ex)):Option Q65:= az (HU a b e l) aC 0
theorem ug:Ko MV:=
 aX (.l ⟨[(true,0,(.bx 234 0 true [.same])),(false,12,an)],[]⟩ (.c .o (.r [0] .o))) call109 func109 (aj F3 al) al al λs=>(show _=pI bk aM s.2 s.1 from by kernel_rfl).trans ((congrArg (λa=>pI a aM s.2 s.1) aJ).trans ((congrArg (λb=>pI id b s.2 s.1) aN).trans (by kernel_rfl)))
def rh:aq:=⟨156,[nR,(.dat ta []),Zx,LS,(.bx 232 0 true [HC]),amw],ew,[(true,2,Zx),(true,3,LS),(true,4,(.bx 232 0 true [.same])),(true,1005,HC),(true,5,(.bx 283 0 true [.same]))],U5 tu⟩
def yD(t:Ex->Ex)(y:Sh->(R:Type)->Option R->Option R)(o:Q42->Option IL)(b:Int)(n:cu)(x:XD)(e:Q8)(l:(List Ex))(m:Int->Option IL)(a:Int):Option IL:= aI (decide (0<=a))<| bif (pA .u64 (bI .u64 b n.1) (bW .u64 1 a))==0 then m (i64.wrap (a+1)) else (idx l a).bind λd=> aI (decide (0<=a))<| (o9 (t d)).bind λu=> bif u then ( (o ((bI .u64 (bI .u64 b n.1) (bW .u64 1 a)),((dP .u64 n.1 (bW .u64 1 a)),n.2),x,e,l)).bind λs=> some (s.1,s.2.1,s.2.2)) else ( (idx d.l 0).bind λw=> (fV (t w) l).bind λf=> bif d.op==20 then (o ((bI .u64 (bI .u64 b n.1) (bW .u64 1 a)),((dP .u64 n.1 (bW .u64 1 a)),(dP .u64 n.2 f.1)),x,e,f.2)).bind λr=> some (r.1,r.2.1,r.2.2) else (idx d.l 1).bind λv=> (fV (t v) f.2).bind λc=> bif d.op==16 then (o ((dP .u64 (dP .u64 (bI .u64 (bI .u64 b n.1) (bW .u64 1 a)) f.1) c.1),((dP .u64 n.1 (bW .u64 1 a)),n.2),x,e,c.2)).bind λq=> some (q.1,q.2.1,q.2.2) else bif d.op==17 then (o ((dP .u64 (bI .u64 (bI .u64 b n.1) (bW .u64 1 a)) f.1),((dP .u64 n.1 (bW .u64 1 a)),n.2),x,e,c.2)).bind λp=> (o ((dP .u64 (bI .u64 (bI .u64 b n.1) (bW .u64 1 a)) c.1),((dP .u64 n.1 (bW .u64 1 a)),n.2),p.1,p.2.1,p.2.2)).bind λk=> some (k.1,k.2.1,k.2.2) else bif d.op==23 then (o ((dP .u64 (bI .u64 (bI .u64 b n.1) (bW .u64 1 a)) c.1),((dP .u64 n.1 (bW .u64 1 a)),n.2),x,e,c.2)).bind λj=> (o ((dP .u64 (bI .u64 (bI .u64 b n.1) (bW .u64 1 a)) f.1),((dP .u64 n.1 (bW .u64 1 a)),(dP .u64 n.2 (bW .u64 1 a))),j.1,j.2.1,j.2.2)).bind λi=> some (i.1,i.2.1,i.2.2) else bif d.op==24 then (o ((dP .u64 (dP .u64 (bI .u64 (bI .u64 b n.1) (bW .u64 1 a)) f.1) c.1),((dP .u64 n.1 (bW .u64 1 a)),n.2),x,e,c.2)).bind λh=> (o ((dP .u64 (bI .u64 (bI .u64 b n.1) (bW .u64 1 a)) c.1),((dP .u64 n.1 (bW .u64 1 a)),(dP .u64 n.2 (bW .u64 1 a))),h.1,h.2.1,h.2.2)).bind λg=> some (g.1,g.2.1,g.2.2) else some (x,e,c.2))
def ji(d:Ex->Ex)(e:Sh->(R:Type)->Option R->Option R)(f:Q42->Option IL)(b:Int)(n:cu)(x:XD)(a:Q8)(l:(List Ex)):Option IL:= bif (bI .u64 b n.1)==0 then bif !(kU x n false) then (x).bind λc=> aI (aH (List.length a+List.length ([n]:List cu)) 16)<| some ((some (lu c n true)),(a++([n]:List cu)),l) else some (x,a,l) else az (yD d e f b n x a l) aC 0
def rk:acy->acy:=λa s=>rf a s.1 s.2.1 s.2.2.1 s.2.2.2.1 s.2.2.2.2
theorem xh(a:acy)(b:ap4 a):(gA (rk a)).Ok X0.P X0.Γ:=
 aX (.c .o (.l ⟨[(true,7,(.bx 239 0 true [.same,.same])),(false,8,an)],[]⟩ (.c .o (.r [40000] (.c .o (.r [4,40000] (.c .o (.r [4,40000] .o)))))))) call156 func156 (aj BK (aj b (aj ug al))) al al λs=>(show _=ji bk aM a s.1 s.2.1 s.2.2.1 s.2.2.2.1 s.2.2.2.2 from by kernel_rfl).trans ((congrArg (λd=>ji d aM a s.1 s.2.1 s.2.2.1 s.2.2.2.1 s.2.2.2.2) aJ).trans ((congrArg (λe=>ji id e a s.1 s.2.1 s.2.2.1 s.2.2.2.1 s.2.2.2.2) aN).trans (by kernel_rfl)))
theorem yH:Ko rh:=(show rh=gA (az (rk) aC) by kernel_rfl)▸dT (X:=X0) (E:=gA) ⟨call156,λ_ _ h=>nomatch h⟩ (xh) aC
def Jv:aq:=⟨111,[HC,nR],(.own ta 239 true),[(true,0,HC)],λs=>iP s.2 s.1⟩
theorem DW:Ko Jv:=
 aw .o call111 func111 (aj yH al)
def ac2:aq:=⟨110,[(.sli ta),Zo,LS],fq,[(true,1,Zo),(true,2,LS)],U3 wI⟩
theorem Wb:Ko ac2:=
 aw (.l ⟨[(true,1,Zo),(true,2,LS),(false,5,fq),(false,12,an)],[]⟩ .o) call110 func110 al
def HR:aq:=⟨109,[(.bx 234 0 false [(.sli .ex)]),fA],nR,[],λs=>oL s.2 s.1⟩
def BR(c:Ex->Ex)(g:Sh->(R:Type)->Option R->Option R)(e:Ex)(l:(List Ex))(a:Int->vJ)(b:Int):vJ:= bif decide (b<(l.length:Int)) then (idx l b).bind λf=> (wQ (c f) (c e)).bind λd=> bif d then ( aI (decide (0<=b))<| some (bW .u64 1 b)) else ( a (i64.wrap (b+1))) else none
def lK(a:Ex->Ex)(b:Sh->(R:Type)->Option R->Option R)(e:Ex)(l:(List Ex)):vJ:= az (BR a b e l) aC 0
theorem Cn:Ko HR:=
 aX (.l ⟨[(false,12,an)],[]⟩ .o) call109 func109 (aj F3 al) al al λs=>(show _=lK bk aM s.2 s.1 from by kernel_rfl).trans ((congrArg (λa=>lK a aM s.2 s.1) aJ).trans ((congrArg (λb=>lK id b s.2 s.1) aN).trans (by kernel_rfl)))
def akN:aq:=⟨70,[fA],agP,[],λs=>aaY s⟩
def ac9(g:Ex->Ex)(n:Sh->(R:Type)->Option R->Option R)(j:(List Ex))(i:kb)(l:Int)(e:(kb×Int)->Option dj)(m:cu)(b:((List Ex)×Int)->Option dj):(List Ex)×Int->Option dj:=λ⟨c,a⟩=> bif decide (a<(j.length:Int)) then (idx j a).bind λd=> aI (decide (0<=a))<| ai ((pA .u64 m.1 (bW .u64 1 a)) != 0) λf=> bu f default (o9 (g d)) λh=> ai (f&&h) λk=> bif k then ( aI (aH (List.length c+List.length ([(g d)]:List Ex)) 48)<| b ((c++([(g d)]:List Ex)),(i64.wrap (a+1)))) else ( b (c,(i64.wrap (a+1)))) else aI (aH (List.length i+List.length ([c]:List (List Ex))) 24)<| e ((i++([c]:List (List Ex))),(i64.wrap (l+1)))
def adS(h:Ex->Ex)(q:Sh->(R:Type)->Option R->Option R)(m:S7)(e:(List Ex))(o:(List Q1))(p:Q8)(n:kb)(a:gN->Option dj):(List Q1)×Int->Option dj:=λ⟨c,b⟩=> bif decide (b<(e.length:Int)) then (idx e b).bind λd=> (o9 (h d)).bind λg=> ai (d.op != 23) λk=> ai (g||k) λj=> bif j then ( a (c,(i64.wrap (b+1)))) else ( (idx d.l 1).bind λi=> (oL (h i) e).bind λf=> az (XP p c b a f) aC (([]:xg),0)) else some (n,o,m.1,c)
def adp(e:Ex->Ex)(j:Sh->(R:Type)->Option R->Option R)(g:S7)(f:(List Ex))(h:(List Q1))(c:Q8)(a:(kb×Int)->Option dj):kb×Int->Option dj:=λ⟨d,b⟩=> bif decide (b<(c.length:Int)) then (idx c b).bind λi=> az (ac9 e j f d b a i) aC ([],0) else az (adS e j g f h c d) aC ([],0)
def adX(j:Ex->Ex)(l:Sh->(R:Type)->Option R->Option R)(h:S7)(a:((List Ex)×(List Q1)×Q8×Od×Int)->Option dj):(List Ex)×(List Q1)×Q8×Od×Int->Option dj:=λ⟨g,d,c,i,e⟩=> bif decide (e<(c.length:Int)) then (idx c e).bind λk=> (iP k.2 g).bind λf=> (wI f.1 i c).bind λb=> aI (aH (List.length d+List.length ([b.1]:List Q1)) 24)<| a (f.2,(d++([b.1]:List Q1)),b.2.2,b.2.1,(i64.wrap (e+1))) else az (adp j l h g d c) aC ([],0)
def Qq(d:Ex->Ex)(f:Sh->(R:Type)->Option R->Option R)(e:Ex):Option dj:= (fV (d e) []).bind λc=> (iP c.1 c.2).bind λb=> (wI b.1 (some []:Od) []).bind λa=> az (adX d f a) aC (b.2,[],a.2.2,a.2.1,0)
theorem ad4:Ko akN:=
 aX (.l ⟨[(true,3,HC),(true,5,(.bx 122 0 true [.same,ia,.same,.same])),(true,6,LS),(true,8,(.fn 110 [] [Zo,.same])),(false,9,an)],[]⟩ (.c (.r [8,3,5,40000] .o) (.l ⟨[(true,5,(.bx 122 0 true [(.own (.l .ex) 77 true),.same,.same,.same])),(false,56,an)],[]⟩ (.c (.l ⟨[(true,5,UR),(false,12,(.own .ex 79 true)),(false,65,an)],[]⟩ (.c (.r [40000] .o) .o)) (.r [30000,20003] (.l ⟨[(true,2,UR),(true,5,(.bx 122 0 true [.same,.same,.same,ia])),(false,97,an)],[]⟩ (.c (.c .o (.l ⟨[(true,5,UR),(false,18,fq),(false,118,an)],[]⟩ (.c (.r [40000] .o) .o))) .o))))))) call70 func70 (aj ug (aj DW (aj Wb (aj BK (aj Cn al))))) al al λs=>(show _=Qq bk aM s from by kernel_rfl).trans ((congrArg (λa=>Qq a aM s) aJ).trans ((congrArg (λb=>Qq id b s) aN).trans (by kernel_rfl)))
def HO:aq:=⟨107,[(.dat dA []),an],an,[],U2 jT⟩
theorem B7:Ko HO:=
 aw .o call107 func107 al
def El:aq:=⟨154,[aS,an],an,[],U2 tJ⟩
theorem yA:Ko El:=
 aw (.l ⟨[(false,8,an)],[]⟩ .o) call154 func154 al
def yK:aq:=⟨108,[aS,an],.bool,[],U2 gB⟩
theorem lx:Ko yK:=
 aw .o call108 func108 (aj yA al)
def ag6:aq:=⟨69,[Lw],agP,[],λs=>QC s⟩
theorem YF:Ko ag6:=
 aw (.s (.s (.s (.j ⟨[(false,4,wo)],[]⟩ (.c (.l ⟨[(true,5,fq),(false,31,an)],[]⟩ .o) .o) (.l ⟨[(true,9,amz),(false,44,an)],[]⟩ (.c (.l ⟨[(true,9,amz),(false,48,an)],[]⟩ (.c (.s (.s (.s (.j ⟨[(false,12,an)],[]⟩ .o (.l ⟨[(true,9,UR),(false,13,fq),(false,69,an)],[]⟩ (.c .o (.r [9] .o))))))) .o)) (.l ⟨[(true,9,(.bx 122 0 true [.same,.same,fq,.same])),(false,104,an)],[]⟩ (.c (.r [9] .o) (.l ⟨[(true,2,UR),(true,9,UR),(false,18,fq),(false,121,an)],[]⟩ .o))))))))) call69 func69 (aj B7 (aj lx al))
def No:aq:=⟨47,[fA],agP,[],λs=>De s⟩
def pY(a:Ex->Ex)(f:Sh->(R:Type)->Option R->Option R)(e:Ex):Option dj:= (Gi (a e)).bind λd=> (aaY (a d.1)).bind λc=> (QC c).bind λb=> some b
theorem HX:Ko No:=
 aX .o call47 func47 (aj JN (aj ad4 (aj YF al))) al al λs=>(show _=pY bk aM s from by kernel_rfl).trans ((congrArg (λa=>pY a aM s) aJ).trans ((congrArg (λb=>pY id b s) aN).trans (by kernel_rfl)))
def YN:aq:=⟨66,[xV,Lw],(.cE [HY,an]),[],U2 Oo⟩
theorem PW:Ko YN:=
 aw (.c .o (.r [40000] .o)) call66 func66 (aj xZ (aj gM al))
def adM:aq:=⟨146,[Lw,aS,aS],(.fn 190 [] [Zy,(.bx 122 0 true [(.sli (.l .ex)),wo,aS,wo]),Zy]),[],U3 J5⟩
theorem Gf:Ko adM:=
 aw .o call146 func146 al
def Yx:aq:=⟨208,[fA,Lo],.bool,[],U2 EG⟩
def xN(a:Ex->Ex)(c:Sh->(R:Type)->Option R->Option R)(e:Ex)(x:Q1):vc:= (lG (a e) x).bind λb=> some (b != 1)
theorem QI:Ko Yx:=
 aX .o call208 func208 (aj oX al) al al λs=>(show _=xN bk aM s.1 s.2 from by kernel_rfl).trans ((congrArg (λa=>xN a aM s.1 s.2) aJ).trans ((congrArg (λb=>xN id b s.1 s.2) aN).trans (by kernel_rfl)))
def ot:aq:=⟨216,[(.sli .ex),(.fn 208 [] [Lo])],an,[],U2 iI⟩
def mL(e:Ex->Ex)(g:Sh->(R:Type)->Option R->Option R)(s:(List Ex))(c:Q1)(a:Int->vJ)(b:Int):vJ:= bif decide (b<(s.length:Int)) then (idx s b).bind λf=> (EG (e f) c).bind λd=> bif d then ( some b) else ( a (i64.wrap (b+1))) else some (-1)
def eM(a:Ex->Ex)(b:Sh->(R:Type)->Option R->Option R)(s:(List Ex))(c:Q1):vJ:= az (mL a b s c) aC 0
theorem mC:Ko ot:=
 aX (.l ⟨[(false,8,an)],[]⟩ .o) call216 func216 (aj QI al) al al λs=>(show _=eM bk aM s.1 s.2 from by kernel_rfl).trans ((congrArg (λa=>eM a aM s.1 s.2) aJ).trans ((congrArg (λb=>eM id b s.1 s.2) aN).trans (by kernel_rfl)))
def mK:aq:=⟨207,[(.sli .ex),(.fn 208 [] [Lo])],.bool,[],U2 gO⟩
theorem ll:Ko mK:=
 aw .o call207 func207 (aj mC al)
def afJ:aq:=⟨191,[Lw,an,aS],.bool,[],U3 P8⟩
theorem IP:Ko afJ:=
 aw .o call191 func191 (aj ll al)
def s5:aq:=⟨209,[fW,an,an],fW,[],U3 kK⟩
theorem pW:Ko s5:=
 aw (.s (.s (.j ⟨[(false,0,fW),(false,7,nR)],[]⟩ .o .o))) call209 func209 (aj aiX al)
def DQ:aq:=⟨192,[fW,an,an],fW,[],U3 tN⟩
theorem yR:Ko DQ:=
 aw .o call192 func192 (aj pW al)
def V3:aq:=⟨147,[Z8,aS],ew,[(true,0,Z8)],λs=>AO s.2.2 s.1 s.2.1⟩
theorem yc:Ko V3:=
 aw (.j ⟨[(true,0,(.bx 270 0 true [.same,(.mp .s .bo true)]))],[]⟩ .o (.l ⟨[(true,0,(.bx 270 0 true [.same,.same])),(false,4,fW),(false,18,an)],[]⟩ (.c .o (.r [] (.c (.r [0] .o) .o))))) call147 func147 (aj yR al)
def ac5:aq:=⟨102,[xV,Lw],ia,[],U2 Xc⟩
theorem W3:(⟨190,Tryz.f190⟩:jE).Ok X0.P:=⟨call190,func190⟩
theorem V1:Ko ac5:=
 aX (.c (.c (.l ⟨[(false,9,an),(true,10005,Z8)],[]⟩ (.c (.n 4 (.c .o .o)) .o)) .o) (.r [70000,5] .o)) call102 func102 (aj Gf (aj IP (aj dw (aj yc al)))) al (aj W3 al) λ_=>by kernel_rfl
def Jj:bH:=⟨103,[Mf,aS],PC,none,false,false,.bool,[(true,0,Hc)],λs=>kV (d8 (d8 (d8 (d8 (d8 s))))).2.2.2.2.2 s.1 s.2.1 s.2.2.1 s.2.2.2.1 s.2.2.2.2.1 s.2.2.2.2.2.1 s.2.2.2.2.2.2.1 s.2.2.2.2.2.2.2.1 s.2.2.2.2.2.2.2.2.1 (d8 s).2.1 (d8 s).2.2.1 (d8 s).2.2.2.1 (d8 s).2.2.2.2.1 (d8 s).2.2.2.2.2.1 (d8 s).2.2.2.2.2.2.1 (d8 s).2.2.2.2.2.2.2.1 (d8 (d8 s)).1 (d8 (d8 s)).2.1 (d8 (d8 s)).2.2.1 (d8 (d8 s)).2.2.2.1 (d8 (d8 s)).2.2.2.2.1 (d8 (d8 s)).2.2.2.2.2.1 (d8 (d8 s)).2.2.2.2.2.2.1 (d8 (d8 s)).2.2.2.2.2.2.2.1 (d8 (d8 (d8 s))).1 (d8 (d8 (d8 s))).2.1 (d8 (d8 (d8 s))).2.2.1 (d8 (d8 (d8 s))).2.2.2.1 (d8 (d8 (d8 s))).2.2.2.2.1 (d8 (d8 (d8 s))).2.2.2.2.2.1 (d8 (d8 (d8 s))).2.2.2.2.2.2.1 (d8 (d8 (d8 s))).2.2.2.2.2.2.2.1 (d8 (d8 (d8 (d8 s)))).1 (d8 (d8 (d8 (d8 s)))).2.1 (d8 (d8 (d8 (d8 s)))).2.2.1 (d8 (d8 (d8 (d8 s)))).2.2.2.1 (d8 (d8 (d8 (d8 s)))).2.2.2.2.1 (d8 (d8 (d8 (d8 s)))).2.2.2.2.2.1 (d8 (d8 (d8 (d8 s)))).2.2.2.2.2.2.1 (d8 (d8 (d8 (d8 s)))).2.2.2.2.2.2.2.1 (d8 (d8 (d8 (d8 (d8 s))))).1 (d8 (d8 (d8 (d8 (d8 s))))).2.1 (d8 (d8 (d8 (d8 (d8 s))))).2.2.1 (d8 (d8 (d8 (d8 (d8 s))))).2.2.2.1 (d8 (d8 (d8 (d8 (d8 s))))).2.2.2.2.1⟩
theorem kE:px Jj:=
 abK (.s (.s (.j ⟨[],[]⟩ .o .o))) call103 func103 (aj yb al)
def acI:aq:=⟨194,[aS],(.cE [aS,an]),[],λs=>Ia s⟩
theorem CO:Ko acI:=
 aw .o call194 func194 al
def adR:aq:=⟨193,[xV,Lw,aS],(.cE [ia,an]),[],U3 Xb⟩
theorem Vu:Ko adR:=
 aX (.c .o (.l ⟨[(true,12,Z8),(false,32,an)],[]⟩ (.c (.r [] (.c (.c (.l ⟨[(false,9,an),(true,10012,Z8)],[]⟩ (.c (.n 4 (.c .o .o)) .o)) .o) (.r [70000,12] .o))) .o))) call193 func193 (aj CO (aj vK (aj Gf (aj IP (aj dw (aj yc al)))))) al (aj W3 al) λ_=>by kernel_rfl
def Fk:bH:=⟨148,[(.bx 169 0 false QL6),(.own xO 277 true),aS],PC,none,false,false,(.own xO 277 true),[],λs=>gF (d8 (d8 (d8 (d8 (d8 s))))).2.2.2.2.2.1 (d8 (d8 (d8 (d8 (d8 s))))).2.2.2.2.2.2 s.1 s.2.1 s.2.2.1 s.2.2.2.1 s.2.2.2.2.1 s.2.2.2.2.2.1 s.2.2.2.2.2.2.1 s.2.2.2.2.2.2.2.1 s.2.2.2.2.2.2.2.2.1 (d8 s).2.1 (d8 s).2.2.1 (d8 s).2.2.2.1 (d8 s).2.2.2.2.1 (d8 s).2.2.2.2.2.1 (d8 s).2.2.2.2.2.2.1 (d8 s).2.2.2.2.2.2.2.1 (d8 (d8 s)).1 (d8 (d8 s)).2.1 (d8 (d8 s)).2.2.1 (d8 (d8 s)).2.2.2.1 (d8 (d8 s)).2.2.2.2.1 (d8 (d8 s)).2.2.2.2.2.1 (d8 (d8 s)).2.2.2.2.2.2.1 (d8 (d8 s)).2.2.2.2.2.2.2.1 (d8 (d8 (d8 s))).1 (d8 (d8 (d8 s))).2.1 (d8 (d8 (d8 s))).2.2.1 (d8 (d8 (d8 s))).2.2.2.1 (d8 (d8 (d8 s))).2.2.2.2.1 (d8 (d8 (d8 s))).2.2.2.2.2.1 (d8 (d8 (d8 s))).2.2.2.2.2.2.1 (d8 (d8 (d8 s))).2.2.2.2.2.2.2.1 (d8 (d8 (d8 (d8 s)))).1 (d8 (d8 (d8 (d8 s)))).2.1 (d8 (d8 (d8 (d8 s)))).2.2.1 (d8 (d8 (d8 (d8 s)))).2.2.2.1 (d8 (d8 (d8 (d8 s)))).2.2.2.2.1 (d8 (d8 (d8 (d8 s)))).2.2.2.2.2.1 (d8 (d8 (d8 (d8 s)))).2.2.2.2.2.2.1 (d8 (d8 (d8 (d8 s)))).2.2.2.2.2.2.2.1 (d8 (d8 (d8 (d8 (d8 s))))).1 (d8 (d8 (d8 (d8 (d8 s))))).2.1 (d8 (d8 (d8 (d8 (d8 s))))).2.2.1 (d8 (d8 (d8 (d8 (d8 s))))).2.2.2.1 (d8 (d8 (d8 (d8 (d8 s))))).2.2.2.2.1⟩
theorem oT:px Fk:=
 abK (.s (.j ⟨[],[]⟩ .o (.r [] (.j ⟨[],[]⟩ .o .o)))) call148 func148 (aj Vu al)
def abL:aq:=⟨149,[Lw,aS],.bool,[],U2 UK⟩
theorem Rb:Ko abL:=
 aw .o call149 func149 (aj CO (aj lx al))
def yX:aq:=⟨153,[Mu],ew,[],λs=>po s⟩
theorem vR:Ko yX:=
 aw .o call153 func153 al
def Dw:aq:=⟨116,[aS,aS],.bool,[],U2 iU⟩
theorem iZ:Ko Dw:=
 aw (.c .o (.l ⟨[(false,13,an)],[]⟩ .o)) call116 func116 al
def X9:aq:=⟨151,[(.sli xO)],ia,[],λs=>DG s⟩
theorem Qe:Ko X9:=
 aw (.l ⟨[(false,3,ia),(false,8,an)],[]⟩ .o) call151 func151 al
def yQ:bH:=⟨150,[Mu,aS,Lo,(.bx 225 0 false [Mu])],aal,none,false,true,ew,[],U4 pk⟩
theorem vz:px yQ:=
 abK (.c (.r [80000] .o) .o) call150 func150 (aj iZ (aj Qe al))
def agY:aq:=⟨264,[an],ig,[],λs=>Pg s⟩
theorem Iv:Ko agY:=
 aw .o call264 func264 al
def Yp:aq:=⟨258,[an,ig,agj,Zl],ew,[(true,3,Zl)],U7 OB⟩
theorem Pe:Ko Yp:=
 aw .o call258 func258 al
def aiV:aq:=⟨257,[QL,di,an,(.fn 258 [] [agj,Zl])],an,[(true,3,(.fn 258 [] [.same,Zl]))],U8 ae3⟩
theorem acO:Ko aiV:=
 aw .o call257 func257 (aj Iv (aj jZ (aj Pe al)))
def agy:aq:=⟨252,[QL,di,an],D9,[],U3 abv⟩
theorem Zj:Ko agy:=
 aw .o call252 func252 (aj acO al)
def M3:aq:=⟨246,[lg,kL,aS,an],D9,[],U4 Dg⟩
theorem Hl:Ko M3:=
 aw (.r [5] .o) call246 func246 (aj dU (aj Zj al))
def ai0:aq:=⟨295,[J7,gu,aS,an],(.cE [an,an]),[],U4 VG⟩
theorem LQ:Ko ai0:=
 aw .o call295 func295 (aj eW (aj FG al))
def afD:aq:=⟨292,[J7,gu,aS,an],D9,[],U4 aaK⟩
theorem Zd:Ko afD:=
 aw .o call292 func292 (aj LQ al)
def Lz:aq:=⟨286,[lg,kL,aS,an],D9,[],U4 AB⟩
theorem Gh:Ko Lz:=
 aw .o call286 func286 (aj Zd al)
def ajm:aq:=⟨315,[JF,gu,aS,an],(.cE [an,an]),[],U4 VS⟩
theorem K7:Ko ajm:=
 aw .o call315 func315 (aj eW (aj E4 al))
def ag7:aq:=⟨310,[JF,gu,aS,an],D9,[],U4 acj⟩
theorem YU:Ko ag7:=
 aw .o call310 func310 (aj K7 al)
def J6:aq:=⟨304,[lg,kL,aS,an],D9,[],U4 Bv⟩
theorem EZ:Ko J6:=
 aw .o call304 func304 (aj YU al)
def SC:aq:=⟨337,[kL,aS,an],an,[],U3 xT⟩
theorem wM:Ko SC:=
 aw (.c .o (.r [3] .o)) call337 func337 (aj dU (aj uM al))
def ND:aq:=⟨331,[lg,kL,aS,an],D9,[],U4 CS⟩
theorem Ht:Ko ND:=
 aw (.c .o (.r [5] .o)) call331 func331 (aj wM (aj dU (aj uM al)))
def afZ:aq:=⟨374,[tL,di,an],an,[],U3 Pk⟩
theorem Iy:Ko afZ:=
 aw .o call374 func374 (aj BL al)
def Va:aq:=⟨378,[tL,di,an,Vq],ew,[(true,3,Vq)],U4 LB⟩
theorem Ns:Ko Va:=
 aw (.l ⟨[(true,3,Vq),(false,19,an)],[]⟩ (.c (.r [3] .o) .o)) call378 func378 (aj jW al)
def YG:aq:=⟨375,[tL,di,an],.bool,[],U3 OI⟩
theorem Pf:Ko YG:=
 aw .o call375 func375 (aj Ns al)
def ahi:aq:=⟨371,[tL,di,an],D9,[],U3 acS⟩
theorem YV:Ko ahi:=
 aw .o call371 func371 (aj Iy (aj Pf al))
def M8:aq:=⟨365,[lg,kL,aS,an],D9,[],U4 Cv⟩
theorem Ij:Ko M8:=
 aw (.r [5] .o) call365 func365 (aj dU (aj YV al))
def ac6:aq:=⟨195,[kL,aS,an],D9,[],U3 XF⟩
theorem Wr:Ko ac6:=
 aw (.c .o (.r [3] .o)) call195 func195 (aj eW (aj xM (aj Hl (aj Gh (aj EZ (aj Ht (aj Ij al)))))))
def Yf:aq:=⟨262,[an,ig,agj,af4],ew,[(true,3,(.bx 98 0 true [.same,.same,.same,di]))],λs=>Oj s.1 s.2.1 s.2.2.1 s.2.2.2.1 s.2.2.2.2.1 s.2.2.2.2.2.1 s.2.2.2.2.2.2.1 s.2.2.2.2.2.2.2.1 s.2.2.2.2.2.2.2.2.1 (d8 s).2⟩
theorem P3:Ko Yf:=
 aw .o call262 func262 (aj dK al)
def acC:aq:=⟨257,[QL,di,an,(.fn 262 [] [agj,af4])],an,[(true,3,(.fn 262 [] [.same,af4]))],λs=>R7 s.1 s.2.1 s.2.2.1 s.2.2.2.1 s.2.2.2.2.1 s.2.2.2.2.2.1 s.2.2.2.2.2.2.1 s.2.2.2.2.2.2.2.1 s.2.2.2.2.2.2.2.2.1 (d8 s).2.1 (d8 s).2.2⟩
theorem Rx:Ko acC:=
 aw .o call257 func257 (aj Iv (aj jZ (aj P3 al)))
def afH:aq:=⟨255,[QL,di,an],(.cE [QL,an]),[],U3 aao⟩
theorem Ze:Ko afH:=
 aw .o call255 func255 (aj Rx al)
def Nu:aq:=⟨250,[lg,kL,aS,an],y7,[],U4 CP⟩
theorem HZ:Ko Nu:=
 aw (.r [40000] .o) call250 func250 (aj dU (aj Ze al))
def ahq:aq:=⟨294,[J7,gu,aS,an],(.cE [J7,an]),[],U4 aaj⟩
theorem Yb:Ko ahq:=
 aw (.c .o (.r [4] .o)) call294 func294 (aj LQ (aj dK al))
def KD:aq:=⟨290,[lg,kL,aS,an],y7,[],U4 Am⟩
theorem F9:Ko KD:=
 aw .o call290 func290 (aj Yb al)
def af0:aq:=⟨312,[JF,gu,aS,an],(.cE [JF,an]),[],U4 ab2⟩
theorem YI:Ko af0:=
 aw (.c .o (.r [4] .o)) call312 func312 (aj K7 (aj dK al))
def Ke:aq:=⟨308,[lg,kL,aS,an],y7,[],U4 Bq⟩
theorem Fw:Ko Ke:=
 aw .o call308 func308 (aj YI al)
def Nw:aq:=⟨335,[lg,kL,aS,an],y7,[],U4 C7⟩
theorem HA:Ko Nw:=
 aw (.c .o (.r [5] .o)) call335 func335 (aj wM (aj dU (aj CU al)))
def UN:aq:=⟨378,[(.dat ER [none,some 11,none]),di,(.iO (.int .i64 1)),(.fn 380 [] [])],ew,[(true,0,(.agg [.same,.same,.same,.same,fW,.same]))],U2 K5⟩
theorem MZ:Ko UN:=
 aw (.l ⟨[(true,0,(.agg [.same,.same,.same,.same,fW,.same])),(false,19,an)],[]⟩ (.c (.r [4,0] .o) .o)) call378 func378 (aj jW al)
def UW:aq:=⟨378,[(.dat ER [none,none,some 11]),di,(.iO (.int .i64 2)),(.fn 380 [] [])],ew,[(true,0,(.agg [.same,.same,.same,.same,.same,fW]))],U2 KX⟩
theorem M7:Ko UW:=
 aw (.l ⟨[(true,0,(.agg [.same,.same,.same,.same,.same,fW])),(false,19,an)],[]⟩ (.c (.r [4,0] .o) .o)) call378 func378 (aj jW al)
def XZ:aq:=⟨377,[tL,di,an],tL,[],U3 NS⟩
theorem Qa:Ko XZ:=
 aw (.r [60000,2,0,0,1,2] (.c .o (.c .o (.c .o (.n 77777 .o))))) call377 func377 (aj dK (aj yp (aj MZ (aj M7 al))))
def afR:aq:=⟨373,[tL,di,an],(.cE [tL,an]),[],U3 aas⟩
theorem Ya:Ko afR:=
 aw .o call373 func373 (aj Iy (aj Qa al))
def M5:aq:=⟨369,[lg,kL,aS,an],y7,[],U4 Dp⟩
theorem Hj:Ko M5:=
 aw (.r [40000] .o) call369 func369 (aj dU (aj Ya al))
def ady:aq:=⟨196,[kL,aS,an],y7,[],U3 Xh⟩
theorem We:Ko ady:=
 aw (.c .o (.r [3,6] .o)) call196 func196 (aj eW (aj xM (aj HZ (aj F9 (aj Fw (aj HA (aj Hj al)))))))
def Ju:bH:=⟨152,[Mf,aS],PC,none,false,false,.bool,[(true,0,Hc)],λs=>yk (d8 (d8 (d8 (d8 (d8 s))))).2.2.2.2.2 s.1 s.2.1 s.2.2.1 s.2.2.2.1 s.2.2.2.2.1 s.2.2.2.2.2.1 s.2.2.2.2.2.2.1 s.2.2.2.2.2.2.2.1 s.2.2.2.2.2.2.2.2.1 (d8 s).2.1 (d8 s).2.2.1 (d8 s).2.2.2.1 (d8 s).2.2.2.2.1 (d8 s).2.2.2.2.2.1 (d8 s).2.2.2.2.2.2.1 (d8 s).2.2.2.2.2.2.2.1 (d8 (d8 s)).1 (d8 (d8 s)).2.1 (d8 (d8 s)).2.2.1 (d8 (d8 s)).2.2.2.1 (d8 (d8 s)).2.2.2.2.1 (d8 (d8 s)).2.2.2.2.2.1 (d8 (d8 s)).2.2.2.2.2.2.1 (d8 (d8 s)).2.2.2.2.2.2.2.1 (d8 (d8 (d8 s))).1 (d8 (d8 (d8 s))).2.1 (d8 (d8 (d8 s))).2.2.1 (d8 (d8 (d8 s))).2.2.2.1 (d8 (d8 (d8 s))).2.2.2.2.1 (d8 (d8 (d8 s))).2.2.2.2.2.1 (d8 (d8 (d8 s))).2.2.2.2.2.2.1 (d8 (d8 (d8 s))).2.2.2.2.2.2.2.1 (d8 (d8 (d8 (d8 s)))).1 (d8 (d8 (d8 (d8 s)))).2.1 (d8 (d8 (d8 (d8 s)))).2.2.1 (d8 (d8 (d8 (d8 s)))).2.2.2.1 (d8 (d8 (d8 (d8 s)))).2.2.2.2.1 (d8 (d8 (d8 (d8 s)))).2.2.2.2.2.1 (d8 (d8 (d8 (d8 s)))).2.2.2.2.2.2.1 (d8 (d8 (d8 (d8 s)))).2.2.2.2.2.2.2.1 (d8 (d8 (d8 (d8 (d8 s))))).1 (d8 (d8 (d8 (d8 (d8 s))))).2.1 (d8 (d8 (d8 (d8 (d8 s))))).2.2.1 (d8 (d8 (d8 (d8 (d8 s))))).2.2.2.1 (d8 (d8 (d8 (d8 (d8 s))))).2.2.2.2.1⟩
theorem Dz:px Ju:=
 ou .o call152 func152 (aj Wr (aj We al)) (aj kE al) al λ_=>by kernel_rfl
def FL:bH:=⟨104,[Mf,aS,(.fn 152 [(.ptr 0 0)] []),(.fn 150 [] [Lo,(.bx 225 0 false [Mu])]),(.fn 153 [] [])],PC,some aal,false,true,ew,[(true,0,Hc)],λs=>vh (d8 (d8 (d8 (d8 (d8 s))))).2.2.2.2.2.1 s.1 s.2.1 s.2.2.1 s.2.2.2.1 s.2.2.2.2.1 s.2.2.2.2.2.1 s.2.2.2.2.2.2.1 s.2.2.2.2.2.2.2.1 s.2.2.2.2.2.2.2.2.1 (d8 s).2.1 (d8 s).2.2.1 (d8 s).2.2.2.1 (d8 s).2.2.2.2.1 (d8 s).2.2.2.2.2.1 (d8 s).2.2.2.2.2.2.1 (d8 s).2.2.2.2.2.2.2.1 (d8 (d8 s)).1 (d8 (d8 s)).2.1 (d8 (d8 s)).2.2.1 (d8 (d8 s)).2.2.2.1 (d8 (d8 s)).2.2.2.2.1 (d8 (d8 s)).2.2.2.2.2.1 (d8 (d8 s)).2.2.2.2.2.2.1 (d8 (d8 s)).2.2.2.2.2.2.2.1 (d8 (d8 (d8 s))).1 (d8 (d8 (d8 s))).2.1 (d8 (d8 (d8 s))).2.2.1 (d8 (d8 (d8 s))).2.2.2.1 (d8 (d8 (d8 s))).2.2.2.2.1 (d8 (d8 (d8 s))).2.2.2.2.2.1 (d8 (d8 (d8 s))).2.2.2.2.2.2.1 (d8 (d8 (d8 s))).2.2.2.2.2.2.2.1 (d8 (d8 (d8 (d8 s)))).1 (d8 (d8 (d8 (d8 s)))).2.1 (d8 (d8 (d8 (d8 s)))).2.2.1 (d8 (d8 (d8 (d8 s)))).2.2.2.1 (d8 (d8 (d8 (d8 s)))).2.2.2.2.1 (d8 (d8 (d8 (d8 s)))).2.2.2.2.2.1 (d8 (d8 (d8 (d8 s)))).2.2.2.2.2.2.1 (d8 (d8 (d8 (d8 s)))).2.2.2.2.2.2.2.1 (d8 (d8 (d8 (d8 (d8 s))))).1 (d8 (d8 (d8 (d8 (d8 s))))).2.1 (d8 (d8 (d8 (d8 (d8 s))))).2.2.1 (d8 (d8 (d8 (d8 (d8 s))))).2.2.2.1 (d8 (d8 (d8 (d8 (d8 s))))).2.2.2.2.1 (d8 (d8 (d8 (d8 (d8 s))))).2.2.2.2.2.2.1 (d8 (d8 (d8 (d8 (d8 s))))).2.2.2.2.2.2.2⟩
theorem A7:px FL:=
 ou (.l ⟨[(true,0,Hc),(false,11,(.own xO 277 true))],[]⟩ .o) call104 func104 (aj vR al) (aj oT (aj vz (aj Dz al))) al λ_=>by kernel_rfl
def Ec:bH:=⟨106,[Mf,Mu],PC,some aal,false,true,ew,[(true,0,Hc)],λs=>uL (d8 (d8 (d8 (d8 (d8 s))))).2.2.2.2.2 s.1 s.2.1 s.2.2.1 s.2.2.2.1 s.2.2.2.2.1 s.2.2.2.2.2.1 s.2.2.2.2.2.2.1 s.2.2.2.2.2.2.2.1 s.2.2.2.2.2.2.2.2.1 (d8 s).2.1 (d8 s).2.2.1 (d8 s).2.2.2.1 (d8 s).2.2.2.2.1 (d8 s).2.2.2.2.2.1 (d8 s).2.2.2.2.2.2.1 (d8 s).2.2.2.2.2.2.2.1 (d8 (d8 s)).1 (d8 (d8 s)).2.1 (d8 (d8 s)).2.2.1 (d8 (d8 s)).2.2.2.1 (d8 (d8 s)).2.2.2.2.1 (d8 (d8 s)).2.2.2.2.2.1 (d8 (d8 s)).2.2.2.2.2.2.1 (d8 (d8 s)).2.2.2.2.2.2.2.1 (d8 (d8 (d8 s))).1 (d8 (d8 (d8 s))).2.1 (d8 (d8 (d8 s))).2.2.1 (d8 (d8 (d8 s))).2.2.2.1 (d8 (d8 (d8 s))).2.2.2.2.1 (d8 (d8 (d8 s))).2.2.2.2.2.1 (d8 (d8 (d8 s))).2.2.2.2.2.2.1 (d8 (d8 (d8 s))).2.2.2.2.2.2.2.1 (d8 (d8 (d8 (d8 s)))).1 (d8 (d8 (d8 (d8 s)))).2.1 (d8 (d8 (d8 (d8 s)))).2.2.1 (d8 (d8 (d8 (d8 s)))).2.2.2.1 (d8 (d8 (d8 (d8 s)))).2.2.2.2.1 (d8 (d8 (d8 (d8 s)))).2.2.2.2.2.1 (d8 (d8 (d8 (d8 s)))).2.2.2.2.2.2.1 (d8 (d8 (d8 (d8 s)))).2.2.2.2.2.2.2.1 (d8 (d8 (d8 (d8 (d8 s))))).1 (d8 (d8 (d8 (d8 (d8 s))))).2.1 (d8 (d8 (d8 (d8 (d8 s))))).2.2.1 (d8 (d8 (d8 (d8 (d8 s))))).2.2.2.1 (d8 (d8 (d8 (d8 (d8 s))))).2.2.2.2.1⟩
theorem yG:px Ec:=
 ou .o call106 func106 (aj Rb al) (aj A7 al) al λ_=>by kernel_rfl
def yY:aq:=⟨105,[Mu,aS],ew,[],U2 py⟩
theorem vX:Ko yY:=
 aw .o call105 func105 al
def JW:bH:=⟨104,[Mf,aS,(.fn 103 [(.ptr 0 0)] []),(.fn 105 [] []),(.fn 106 [(.ptr 0 0)] [])],PC,some aal,false,false,ew,[(true,0,Hc)],λs=>BN (d8 (d8 (d8 (d8 (d8 s))))).2.2.2.2.2 s.1 s.2.1 s.2.2.1 s.2.2.2.1 s.2.2.2.2.1 s.2.2.2.2.2.1 s.2.2.2.2.2.2.1 s.2.2.2.2.2.2.2.1 s.2.2.2.2.2.2.2.2.1 (d8 s).2.1 (d8 s).2.2.1 (d8 s).2.2.2.1 (d8 s).2.2.2.2.1 (d8 s).2.2.2.2.2.1 (d8 s).2.2.2.2.2.2.1 (d8 s).2.2.2.2.2.2.2.1 (d8 (d8 s)).1 (d8 (d8 s)).2.1 (d8 (d8 s)).2.2.1 (d8 (d8 s)).2.2.2.1 (d8 (d8 s)).2.2.2.2.1 (d8 (d8 s)).2.2.2.2.2.1 (d8 (d8 s)).2.2.2.2.2.2.1 (d8 (d8 s)).2.2.2.2.2.2.2.1 (d8 (d8 (d8 s))).1 (d8 (d8 (d8 s))).2.1 (d8 (d8 (d8 s))).2.2.1 (d8 (d8 (d8 s))).2.2.2.1 (d8 (d8 (d8 s))).2.2.2.2.1 (d8 (d8 (d8 s))).2.2.2.2.2.1 (d8 (d8 (d8 s))).2.2.2.2.2.2.1 (d8 (d8 (d8 s))).2.2.2.2.2.2.2.1 (d8 (d8 (d8 (d8 s)))).1 (d8 (d8 (d8 (d8 s)))).2.1 (d8 (d8 (d8 (d8 s)))).2.2.1 (d8 (d8 (d8 (d8 s)))).2.2.2.1 (d8 (d8 (d8 (d8 s)))).2.2.2.2.1 (d8 (d8 (d8 (d8 s)))).2.2.2.2.2.1 (d8 (d8 (d8 (d8 s)))).2.2.2.2.2.2.1 (d8 (d8 (d8 (d8 s)))).2.2.2.2.2.2.2.1 (d8 (d8 (d8 (d8 (d8 s))))).1 (d8 (d8 (d8 (d8 (d8 s))))).2.1 (d8 (d8 (d8 (d8 (d8 s))))).2.2.1 (d8 (d8 (d8 (d8 (d8 s))))).2.2.2.1 (d8 (d8 (d8 (d8 (d8 s))))).2.2.2.2.1⟩
theorem FM:px JW:=
 ou (.l ⟨[(true,0,Hc),(false,11,(.own xO 277 true))],[]⟩ .o) call104 func104 (aj vX al) (aj oT (aj yG (aj kE al))) al λ_=>by kernel_rfl
def Jk:bH:=⟨68,[Mf],PC,some aal,false,false,ew,[(true,0,Hc)],λs=>yf s.1 s.2.1 s.2.2.1 s.2.2.2.1 s.2.2.2.2.1 s.2.2.2.2.2.1 s.2.2.2.2.2.2.1 s.2.2.2.2.2.2.2.1 s.2.2.2.2.2.2.2.2.1 (d8 s).2.1 (d8 s).2.2.1 (d8 s).2.2.2.1 (d8 s).2.2.2.2.1 (d8 s).2.2.2.2.2.1 (d8 s).2.2.2.2.2.2.1 (d8 s).2.2.2.2.2.2.2.1 (d8 (d8 s)).1 (d8 (d8 s)).2.1 (d8 (d8 s)).2.2.1 (d8 (d8 s)).2.2.2.1 (d8 (d8 s)).2.2.2.2.1 (d8 (d8 s)).2.2.2.2.2.1 (d8 (d8 s)).2.2.2.2.2.2.1 (d8 (d8 s)).2.2.2.2.2.2.2.1 (d8 (d8 (d8 s))).1 (d8 (d8 (d8 s))).2.1 (d8 (d8 (d8 s))).2.2.1 (d8 (d8 (d8 s))).2.2.2.1 (d8 (d8 (d8 s))).2.2.2.2.1 (d8 (d8 (d8 s))).2.2.2.2.2.1 (d8 (d8 (d8 s))).2.2.2.2.2.2.1 (d8 (d8 (d8 s))).2.2.2.2.2.2.2.1 (d8 (d8 (d8 (d8 s)))).1 (d8 (d8 (d8 (d8 s)))).2.1 (d8 (d8 (d8 (d8 s)))).2.2.1 (d8 (d8 (d8 (d8 s)))).2.2.2.1 (d8 (d8 (d8 (d8 s)))).2.2.2.2.1 (d8 (d8 (d8 (d8 s)))).2.2.2.2.2.1 (d8 (d8 (d8 (d8 s)))).2.2.2.2.2.2.1 (d8 (d8 (d8 (d8 s)))).2.2.2.2.2.2.2.1 (d8 (d8 (d8 (d8 (d8 s))))).1 (d8 (d8 (d8 (d8 (d8 s))))).2.1 (d8 (d8 (d8 (d8 (d8 s))))).2.2.1 (d8 (d8 (d8 (d8 (d8 s))))).2.2.2.1 (d8 (d8 (d8 (d8 (d8 s))))).2.2.2.2⟩
theorem Er:px Jk:=
 ou (.r [] (.l ⟨[(true,0,Hc),(false,14,an)],[]⟩ .o)) call68 func68 (aj V1 al) (aj kE (aj FM al)) al λ_=>by kernel_rfl
def adx:aq:=⟨46,[xV,Lw,wi],(.cE [.bool,VC,an,aS]),[],U3 Xo⟩
theorem alg:(⟨67,Tryz.f67⟩:jE).Ok X0.P:=⟨call67,func67⟩
theorem Vb:Ko adx:=
 aX (.c (.r [6,7,8,9] .o) .o) call46 func46 (aj PW (aj vD al)) (aj Er al) (aj alg al) λ_=>by kernel_rfl
def YD:aq:=⟨71,[aS],aS,[],λs=>OQ s⟩
theorem PN:Ko YD:=
 aw .o call71 func71 al
def H8:aq:=⟨72,[wo,(.fn 71 [] [])],ia,[],λs=>oa s⟩
theorem BV:Ko H8:=
 aw (.l ⟨[(false,5,ia),(false,10,an)],[]⟩ .o) call72 func72 (aj PN al)
def afY:aq:=⟨48,[VC],VC,[],λs=>aay s⟩
theorem XV:Ko afY:=
 aw (.r [2] .o) call48 func48 (aj BV al)
def B4:aq:=⟨113,[(.sli pX)],ia,[],λs=>lz s⟩
theorem mG:Ko B4:=
 aw (.l ⟨[(false,3,an),(false,11,an)],[]⟩ (.c .o (.l ⟨[(false,6,ia),(false,27,an)],[]⟩ .o))) call113 func113 (aj ajd al)
def Vs:aq:=⟨115,[aS,agp],.bool,[],U6 LO⟩
theorem Nc:Ko Vs:=
 aw .o call115 func115 (aj eW al)
def FQ:aq:=⟨114,[wo,(.fn 115 [] [agp])],dN,[],U6 uY⟩
theorem AR:Ko FQ:=
 aw (.l ⟨[(false,5,dN),(false,10,an)],[]⟩ .o) call114 func114 (aj Nc al)
def M4:aq:=⟨120,[aS,Lo],.bool,[],U2 CB⟩
theorem Iq:Ko M4:=
 aw .o call120 func120 (aj iZ al)
def xG:aq:=⟨158,[wo,(.fn 120 [] [Lo])],an,[],U2 oz⟩
theorem uU:Ko xG:=
 aw (.l ⟨[(false,8,an)],[]⟩ .o) call158 func158 (aj Iq al)
def uT:aq:=⟨119,[wo,(.fn 120 [] [Lo])],.bool,[],U2 lE⟩
theorem sf:Ko uT:=
 aw .o call119 func119 (aj uU al)
def U1:aq:=⟨118,[aS,aS,agp],.bool,[],U7 LY⟩
theorem Nk:Ko U1:=
 aw .o call118 func118 (aj vK (aj sf al))
def QH:aq:=⟨117,[wo,(.fn 118 [] [agp])],.bool,[],U6 Fz⟩
theorem IT:Ko QH:=
 aw (.l ⟨[(false,5,an)],[]⟩ (.c (.r [1] .o) .o)) call117 func117 (aj Nk al)
def ade:aq:=⟨73,[xV,VC],.bool,[],U2 JI⟩
theorem Vy:Ko ade:=
 aw (.c .o (.r [] (.r [6] .o))) call73 func73 (aj mG (aj AR (aj fS (aj iZ (aj IT al)))))
def ab9:aq:=⟨75,[VC],(.dat (.p pX bd) [some 47]),[],λs=>Hv s⟩
theorem Ro:Ko ab9:=
 aw (.r [2] .o) call75 func75 (aj mG al)
def aja:aq:=⟨159,[fA],.bool,[],λs=>VB s⟩
def KW(a:Ex->Ex)(g:Sh->(R:Type)->Option R->Option R)(e:Ex):vc:= (j7 (a e)).bind λd=> ai (d.2.1==0) λf=> ai (d.1==2) λc=> ai (f&&c) λb=> some b
theorem acF:Ko aja:=
 aX .o call159 func159 (aj oU al) al al λs=>(show _=KW bk aM s from by kernel_rfl).trans ((congrArg (λa=>KW a aM s) aJ).trans ((congrArg (λb=>KW id b s) aN).trans (by kernel_rfl)))
def ZS:aq:=⟨161,[an,Vn,Lf],.bool,[],U7 Sc⟩
theorem S9:Ko ZS:=
 aw .o call161 func161 (aj oX al)
def agE:aq:=⟨160,[an,(.fn 161 [] [Vn,Lf])],dN,[],U7 Ql⟩
theorem Ym:Ko agE:=
 aw (.l ⟨[(true,5,dN),(false,11,an)],[]⟩ .o) call160 func160 (aj S9 al)
def aaF:aq:=⟨165,[an,iV],.bool,[],U2 S6⟩
theorem SU:Ko aaF:=
 aw .o call165 func165 al
def YK:aq:=⟨160,[an,(.fn 165 [] [iV])],dN,[],U2 N4⟩
theorem QP:Ko YK:=
 aw (.l ⟨[(true,5,dN),(false,11,an)],[]⟩ .o) call160 func160 (aj SU al)
def acu:aq:=⟨166,[an,iV,iV],.bool,[],U3 R4⟩
theorem UL:Ko acu:=
 aw .o call166 func166 al
def Yy:aq:=⟨160,[an,(.fn 166 [] [iV,iV])],dN,[],U3 N5⟩
theorem Qj:Ko Yy:=
 aw (.l ⟨[(true,5,dN),(false,11,an)],[]⟩ .o) call160 func160 (aj UL al)
def aa6:aq:=⟨167,[an,iV,iV],.bool,[],U3 Rn⟩
theorem Sq:Ko aa6:=
 aw .o call167 func167 al
def Zc:aq:=⟨160,[an,(.fn 167 [] [iV,iV])],dN,[],U3 OW⟩
theorem Ra:Ko Zc:=
 aw (.l ⟨[(true,5,dN),(false,11,an)],[]⟩ .o) call160 func160 (aj Sq al)
def abo:aq:=⟨168,[an,iV,iV],.bool,[],U3 Rz⟩
theorem RV:Ko abo:=
 aw .o call168 func168 al
def XY:aq:=⟨160,[an,(.fn 168 [] [iV,iV])],dN,[],U3 N0⟩
theorem Qp:Ko XY:=
 aw (.l ⟨[(true,5,dN),(false,11,an)],[]⟩ .o) call160 func160 (aj RV al)
def abT:aq:=⟨169,[an,iV,iV],.bool,[],U3 SF⟩
theorem UE:Ko abT:=
 aw .o call169 func169 al
def X8:aq:=⟨160,[an,(.fn 169 [] [iV,iV])],dN,[],U3 Oy⟩
theorem O7:Ko X8:=
 aw (.l ⟨[(true,5,dN),(false,11,an)],[]⟩ .o) call160 func160 (aj UE al)
def afz:aq:=⟨171,[Kx,an],an,[],U2 GJ⟩
theorem xF:Ko afz:=
 aw .o call171 func171 al
def abU:aq:=⟨170,[an,iV,Lf],.bool,[],U4 RC⟩
theorem SA:Ko abU:=
 aw .o call170 func170 (aj xF al)
def YY:aq:=⟨160,[an,(.fn 170 [] [iV,Lf])],dN,[],U4 OH⟩
theorem QD:Ko YY:=
 aw (.l ⟨[(true,5,dN),(false,11,an)],[]⟩ .o) call160 func160 (aj SA al)
def RF:aq:=⟨164,[an,Mp],.bool,[],U2 IJ⟩
theorem JP:Ko RF:=
 aw .o call164 func164 al
def Yc:aq:=⟨160,[an,(.fn 164 [] [Mp])],dN,[],U2 NY⟩
theorem P5:Ko Yc:=
 aw (.l ⟨[(true,5,dN),(false,11,an)],[]⟩ .o) call160 func160 (aj JP al)
def abl:aq:=⟨163,[.bool,(.bx 3 0 false [an])],dN,[],U2 HE⟩
theorem RR:Ko abl:=
 aw .o call163 func163 (aj P5 al)
def U0:aq:=⟨210,[an,Mp],.bool,[],U2 LJ⟩
theorem Nl:Ko U0:=
 aw .o call210 func210 al
def Zh:aq:=⟨160,[an,(.fn 210 [] [Mp])],dN,[],U2 Ea⟩
theorem BG:Ko Zh:=
 aw (.l ⟨[(true,5,dN),(false,11,an)],[]⟩ .o) call160 func160 (aj Nl al)
def NH:aq:=⟨200,[an,(.own .bo 4 false),Kz,Kz,Lf],.bool,[],U6 Df⟩
theorem G9:Ko NH:=
 aw .o call200 func200 (aj xF al)
def UY:aq:=⟨211,[an,(.bx 321 0 false [ahz]),iV],.bool,[],λs=>Kt s.1 s.2.2.2.2.2 s.2.1 s.2.2.1 s.2.2.2.1 s.2.2.2.2.1⟩
theorem NJ:Ko UY:=
 aw .o call211 func211 (aj G9 al)
def Vl:aq:=⟨160,[an,(.fn 211 [] [(.bx 321 0 false [ahz]),iV])],dN,[],λs=>Kg s.1 s.2.2.2.2.2 s.2.1 s.2.2.1 s.2.2.2.1 s.2.2.2.2.1⟩
theorem NC:Ko Vl:=
 aw (.l ⟨[(true,5,dN),(false,11,an)],[]⟩ .o) call160 func160 (aj NJ al)
def uA:aq:=⟨212,[(.own .bo 4 false),(.own .bo 4 false)],.bool,[],U2 gK⟩
theorem je:Ko uA:=
 aw (.c .o (.l ⟨[(false,13,an)],[]⟩ .o)) call212 func212 al
def adi:aq:=⟨199,[Kx,.bool,ahz],dN,[],U6 XI⟩
theorem Vt:Ko adi:=
 aw (.n 0 (.j ⟨[(true,7,(.bx 287 0 true [dN]))],[]⟩ .o .o)) call199 func199 (aj BG (aj NC (aj je al)))
def adA:aq:=⟨172,[Kx,(.sli .bo),(.sli .bo)],dN,[],U3 JX⟩
theorem VA:Ko adA:=
 aw .o call172 func172 (aj Vt al)
def Jz:aq:=⟨201,[an,(.own .bo 4 false),Kz,Kz,Lf],.bool,[],U6 x9⟩
theorem DK:Ko Jz:=
 aw .o call201 func201 (aj xF al)
def MQ:aq:=⟨211,[an,(.bx 321 0 false [af6]),iV],.bool,[],λs=>CI s.1 s.2.2.2.2.2 s.2.1 s.2.2.1 s.2.2.2.1 s.2.2.2.2.1⟩
theorem HB:Ko MQ:=
 aw .o call211 func211 (aj DK al)
def Ve:aq:=⟨160,[an,(.fn 211 [] [(.bx 321 0 false [af6]),iV])],dN,[],λs=>LG s.1 s.2.2.2.2.2 s.2.1 s.2.2.1 s.2.2.2.1 s.2.2.2.2.1⟩
theorem Nx:Ko Ve:=
 aw (.l ⟨[(true,5,dN),(false,11,an)],[]⟩ .o) call160 func160 (aj HB al)
def Wp:aq:=⟨199,[Kx,.bool,af6],dN,[],U6 L0⟩
theorem Nf:Ko Wp:=
 aw (.n 0 (.j ⟨[(true,7,(.bx 287 0 true [dN]))],[]⟩ .o .o)) call199 func199 (aj BG (aj Nx (aj je al)))
def Ys:aq:=⟨173,[Kx,(.sli .bo),(.sli .bo)],dN,[],U3 DV⟩
theorem Qw:Ko Ys:=
 aw .o call173 func173 (aj Nf al)
def Xs:aq:=⟨121,[fA,Kx],dN,[],U2 WK⟩
def EB(b:Ex->Ex)(o:Sh->(R:Type)->Option R->Option R)(m:(Ex×gN)->Option aU)(e:Ex)(c:gN):Option aU:= (VB (b e)).bind λj=> bif j then ( (Ql (c.1.length:Int) e.op e.n e.at_ e.l c.1 c.2).bind λi=> some i) else ( (idx e.l 0).bind λk=> (m ((b k),c)).bind λh=> ai (λ(d:aU)=>RO e c h d) λa=> bif decide (1<(List.length e.l:Int)) then (idx e.l 1).bind λg=> (m ((b g),c)).bind λf=> a f else a [])
def XL:ZT->ZT:=λa s=>XR a s.1 s.2
theorem VN(a:ZT)(b:aqc a):(yw (XL a)).Ok X0.P X0.Γ:=
 aX (.c .o (.r [40000] (.s (.j ⟨[(true,7,(.bx 287 0 true [dN]))],[]⟩ (.c (.r [7] .o) .o) (.c .o (.c .o (.c .o (.c .o (.c .o (.c .o (.c (.r [6,8] .o) (.c (.r [6,8] .o) .o)))))))))))) call121 func121 (aj acF (aj Ym (aj b (aj QP (aj Qj (aj Ra (aj Qp (aj O7 (aj QD (aj RR (aj VA (aj Qw al)))))))))))) al al λs=>(show _=EB bk aM a s.1 s.2 from by kernel_rfl).trans ((congrArg (λd=>EB d aM a s.1 s.2) aJ).trans ((congrArg (λe=>EB id e a s.1 s.2) aN).trans (by kernel_rfl)))
theorem abJ:Ko Xs:=(show Xs=yw (az (XL) aC) by kernel_rfl)▸dT (X:=X0) (E:=yw) ⟨call121,λ_ _ h=>nomatch h⟩ (VN) aC
def ac4:aq:=⟨74,[fA,Kx],.bool,[],U2 J8⟩
def EL(a:Ex->Ex)(f:Sh->(R:Type)->Option R->Option R)(e:Ex)(c:gN):vc:= (WK (a e) c).bind λd=> (idx d 0).bind λb=> some b
theorem Wj:Ko ac4:=
 aX .o call74 func74 (aj abJ al) al al λs=>(show _=EL bk aM s.1 s.2 from by kernel_rfl).trans ((congrArg (λa=>EL a aM s.1 s.2) aJ).trans ((congrArg (λb=>EL id b s.1 s.2) aN).trans (by kernel_rfl)))
def Y8:aq:=⟨49,[xV,fA,VC],.bool,[],U3 OL⟩
def xS(d:Ex->Ex)(h:Sh->(R:Type)->Option R->Option R)(m:sF)(e:Ex)(l:tZ):vc:= (JI m l).bind λa=> bu a default (Hv l) λc=> bu a default (J8 (d e) c) λb=> ai (!b) λg=> ai (a&&g) λf=> some f
theorem Pp:Ko Y8:=
 aX .o call49 func49 (aj Vy (aj Ro (aj Wj al))) al al λs=>(show _=xS bk aM s.1 s.2.1 s.2.2 from by kernel_rfl).trans ((congrArg (λa=>xS a aM s.1 s.2.1 s.2.2) aJ).trans ((congrArg (λb=>xS id b s.1 s.2.1 s.2.2) aN).trans (by kernel_rfl)))
def IW:aq:=⟨37,[ahx],.bool,[(true,0,(.bx 81 0 true [.same,.same,.same,.same,.same,.same,.same,.same,.same,.same,.same,.same,.same,.same,.same,.same,.same,an,an,an,aS,wo,wo]))],λs=>yd s.1 s.2.1 s.2.2.1 s.2.2.2.1 s.2.2.2.2.1 s.2.2.2.2.2.1 s.2.2.2.2.2.2.1 s.2.2.2.2.2.2.2.1 s.2.2.2.2.2.2.2.2.1 (d8 s).2.1 (d8 s).2.2.1 (d8 s).2.2.2.1 (d8 s).2.2.2.2.1 (d8 s).2.2.2.2.2.1 (d8 s).2.2.2.2.2.2.1 (d8 s).2.2.2.2.2.2.2.1 (d8 (d8 s)).1 (d8 (d8 s)).2.1 (d8 (d8 s)).2.2.1 (d8 (d8 s)).2.2.2.1 (d8 (d8 s)).2.2.2.2.1 (d8 (d8 s)).2.2.2.2.2.1 (d8 (d8 s)).2.2.2.2.2.2⟩
theorem EI:Ko IW:=
 aw (.r [40000] (.c .o (.r [40000] .o))) call37 func37 (aj HX (aj Vb (aj gX (aj XV (aj Pp al)))))
def X7:aq:=⟨27,[.str,.str,wi],(.dat PE [none,none,none]),[],U3 Ot⟩
theorem akM:(⟨33,Tryz.f33⟩:jE).Ok X0.P:=⟨call33,func33⟩
theorem PG:Ko X7:=
 aX (.n 50 .o) call27 func27 (aj Im (aj ET (aj AZ (aj EI al)))) al (aj akM al) λ_=>by kernel_rfl
def adv:aq:=⟨11,[(.dat PE [none,none,none])],.str,[],λs=>Lm s⟩
theorem Fo:Ko adv:=
 aw (.s (.s (.j ⟨[(true,3,Eu)],[]⟩ .o (.l ⟨[(true,3,Eu),(false,35,an)],[]⟩ (.c .o (.l ⟨[(true,3,Eu),(false,47,an)],[]⟩ (.c .o (.j ⟨[(true,3,Eu)],[1]⟩ .o .o)))))))) call11 func11 (aj II (aj jl (aj lC al)))
def agQ:aq:=⟨16,[.str],.str,[],λs=>lN s⟩
theorem IB:Ko agQ:=
 aw .o call16 func16 (aj akn (aj pQ (aj II (aj PG (aj Fo al)))))
def FB:aq:=⟨7,[],.bool,[],λ_=>mY⟩
theorem Bb:Ko FB:=
 aw .o call7 func7 (aj IB (aj pQ (aj Fo al)))
end
end Go.Proofs.YtkedhpmpejhekaaGreatDoor
