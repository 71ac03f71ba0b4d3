/- Own texts for ToolNumbers, cut and joined by a program. -/
import Derived.Test.YtkedhpmpejhekaaGreatDoorToolNumbersG
set_option linter.all false
namespace Go.Proofs.YtkedhpmpejhekaaGreatDoor
open IntKind (i32 i64)
open Go.Proofs
noncomputable section
set_option maxRecDepth 100000
abbrev Uo:Ty:=(.p (.i .i64) (.p (.l (.p (.i .i64) (.i .i64))) (.p (.i .i64) (.p (.p (.p (.i .i64) (.p (.l (.l (.i .u8))) (.l (.i .i64)))) (.l (.i .u8))) (.p (.p (.l (.p (.i .i64) (.p (.l (.l (.i .u8))) (.l (.i .i64))))) (.p (.p (.i .i64) (.p (.l (.l (.i .u8))) (.l (.i .i64)))) (.l (.i .u8)))) (.p (.p (.l (.p (.i .i64) (.p (.l (.l (.i .u8))) (.l (.i .i64))))) (.l (.i .u8))) (.p (.p (.p (.i .i64) (.p (.l (.p (.l (.p (.i .u8) (.i .i64))) (.i .i64))) (.p (.i .i64) (.p (.i .i64) (.l (.i .i64)))))) (.p (.p (.i .i64) (.p (.l (.p (.l (.p (.i .u8) (.i .i64))) (.i .i64))) (.p (.i .i64) (.p (.i .i64) (.l (.i .i64)))))) (.p (.i .i64) (.p (.l (.p (.l (.p (.i .u8) (.i .i64))) (.i .i64))) (.p (.i .i64) (.p (.i .i64) (.l (.i .i64)))))))) (.p (.i .i64) (.p (.i .i64) (.p (.i .u64) (.p (.l (.i .u8)) (.p (.l (.i .u8)) (.l (.i .u8))))))))))))))
abbrev bd:Ty:=(.i .i64)
abbrev an:Pt:=(.int .i64)
abbrev QL4:List Pt:=(.same:: .same:: .same:: .same:: .same:: .same:: .same:: .same:: .same::an::(.sli (.p bd bd))::an::an::(.sli (.l (.i .u8)))::(.sli bd)::(.sli (.i .u8))::(.sli (.p bd (.p (.l (.l (.i .u8))) (.l bd))))::an::(.sli (.l (.i .u8)))::(.sli bd)::(.sli (.i .u8))::(.sli (.p bd (.p (.l (.l (.i .u8))) (.l bd))))::(.sli (.i .u8))::an::(.sli (.p (.l (.p (.i .u8) bd)) bd))::an::an::(.sli bd)::an::(.sli (.p (.l (.p (.i .u8) bd)) bd))::an::an::(.sli bd)::an::(.sli (.p (.l (.p (.i .u8) bd)) bd))::an::an::(.sli bd)::an::an::(.int .u64)::(.sli (.i .u8))::(.sli (.i .u8))::(.sli (.i .u8)):: .same::[])
abbrev kN:Pt:=(.dat Uo [none,none,none,none,none,none,none,none,none,none,none,none,none,none,none,none,none,none,none])
abbrev QL6:List Pt:=((.sli .s)::(.sli (.p bd bd))::(.sli bd)::(.sli .s)::(.sli (.p bd (.p .ex (.l (.p bd .ex)))))::(.sli (.l .ex))::(.sli (.l bd))::(.sli bd)::(.sli (.l bd))::an::(.sli (.p bd bd))::an::an::(.sli (.l (.i .u8)))::(.sli bd)::(.sli (.i .u8))::(.sli (.p bd (.p (.l (.l (.i .u8))) (.l bd))))::an::(.sli (.l (.i .u8)))::(.sli bd)::(.sli (.i .u8))::(.sli (.p bd (.p (.l (.l (.i .u8))) (.l bd))))::(.sli (.i .u8))::an::(.sli (.p (.l (.p (.i .u8) bd)) bd))::an::an::(.sli bd)::an::(.sli (.p (.l (.p (.i .u8) bd)) bd))::an::an::(.sli bd)::an::(.sli (.p (.l (.p (.i .u8) bd)) bd))::an::an::(.sli bd)::an::an::(.int .u64)::(.sli (.i .u8))::(.sli (.i .u8))::(.sli (.i .u8))::an::[])
abbrev eO:Ty:=(.p bd (.p (.l (.l (.i .u8))) (.l bd)))
abbrev cz:Pt:=(.bx 196 0 true [.same,an,.same,an,an,an])
abbrev ir:Pt:=(.bx 196 0 true [(.own (.p bd (.p .s (.p bd bd))) 142 false),an,(.own .s 9 false),an,an,an])
abbrev aP:Ty:=(.i .u8)
abbrev eQ:Pt:=(.bx 196 0 true [(.sli (.p bd (.p .s (.p bd bd)))),an,(.sli .s),an,an,an])
abbrev K9:Ty:=(.p (.l .s) (.p (.l (.p bd bd)) (.p (.l bd) (.p (.l .s) (.l (.p bd (.p .ex (.l (.p bd .ex)))))))))
abbrev agc:Ty:=(.p aP (.p aP (.p aP (.p aP (.p aP (.p aP (.p aP (.p aP (.p aP (.p aP (.p aP (.p aP (.p aP (.p aP (.p aP (.p aP (.p aP (.p aP (.p aP (.p aP (.p aP (.p aP (.p aP (.p aP (.p aP (.p aP (.p aP (.p aP (.p aP (.p aP (.p aP (.p aP (.p aP (.p aP (.p aP (.p aP (.p aP (.p aP (.p aP (.p aP (.p aP (.p aP (.p aP (.p aP (.p aP (.p aP (.p aP (.p aP (.p aP (.p aP (.p aP (.p aP (.p aP (.p aP (.p aP (.p aP (.p aP (.p aP (.p aP (.p aP (.p aP (.p aP (.p aP aP)))))))))))))))))))))))))))))))))))))))))))))))))))))))))))))))
abbrev E5:Ty:=(.p bd (.p bd (.p (.i .u64) (.p (.l aP) (.p (.l aP) (.l aP))))))
abbrev bF:Pt:=(.dat .ex [some 159])
abbrev dC:Ty:=(.p bd bd)
abbrev kq:Ty:=(.p (.l (.p aP bd)) bd)
abbrev PR:Ty:=(.p (.l (.l .ex)) (.p (.l (.l bd)) (.p (.l bd) (.l (.l bd)))))
abbrev sq:Ty:=(.p bd (.p .ex (.l (.p bd .ex))))
abbrev aS:Pt:=(.sli bd)
abbrev lG:Ty:=(.l bd)
abbrev jc:Pt:=(.bx 287 0 false [(.own .bo 4 false)])
abbrev VE:Ty:=(.p bd (.p bd (.p bd (.p (.i .u64) dC))))
abbrev fq:Pt:=(.own bd 3 true)
abbrev akK:Ty:=(.p aP (.p aP (.p aP (.p aP (.p aP (.p aP (.p aP (.p aP (.p aP (.p aP (.p aP (.p aP (.p aP (.p aP (.p aP (.p aP (.p aP (.p aP (.p aP (.p aP (.p aP (.p aP (.p aP aP)))))))))))))))))))))))
abbrev vx:Ty:=(.p bd (.p (.l kq) (.p bd (.p bd lG))))
abbrev ia:Pt:=(.own lG 23 true)
abbrev Z9:Pt:=(.bx 138 0 true [(.own (.p bd (.p .s dC)) 142 false),an,(.own .s 9 false),(.own dC 156 false),(.own bd 3 false),(.own .s 9 false),(.own sq 299 false)])
abbrev nd:Ty:=(.p bd (.p .s dC))
abbrev fT:Pt:=(.own aP 5 true)
abbrev uO:Ty:=(.p (.i .u64) (.i .u64))
abbrev agt:Pt:=(.bx 81 0 true [.str,.str,an,an,an,(.int .u64),an,an,(.sli .s),(.sli dC),aS,(.sli .s),(.sli sq),an,an,an,(.sli .ex),an,an,an,aS,ia,ia])
abbrev Qj:Ty:=(.p bd (.p bd (.p bd (.p lG (.p (.l lG) (.l lG))))))
abbrev af4:Pt:=(.bx 81 0 true [.same,.same,.same,.same,.same,.same,.same,.same,.same,.same,.same,.same,.same,.same,.same,.same,.same,an,an,an,aS,ia,ia])
abbrev dO:Pt:=(.own .bo 4 true)
abbrev agM:Pt:=(.bx 138 0 false [(.own nd 142 false),an,(.own .s 9 false),(.own dC 156 false),(.own bd 3 false),(.own .s 9 false),(.own sq 299 false)])
abbrev KV:Pt:=(.dat (.p (.l eO) (.p eO (.l aP))) [none,none,none,none])
abbrev xJ:Pt:=(.dat K9 [none,none,none,none,none])
abbrev di:Pt:=(.sli aP)
abbrev fG:Pt:=(.dat .ex [none])
abbrev Lo:Pt:=(.bx 287 0 false [(.sli .bo)])
abbrev Qk:Pt:=(.bx 138 0 true [.same,an,.same,.same,.same,.same,.same])
abbrev Md:Pt:=(.bx 176 0 false [(.sli lG),an])
abbrev Va:Ty:=(.p aP (.p aP (.p aP (.p aP (.p aP (.p aP (.p aP aP)))))))
abbrev gz:Ty:=(.l aP)
abbrev uK:Pt:=(.dat E5 [none,none,none])
abbrev KI:Pt:=(.bx 79 0 true [an,an,an,(.own .ex 79 true)])
abbrev GU:Pt:=(.bx 79 0 true [.same,.same,.same,.same])
abbrev pE:Ty:=(.l lG)
abbrev abb:Pt:=(.bx 457 0 true [.same,(.own kq 352 true),.same,.same,fq,.same])
abbrev aox:Ty:=(.p (.i .u64) (.p (.i .u64) (.p (.i .u64) (.p (.i .u64) (.p (.i .u64) (.p (.i .u64) (.p (.i .u64) (.p (.i .u64) (.p (.i .u64) (.p (.i .u64) (.p (.i .u64) (.p (.i .u64) (.p (.i .u64) (.p (.i .u64) (.p (.i .u64) (.p (.i .u64) (.p (.i .u64) (.p (.i .u64) uO))))))))))))))))))
abbrev ED:Pt:=(.ifc 470 (.bx 468 0 true [fq]))
abbrev aow:Pt:=(.bx 113 0 true [an,(.sli dC),an,an,(.sli gz),aS,di,(.sli eO),an,(.sli gz),aS,di,(.sli eO),di,an,(.sli kq),an,an,aS,an,(.sli kq),an,an,aS,an,(.sli kq),an,an,aS,an,an,(.int .u64),di,di,di])
abbrev GV:Pt:=(.bx 234 0 true [(.own .ex 79 true)])
abbrev LF:Pt:=(.bx 236 0 true [(.own uO 239 true)])
abbrev LY:Pt:=(.dat (.p (.l eO) gz) [none,none])
abbrev La:Pt:=(.dat PR [none,none,none,none])
abbrev EP:Pt:=(.ifc 134 (.agg [an,an]))
abbrev Ec:Pt:=(.bx 56 0 true [.sfp,fT])
abbrev gB:Pt:=(.sli dC)
abbrev PO:Pt:=(.dat (.p eO gz) [none,none,none])
abbrev VI:Pt:=(.bx 122 0 true [.same,.same,.same,.same])
abbrev VA:Pt:=(.bx 79 0 false [an,an,an,(.sli .ex)])
abbrev acs:Ty:=(.p (.i .u32) (.p (.i .u32) (.p aP (.p aP .bo))))
abbrev aoN:Ty:=(.p .s (.p .s (.p .s (.p .s (.p .s (.p .s (.p .s (.p .s (.p .s (.p .s (.p .s (.p .s (.p .s (.p .s (.p .s (.p .s (.p .s (.p .s (.p .s (.p .s (.p .s (.p .s (.p .s (.p .s .s))))))))))))))))))))))))
abbrev jP:Ty:=(.p aP bd)
abbrev ag8:Pt:=(.bx 433 0 true [(.own eO 349 true),(.fn 319 [(.ptr 0 0)] [])])
abbrev agH:Pt:=(.bx 101 0 true [(.own eO 96 true),.same,.same,.same,.same])
abbrev agC:Pt:=(.bx 76 0 false [(.sli .s),gB,aS,(.sli .s),(.sli sq)])
abbrev ez:Pt:=(.cC [])
abbrev ln:Pt:=(.dat .un [])
abbrev Eh:Pt:=(.dat eO [none,none])
abbrev ml:Pt:=(.int .u64)
abbrev Vu:Pt:=(.fn 379 [] [(.bx 4 0 true [.bool])])
abbrev ajx:Pt:=(.bx 457 0 true [.same,(.own kq 352 true),.same,.same,fq,(.mp bd .bo true)])
abbrev LW:Pt:=(.dat (.p pE bd) [none])
abbrev xU:Ty:=(.p lG pE)
abbrev Bi:Pt:=(.bx 3 0 true [an])
abbrev aci:Pt:=(.ifc 166 (.agg [(.sli lG),(.sli lG)]))
abbrev agK:Pt:=(.bx 433 0 false [(.sli eO),(.fn 323 [(.ptr 0 0)] [])])
abbrev al2:Pt:=(.bx 457 0 true [an,(.own kq 352 true),an,an,fq,(.mp bd .bo false)])
abbrev aj3:Pt:=(.bx 457 0 true [an,(.own kq 352 true),an,an,fq,(.mp bd .bo true)])
abbrev abN:Pt:=(.bx 270 0 true [ia,(.mp .s .bo true)])
abbrev AP:Pt:=(.cC [an,.bool])
abbrev iu:Pt:=(.int .u8)
abbrev P9:Pt:=(.ifc 164 (.agg [an,aS]))
abbrev V9:Pt:=(.dat (.p pE pE) [none,none])
abbrev Bw:Pt:=(.own .s 9 true)
abbrev afS:Pt:=(.bx 101 0 true [.same,.same,.same,.same,.same])
abbrev agY:Ty:=(.p (.l nd) (.p bd (.p (.l .s) (.p bd dC))))
abbrev agf:Ty:=(.p .s (.p .s (.p VE (.p K9 (.p .ex Qj)))))
abbrev EW:Pt:=(.cC [.bool,an])
abbrev J9:Pt:=(.bx 23 0 false [aS])
abbrev AB:Pt:=(.own .s 9 false)
abbrev afC:Pt:=(.bx 98 0 false [an,(.sli gz),aS,di])
abbrev PA:Pt:=(.own sq 299 true)
abbrev Ho:Pt:=(.bx 169 0 true QL4)
abbrev rV:Ty:=(.p gz bd)
abbrev agd:Pt:=(.bx 433 0 true [(.own eO 349 true),.same])
abbrev jG:Pt:=(.int .u32)
abbrev Hl:Pt:=(.own dC 156 true)
abbrev Mw:Ty:=(.p .s (.p .s (.p .s .s)))
abbrev GM:Pt:=(.bx 31 0 true [ml])
abbrev y7:Pt:=(.cC [kN,an])
abbrev ZH:Pt:=(.bx 282 0 true [(.mp uO .bo true)])
abbrev GS:Pt:=(.own nd 142 false)
abbrev ZK:Pt:=(.bx 237 0 true [(.mp uO bd true)])
abbrev MN:Pt:=(.cC [kN,.bool,an])
abbrev MS:Pt:=(.bx 4 0 false [.bool])
abbrev UN:Ty:=(.p (.l eO) (.p eO gz))
abbrev wu:Pt:=(.dat VE [])
abbrev rB:Ty:=(.p bd .ex)
abbrev afL:Pt:=(.dat PR [some 155,some 47,some 7,some 47])
abbrev Mm:Pt:=(.own dC 156 false)
abbrev MP:Pt:=(.own xU 277 false)
abbrev ZM:Ty:=(.p K9 (.p PR (.p Uo bd)))
abbrev G5:Pt:=(.own bd 3 false)
abbrev agn:Pt:=(.bx 98 0 true [an,(.sli gz),aS,di])
abbrev ZD:Ty:=(.p bd (.p bd (.p .bo aP)))
abbrev aml:Ty:=(.p aP (.p aP (.p aP (.p aP (.p aP (.p aP (.p aP (.p aP akK))))))))
abbrev SL:Pt:=(.dat vx [none,none])
abbrev MA:Pt:=(.bx 169 0 true QL6)
abbrev ama:Pt:=(.bx 283 0 true [(.fn 156 [] [(.ptr 0 0),(.ptr 2 0),(.ptr 4 0),(.ptr 7 0)])])
abbrev ahf:Pt:=(.bx 217 0 true [ia,(.mp .s .bo true)])
abbrev ZJ:Ty:=(.p (.l nd) (.p bd K9))
abbrev ZL:Pt:=(.bx 395 0 true [fT,an])
abbrev CX:Ty:=(.p pE pE)
abbrev wv:Pt:=(.sli lG)
abbrev Mx:Pt:=(.sli (.i .u32))
abbrev ZB:Pt:=(.bx 261 0 true [.same])
abbrev al8:Pt:=(.bx 138 0 true [.same,an,.same,.same,.same,.same,PA])
abbrev amo:Pt:=(.bx 196 0 false [(.sli nd),an,(.sli .s),an,an,an])
abbrev amw:Pt:=(.bx 122 0 true [(.own (.l .ex) 77 true),ia,.same,.same])
abbrev ZC:Pt:=(.bx 468 0 true [fq])
abbrev Uk:Ty:=(.p (.l eO) gz)
abbrev Di:Pt:=(.ifc 3 an)
abbrev al3:Pt:=(.bx 138 0 true [.same,an,Bw,Hl,fq,Bw,PA])
abbrev Mu:Pt:=(.fn 227 [] [])
abbrev MO:Pt:=(.fn 221 [] [])
abbrev Mh:Pt:=(.fn 219 [] [])
abbrev Me:Pt:=(.fn 184 [] [])
abbrev Zq:Pt:=(.bx 23 0 true [aS])
abbrev Zz:Pt:=(.bx 4 0 true [.bool])
abbrev afF:Pt:=(.fn 200 [] [Lo,Lo,Md])
abbrev agx:Pt:=(.fn 201 [] [Lo,Lo,Md])
open Tryz
theorem aiq:alH Tryz.prog 38:=λv w=>by rw [run_callFunc_extern func38 (by kernel_rfl) (by kernel_rfl) (by kernel_rfl) (e:=Extern.AbiNoEscape.same) (by kernel_rfl)];rfl
noncomputable def XT:Cx:=⟨Tryz.prog,[(2,bd),(3,bd),(4,.bo),(5,aP),(6,aP),(7,ZD),(8,ZD),(9,.s),(10,.s),(11,.s),(12,(.i .u64)),(13,(.p .s (.i .u64))),(14,(.p .s (.i .u64))),(21,(.i .i32)),(22,bd),(23,lG),(24,pE),(25,CX),(26,CX),(27,Qj),(28,Qj),(31,(.i .u64)),(32,VE),(33,VE),(38,(.i .u32)),(39,acs),(40,acs),(43,(.l .s)),(49,(.p .s Mw)),(50,(.p bd (.p bd (.p bd dC)))),(54,gz),(62,Mw),(73,(.l dC)),(74,(.l sq)),(75,K9),(76,K9),(77,(.l .ex)),(78,(.p bd (.p bd (.p bd (.l .ex))))),(79,.ex),(80,agf),(81,agf),(83,(.l dC)),(84,dC),(85,dC),(94,(.l gz)),(95,eO),(96,eO),(97,(.p eO gz)),(98,(.p eO gz)),(99,(.l eO)),(100,UN),(101,UN),(102,(.l eO)),(103,Uk),(104,Uk),(105,(.l kq)),(106,vx),(107,vx),(108,(.p vx (.p vx vx))),(109,(.p gz (.p gz gz))),(110,E5),(111,E5),(112,Uo),(113,Uo),(120,(.l (.l .ex))),(121,PR),(122,PR),(129,(.i .u64)),(130,(.l nd)),(133,dC),(134,dC),(137,ZJ),(138,ZJ),(141,nd),(142,nd),(148,(.l .n)),(153,.n),(155,dC),(156,dC),(163,(.p bd lG)),(164,(.p bd lG)),(165,CX),(166,CX),(168,ZM),(169,ZM),(175,(.p pE bd)),(176,(.p pE bd)),(178,akK),(195,agY),(196,agY),(202,(.l .bo)),(205,dC),(206,.un),(207,.un),(208,.un),(209,.un),(210,.un),(211,.un),(225,(.l xU)),(229,dC),(230,dC),(233,(.l .ex)),(234,(.l .ex)),(236,(.l uO)),(238,uO),(239,uO),(250,aox),(251,(.p aP agc)),(276,xU),(277,xU),(284,(.l pE)),(287,(.l .bo)),(297,(.l rB)),(298,sq),(299,sq),(300,rB),(301,rB),(319,dC),(322,aml),(323,agc),(325,(.p .s (.p .s (.p .s (.p .s (.p .s Mw)))))),(328,aoN),(338,.un),(339,.un),(340,.un),(341,aP),(342,aP),(344,(.i .i32)),(345,(.i .i32)),(348,eO),(349,eO),(350,(.l jP)),(351,kq),(352,kq),(373,rV),(374,rV),(381,eO),(382,eO),(383,eO),(384,eO),(392,rV),(393,rV),(394,rV),(395,rV),(435,(.l (.i .u32))),(442,Va),(443,Va),(461,jP),(462,jP),(468,lG)],[],[38],(List.forall_mem_cons.2 ⟨aiq,(λ_ h=>nomatch h)⟩),aB,[207,208,209,210,211],[],(λ_ h=>nomatch h),[(25,21),(66,40),(83,44)]⟩
noncomputable def X0:Cx:=⟨Tryz.prog,[(2,bd),(3,bd),(4,.bo),(5,aP),(6,aP),(7,ZD),(8,ZD),(9,.s),(10,.s),(11,.s),(12,(.i .u64)),(13,(.p .s (.i .u64))),(14,(.p .s (.i .u64))),(21,(.i .i32)),(22,bd),(23,lG),(24,pE),(25,CX),(26,CX),(27,Qj),(28,Qj),(31,(.i .u64)),(32,VE),(33,VE),(38,(.i .u32)),(39,acs),(40,acs),(43,(.l .s)),(49,(.p .s Mw)),(50,(.p bd (.p bd (.p bd dC)))),(54,gz),(62,Mw),(73,(.l dC)),(74,(.l sq)),(75,K9),(76,K9),(77,(.l .ex)),(78,(.p bd (.p bd (.p bd (.l .ex))))),(79,.ex),(80,agf),(81,agf),(83,(.l dC)),(84,dC),(85,dC),(94,(.l gz)),(95,eO),(96,eO),(97,(.p eO gz)),(98,(.p eO gz)),(99,(.l eO)),(100,UN),(101,UN),(102,(.l eO)),(103,Uk),(104,Uk),(105,(.l kq)),(106,vx),(107,vx),(108,(.p vx (.p vx vx))),(109,(.p gz (.p gz gz))),(110,E5),(111,E5),(112,Uo),(113,Uo),(120,(.l (.l .ex))),(121,PR),(122,PR),(129,(.i .u64)),(130,(.l nd)),(133,dC),(134,dC),(137,ZJ),(138,ZJ),(141,nd),(142,nd),(148,(.l .n)),(153,.n),(155,dC),(156,dC),(163,(.p bd lG)),(164,(.p bd lG)),(165,CX),(166,CX),(168,ZM),(169,ZM),(175,(.p pE bd)),(176,(.p pE bd)),(178,akK),(195,agY),(196,agY),(202,(.l .bo)),(205,dC),(206,.un),(207,.un),(208,.un),(209,.un),(210,.un),(211,.un),(225,(.l xU)),(229,dC),(230,dC),(233,(.l .ex)),(234,(.l .ex)),(236,(.l uO)),(238,uO),(239,uO),(250,aox),(251,(.p aP agc)),(276,xU),(277,xU),(284,(.l pE)),(287,(.l .bo)),(297,(.l rB)),(298,sq),(299,sq),(300,rB),(301,rB),(319,dC),(322,aml),(323,agc),(325,(.p .s (.p .s (.p .s (.p .s (.p .s Mw)))))),(328,aoN),(338,.un),(339,.un),(340,.un),(341,aP),(342,aP),(344,(.i .i32)),(345,(.i .i32)),(348,eO),(349,eO),(350,(.l jP)),(351,kq),(352,kq),(373,rV),(374,rV),(381,eO),(382,eO),(383,eO),(384,eO),(392,rV),(393,rV),(394,rV),(395,rV),(435,(.l (.i .u32))),(442,Va),(443,Va),(461,jP),(462,jP),(468,lG)],[(0,0,⟨.l .s,lA⟩),(1,0,⟨.l .s,lI⟩),(2,0,⟨.un,()⟩),(3,0,⟨.l (.i .u64),rv⟩),(6,0,⟨.l .s,G8⟩),(7,0,⟨.l .s,wW⟩)],[38],(List.forall_mem_cons.2 ⟨aiq,(λ_ h=>nomatch h)⟩),aB,[207,208,209,210,211],[⟨270,λargs H st K=>Pb XT Tryz.f270 args H st K⟩,⟨261,λargs H st K=>Pb XT Tryz.f261 args H st K⟩,⟨379,λargs H st K=>Pb XT Tryz.f379 args H st K⟩,⟨380,λargs H st K=>Pb XT Tryz.f380 args H st K⟩],(List.forall_mem_cons.2 ⟨Sr (X:=XT) call270 func270 rfl,(List.forall_mem_cons.2 ⟨Sr (X:=XT) call261 func261 rfl,(List.forall_mem_cons.2 ⟨Sr (X:=XT) call379 func379 rfl,(List.forall_mem_cons.2 ⟨Sr (X:=XT) call380 func380 rfl,(λ_ h=>nomatch h)⟩)⟩)⟩)⟩),[(25,21),(66,40),(83,44)]⟩
abbrev Ko(e:aq):=e.Ok X0.P X0.Γ
abbrev po(e:bH):=e.Ok X0.P X0.Γ
theorem aw{X:Cx}{tb:List aq}{fn:Func}{e:aq}(h:HT)(c:Enters X.P e.f)(b:X.P.funcs[e.f]? =some fn)(a:∀e∈tb,e.Ok X.P X.Γ)(eq:∀s,Vn X tb [] [] h fn e s=e.m s:=by intro _;kernel_rfl):e.Ok X.P X.Γ:=aX h c b a al al eq
theorem acN{X:Cx}{tb:List aq}{fn:Func}{e:bH}(h:HT)(c:Enters X.P e.f)(b:X.P.funcs[e.f]? =some fn)(a:∀e∈tb,e.Ok X.P X.Γ)(eq:∀s,alF X tb [] [] h fn e s=e.m s:=by intro _;kernel_rfl):e.Ok X.P X.Γ:=oE h c b a al al eq
abbrev U2{a z r:Type}(F:a->z->r)(s:a×z):r:=F s.1 s.2
abbrev U3{a b z r:Type}(F:a->b->z->r)(s:a×b×z):r:=F s.1 s.2.1 s.2.2
abbrev U4{a b c z r:Type}(F:a->b->c->z->r)(s:a×b×c×z):r:=F s.1 s.2.1 s.2.2.1 s.2.2.2
abbrev U5{a b c d z r:Type}(F:a->b->c->d->z->r)(s:a×b×c×d×z):r:=F s.1 s.2.1 s.2.2.1 s.2.2.2.1 s.2.2.2.2
abbrev U6{a b c d e z r:Type}(F:a->b->c->d->e->z->r)(s:a×b×c×d×e×z):r:=F s.1 s.2.1 s.2.2.1 s.2.2.2.1 s.2.2.2.2.1 s.2.2.2.2.2
abbrev U7{a b c d e f z r:Type}(F:a->b->c->d->e->f->z->r)(s:a×b×c×d×e×f×z):r:=F s.1 s.2.1 s.2.2.1 s.2.2.2.1 s.2.2.2.2.1 s.2.2.2.2.2.1 s.2.2.2.2.2.2
abbrev U8{a b c d e f g z r:Type}(F:a->b->c->d->e->f->g->z->r)(s:a×b×c×d×e×f×g×z):r:=F s.1 s.2.1 s.2.2.1 s.2.2.2.1 s.2.2.2.2.1 s.2.2.2.2.2.1 s.2.2.2.2.2.2.1 s.2.2.2.2.2.2.2
abbrev U9{a b c d e f g h z r:Type}(F:a->b->c->d->e->f->g->h->z->r)(s:a×b×c×d×e×f×g×h×z):r:=F s.1 s.2.1 s.2.2.1 s.2.2.2.1 s.2.2.2.2.1 s.2.2.2.2.2.1 s.2.2.2.2.2.2.1 s.2.2.2.2.2.2.2.1 s.2.2.2.2.2.2.2.2
def bk(x:Ex):Ex:=Ex.mk x.op x.n x.at_ x.l
theorem aJ:bk=id:=funext λx=>by cases x;rfl
def ape:aq:=⟨31,[.int .i64],.str,[],λs=>Zw s⟩
theorem XD:Ko ape:=ajS (ρ:=Tryz.J0) Tryz.akf call31 (G:=3) (tab:=rv) (by kernel_rfl) (show gl 3 (rv.map (Value.int .u64))∈X0.Γ by first|exact b0 ..|exact (.tail _ (b0 ..))|exact (.tail _ (.tail _ (b0 ..)))|exact (.tail _ (.tail _ (.tail _ (b0 ..))))|exact (.tail _ (.tail _ (.tail _ (.tail _ (b0 ..)))))|exact (.tail _ (.tail _ (.tail _ (.tail _ (.tail _ (b0 ..))))))) (by decide+kernel) Zw λn r h=>by obtain ⟨b,a⟩:=ej h;cases a;exact ⟨b,rfl⟩
def aoZ:aq:=⟨217,[.own aP 5 true,.int .u64,.int .i64],.own aP 5 true,[],U3 agB⟩
theorem ahT:Ko aoZ:=ak3 (ρ:=Tryz.OX) Tryz.am3 call217 (G:=3) (tab:=rv) (by kernel_rfl) (show gl 3 (rv.map (Value.int .u64))∈X0.Γ by first|exact b0 ..|exact (.tail _ (b0 ..))|exact (.tail _ (.tail _ (b0 ..)))|exact (.tail _ (.tail _ (.tail _ (b0 ..))))|exact (.tail _ (.tail _ (.tail _ (.tail _ (b0 ..)))))|exact (.tail _ (.tail _ (.tail _ (.tail _ (.tail _ (b0 ..))))))) (by decide+kernel) agB λl u b r h=>by obtain ⟨a,c⟩:=ej h;simp only [ae,j0,kz] at a;cases c;exact ⟨a.1.1,a.1.2.1,a.1.2.2,a.2,rfl⟩
def ao7:aq:=⟨157,[.iO (.raw (.slice none 0 0)),.int .i64],.own lG 23 true,[],λs=>agE s⟩
theorem ahQ:Ko ao7:=akj (ρ:=Tryz.XG) Tryz.apv call157 (z:= .slice none 0 0) (bytes:=24) (t:= .l bd) (by unfold TI;kernel_rfl) rfl rfl (by decide) agE λn r h=>by obtain ⟨a,b⟩:=ej h;simp only [ae,kz] at a;cases b;exact ⟨a.1,a.2,rfl⟩
def apC:aq:=⟨26,[.str,.str],.cC [.str,.str,.bool],[],U2 agQ⟩
theorem alm:Ko apC:=anS (ρ:=Tryz.OP) Tryz.aew call26 (show glx 2∈X0.Γ by repeat (first|exact b0 ..|refine aW _ ?_)) agQ λs t r h=>by obtain ⟨b,a⟩:=ej h;cases a;exact ⟨p5 b,rfl⟩
theorem aei(W:World)(x:Nat):FnGives X0.P 29 #[] #[.int .i32 x] (.bool (x==32)) W:=by
 refine Calls.mono (iq (S:=λv w'=>v= .bool (x==32)/\w'=W) (Sp:=λ_ _=>False) func29 rfl Tryz.ntmps29 rfl ?_) (λe w' h=>?_)
 .refine bp<|bg<|aK (cI ar.c) rfl rfl rfl rfl<|bR<|ba<|bp<|bg<|aK (aL (ar.t rfl)) rfl rfl rfl rfl<|aK (oT (ar.t rfl) ar.c) rfl rfl rfl rfl<|aK (cI (ar.t rfl)) rfl rfl rfl rfl<|bR<|ba<|tu ?_
  repeat refine mT ?_
  refine MH rfl (iY.t rfl) ?_;exact ⟨by congr 1;rw [qP,j0,j0];omega,rfl⟩
 .cases e with
  |returned v=>obtain ⟨rfl,rfl⟩:=h;exact ⟨rfl,0,rfl⟩
  |panicked c=>exact h.elim
  |outgrown=>exact h.elim
def apw:aq:=⟨28,[.str,.fn 29 [] []],.sli .s,[],λs=>agl s⟩
theorem akq:Ko apw:=anj (ρ:=Tryz.O8) Tryz.am8 call28 call29 aei agl λs r h=>by obtain ⟨b,a⟩:=ej h;cases a;exact ⟨p5 b,rfl⟩
theorem ajr{α:Type}{b:Nat}{s y r:List α}{k:Int}(h:acd b s k y=some r):y≠[]/\QP k s.length=true/\aH (s.length+y.length) b=true/\r=mh s k y:=by
 unfold acd at h;split at h
 .cases h
 .obtain ⟨a,c⟩:=ej h;simp only [ae] at a;cases c;exact ⟨by simp,a.1,a.2,rfl⟩
def ajB:aq:=⟨351,[.own jP 462 true,.int .i64,.own jP 462 true],.own jP 462 true,[],λs=>acd 16 s.1 s.2.1 s.2.2⟩
theorem ad2:Ko ajB:=amT (t:=jP) (bytes:=16) call351 (λa d c b=>I351.acL a d c b) (acd 16) (λ_ _ _ _ h=>ajr h)
abbrev RD:=Q2->Option Q3
def gX(k:RD):aq:=⟨91,[ir,Mu],bF,[(true,0,cz)],λs=>k (s.1,s.2.1,s.2.2.1,s.2.2.2.1,s.2.2.2.2.1,s.2.2.2.2.2)⟩
abbrev OK0(k:RD):Prop:=Ko (gX k)
abbrev UJ:=Q2->Option Q3
def gT(k:UJ):aq:=⟨91,[ir,MO],bF,[(true,0,cz)],λs=>k (s.1,s.2.1,s.2.2.1,s.2.2.2.1,s.2.2.2.2.1,s.2.2.2.2.2)⟩
abbrev OK1(k:UJ):Prop:=Ko (gT k)
abbrev S8:=Q2->Option Q3
def gU(k:S8):aq:=⟨91,[ir,Mh],bF,[(true,0,cz)],λs=>k (s.1,s.2.1,s.2.2.1,s.2.2.2.1,s.2.2.2.2.1,s.2.2.2.2.2)⟩
abbrev OK2(k:S8):Prop:=Ko (gU k)
abbrev Sa:=Q2->Option Q3
def gW(k:Sa):aq:=⟨91,[ir,Me],bF,[(true,0,cz)],λs=>k (s.1,s.2.1,s.2.2.1,s.2.2.2.1,s.2.2.2.2.1,s.2.2.2.2.2)⟩
abbrev OK3(k:Sa):Prop:=Ko (gW k)
abbrev cQ:=Q2->Option Q3
def gS(k:cQ):aq:=⟨91,[ir,(.fn 92 [] [])],bF,[(true,0,cz)],λs=>k (s.1,s.2.1,s.2.2.1,s.2.2.2.1,s.2.2.2.2.1,s.2.2.2.2.2)⟩
abbrev iJ(k:cQ):Prop:=Ko (gS k)
abbrev TK5:=Ex->Option nF
def uL(k:TK5):aq:=⟨59,[fG],(.cC [an,an,an]),[],λs=>k s⟩
abbrev OK5(k:TK5):Prop:=Ko (uL k)
abbrev Ud:=Q2->Option Q3
def iC(k:Ud):aq:=⟨91,[eQ,Mu],bF,[(true,0,cz)],λs=>k (s.1,s.2.1,s.2.2.1,s.2.2.2.1,s.2.2.2.2.1,s.2.2.2.2.2)⟩
abbrev OK6(k:Ud):Prop:=Ko (iC k)
abbrev RX:=Q2->Option Q3
def iz(k:RX):aq:=⟨91,[eQ,MO],bF,[(true,0,cz)],λs=>k (s.1,s.2.1,s.2.2.1,s.2.2.2.1,s.2.2.2.2.1,s.2.2.2.2.2)⟩
abbrev OK7(k:RX):Prop:=Ko (iz k)
abbrev RR:=Q2->Option Q3
def iD(k:RR):aq:=⟨91,[eQ,Mh],bF,[(true,0,cz)],λs=>k (s.1,s.2.1,s.2.2.1,s.2.2.2.1,s.2.2.2.2.1,s.2.2.2.2.2)⟩
abbrev OK8(k:RR):Prop:=Ko (iD k)
abbrev Rk:=Q2->Option Q3
def ix(k:Rk):aq:=⟨91,[eQ,Me],bF,[(true,0,cz)],λs=>k (s.1,s.2.1,s.2.2.1,s.2.2.2.1,s.2.2.2.2.1,s.2.2.2.2.2)⟩
abbrev OK9(k:Rk):Prop:=Ko (ix k)
abbrev bP:=Q2->Option Q3
def jZ(k:bP):aq:=⟨91,[eQ,(.fn 92 [] [])],bF,[(true,0,cz)],λs=>k (s.1,s.2.1,s.2.2.1,s.2.2.2.1,s.2.2.2.2.1,s.2.2.2.2.2)⟩
abbrev fj(k:bP):Prop:=Ko (jZ k)
abbrev GY:=Oc->Option iR
def wB(k:GY):aq:=⟨139,[fG,.bool,Bi],fG,[(true,2,Bi)],λs=>k (s.1,s.2.1,s.2.2)⟩
abbrev alI(k:GY):Prop:=Ko (wB k)
abbrev aaz:=Int->vy
def ug(k:aaz):aq:=⟨314,[an],an,[],λs=>k s⟩
abbrev ap7(k:aaz):Prop:=Ko (ug k)
abbrev Z5:=Q56->Option (Except Int Int)
def kT(k:Z5):bH:=⟨326,[agK,an,Mx],Di,none,false,false,jG,[],λs=>k (s.2.1,s.2.2,s.1)⟩
abbrev aqg(k:Z5):Prop:=po (kT k)
abbrev abV:=Q56->Option Q65
def jd(k:abV):aq:=⟨326,[ag8,an,Mx],jG,[(true,0,agd)],λs=>k (s.2.1,s.2.2,s.1)⟩
abbrev ap5(k:abV):Prop:=Ko (jd k)
abbrev abr:=Q48->Option IC
def nE(k:abr):aq:=⟨343,[aj3,an,di],an,[(true,0,ajx)],λs=>k (s.2.2.2.2.2.2.1,s.2.2.2.2.2.2.2,s.1,s.2.1,s.2.2.1,s.2.2.2.1,s.2.2.2.2.1,s.2.2.2.2.2.1)⟩
abbrev aqk(k:abr):Prop:=Ko (nE k)
abbrev aaq:=Q51->Option (Q4×Q1)
def kQ(k:aaq):aq:=⟨344,[al2,an],ez,[(true,0,abb)],λs=>k (s.2.2.2.2.2.2,s.1,s.2.1,s.2.2.1,s.2.2.2.1,s.2.2.2.2.1,s.2.2.2.2.2.1)⟩
abbrev aqb(k:aaq):Prop:=Ko (kQ k)
abbrev acy:=(Ex×Q1)->vy
def uy(k:acy):aq:=⟨162,[fG,aS],an,[],λs=>k (s.1,s.2)⟩
abbrev ap1(k:acy):Prop:=Ko (uy k)
abbrev Pp:=(Ex×Ex)->vb
def tZ(k:Pp):aq:=⟨155,[fG,fG],.bool,[],λs=>k (s.1,s.2)⟩
abbrev aor(k:Pp):Prop:=Ko (tZ k)
abbrev aa6:=Q43->Option IL
def gE(k:aa6):aq:=⟨156,[ml,(.dat uO []),ZH,LF,(.bx 232 0 true [GV]),ama],ez,[(true,2,ZH),(true,3,LF),(true,4,(.bx 232 0 true [.same])),(true,1005,GV),(true,5,(.bx 283 0 true [.same]))],λs=>k (s.1,s.2.1,s.2.2.1,s.2.2.2.1,s.2.2.2.2)⟩
abbrev aqj(k:aa6):Prop:=Ko (gE k)
abbrev aca:=(Ex×gQ)->Option aU
def Ae(k:aca):aq:=⟨121,[fG,LW],dO,[],λs=>k (s.1,s.2)⟩
abbrev ap8(k:aca):Prop:=Ko (Ae k)
abbrev aaF:=Int->Option aF
def gD(k:aaF):aq:=⟨25,[ml],.str,[],λs=>k s⟩
abbrev ap3(k:aaF):Prop:=Ko (gD k)
def acp:aq:=⟨17,[.str],(.sli .s),[],λs=>Ab s⟩
theorem Up:Ko acp:=
 aw .o call17 func17 (aj akq al)
def vM:aq:=⟨18,[(.sli .s),.str],an,[],U2 cS⟩
theorem fQ:Ko vM:=
 aw (.l ⟨[(false,8,an)],[]⟩ .o) call18 func18 al
def Ze:aq:=⟨19,[.str],AP,[],λs=>wx s⟩
theorem Qz:Ko Ze:=
 aw (.c .o (.l ⟨[(false,4,an),(false,16,an)],[]⟩ .o)) call19 func19 al
def FQ:aq:=⟨9,[.str],(.cC [wu,.bool]),[],λs=>eN s⟩
theorem pR:Ko FQ:=
 aw (.c .o (.r [] (.s (.j ⟨[(false,6,an)],[]⟩ .o (.c .o (.l ⟨[(true,2,(.bx 33 0 true [.same,.same,.same,.same,.same,.same])),(true,7,(.bx 50 0 true [an,an,an,an,an])),(false,37,an)],[]⟩ .o)))))) call9 func9 (aj Up (aj fQ (aj Qz al)))
def ahg:aq:=⟨22,[.str,aS],.str,[],U2 sa⟩
theorem IM:Ko ahg:=
 aw (.l ⟨[(false,0,.str),(false,9,an)],[]⟩ .o) call22 func22 (aj XD al)
def ad1:aq:=⟨82,[iu],.bool,[],λs=>W2 s⟩
theorem Ww:Ko ad1:=
 aw .o call82 func82 al
def Rz:aq:=⟨84,[iu],.bool,[],λs=>IG s⟩
theorem LU:Ko Rz:=
 aw .o call84 func84 al
def aiB:aq:=⟨83,[.str,(.fn 84 [] [])],.str,[],λs=>afh s⟩
theorem aam:Ko aiB:=
 aw (.l ⟨[(false,8,an)],[]⟩ .o) call83 func83 (aj LU al)
def acb:aq:=⟨127,[iu],.bool,[],λs=>Hf s⟩
theorem Dz:Ko acb:=
 aw .o call127 func127 al
def adV:aq:=⟨129,[iu],.bool,[],λs=>C1 s⟩
theorem vD:Ko adV:=
 aw .o call129 func129 al
def aaH:aq:=⟨128,[iu],.bool,[],λs=>RY s⟩
theorem Ut:Ko aaH:=
 aw .o call128 func128 (aj Dz (aj vD al))
def aa5:aq:=⟨83,[.str,(.fn 128 [] [])],.str,[],λs=>S5 s⟩
theorem UE:Ko aa5:=
 aw (.l ⟨[(false,8,an)],[]⟩ .o) call83 func83 (aj Ut al)
def ZP:aq:=⟨83,[.str,(.fn 129 [] [])],.str,[],λs=>RF s⟩
theorem Sm:Ko ZP:=
 aw (.l ⟨[(false,8,an)],[]⟩ .o) call83 func83 (aj vD al)
def adm:aq:=⟨130,[.str],AP,[],λs=>Xy s⟩
def vZ(a:(Int×aF×Nat)->Option kh):Int×aF×Nat->Option kh:=λ⟨c,s,b⟩=> bif decide (b<List.length s) then ( bif decide (1073741824<(i64.wrap ((i64.wrap (10*c))+(i64.wrap (i32.wrap ((BU s b)-48)))))) then some (0,false) else a ((i64.wrap ((i64.wrap (10*c))+(i64.wrap (i32.wrap ((BU s b)-48))))),s,(mS s b))) else ( some (c,true))
theorem OG(s:aF):∀(N:Nat) (n:Int) (p:Nat),az vZ N (n,s,p)=az (BW s) N (n,p)
 |0,_,_=>rfl
 |N+1,n,p=>by rw [W7,W7];simp only [vZ,BW,OG s N]
theorem Wz:Ko adm:=
 aX (.l ⟨[(false,4,an),(true,8,.it)],[]⟩ .o) call130 func130 al al al λs=>(show _=az vZ aB (0,s,0) from by kernel_rfl).trans (OG s aB 0 0)
def aec:aq:=⟨176,[],Bw,[],λ_=>Xd⟩
theorem V5:Ko aec:=
 aw .o call176 func176 al
def rW:aq:=⟨202,[.str,.str],.bool,[],U2 kb⟩
theorem o7:Ko rW:=
 aw .o call202 func202 al
def Jl:aq:=⟨177,[.str,.str],.bool,[],U2 yh⟩
theorem DS:Ko Jl:=
 aw .o call177 func177 (aj o7 al)
def afX:aq:=⟨131,[.str],.str,[],λs=>acX s⟩
theorem X8:Ko afX:=
 aw (.l ⟨[(false,7,an)],[]⟩ .o) call131 func131 (aj V5 (aj DS al))
def adM:aq:=⟨85,[.str],(.cC [(.dat nd []),an]),[],λs=>Xn s⟩
theorem Wh:Ko adM:=
 aw .o call85 func85 (aj Dz (aj UE (aj vD (aj Sm (aj Wz (aj X8 al))))))
def aaQ:aq:=⟨55,[.str],(.cC [(.own nd 142 true),an,an]),[],λs=>yB s⟩
theorem CC:Ko aaQ:=
 aw (.n 0 (.j ⟨[(false,5,(.own nd 142 true)),(false,6,an)],[]⟩ .o .o)) call55 func55 (aj Ww (aj aam (aj Wh al)))
def M9:aq:=⟨88,[agM],(.dat nd []),[],U7 dF⟩
theorem dN:Ko M9:=
 aw (.r [2] .o) call88 func88 al
def Ua:aq:=⟨89,[agM,an,.str],.bool,[],λs=>gu s.2.2.2.2.2.2.2.1 s.2.2.2.2.2.2.2.2 s.1 s.2.1 s.2.2.1 s.2.2.2.1 s.2.2.2.2.1 s.2.2.2.2.2.1 s.2.2.2.2.2.2.1⟩
theorem hZ:Ko Ua:=
 aw .o call89 func89 (aj dN al)
def NS:bH:=⟨90,[agM,an],EP,none,true,false,ez,[],λs=>cF s.2.2.2.2.2.2.2 s.1 s.2.1 s.2.2.1 s.2.2.2.1 s.2.2.2.2.1 s.2.2.2.2.2.1 s.2.2.2.2.2.2.1⟩
theorem eV:po NS:=
 acN .o call90 func90 (aj dN al)
def s4:aq:=⟨203,[(.sli .s),.str],.bool,[],U2 kM⟩
theorem pJ:Ko s4:=
 aw .o call203 func203 (aj fQ al)
def ag6:aq:=⟨178,[.str],.bool,[],λs=>ou s⟩
theorem mH:Ko ag6:=
 aw .o call178 func178 (aj pJ al)
def s8:aq:=⟨18,[AB,.str],an,[],U2 cV⟩
theorem fe:Ko s8:=
 aw (.l ⟨[(false,8,an)],[]⟩ .o) call18 func18 al
def pP:aq:=⟨203,[AB,.str],.bool,[],U2 fD⟩
theorem nI:Ko pP:=
 aw .o call203 func203 (aj fe al)
def Li:aq:=⟨179,[agM,.str],.bool,[],λs=>Ap s.2.2.2.2.2.2.2 s.1 s.2.1 s.2.2.1 s.2.2.2.1 s.2.2.2.2.1 s.2.2.2.2.2.1 s.2.2.2.2.2.2.1⟩
theorem FH:Ko Li:=
 aw .o call179 func179 (aj nI al)
def Ng:bH:=⟨132,[Z9,.bool],EP,none,false,false,.str,[(true,0,Qk)],λs=>tr s.2.2.2.2.2.2.2 s.1 s.2.1 s.2.2.1 s.2.2.2.1 s.2.2.2.2.1 s.2.2.2.2.2.1 s.2.2.2.2.2.2.1⟩
theorem tE:po Ng:=
 oE (.s (.s (.j ⟨[],[]⟩ .o .o))) call132 func132 (aj dN (aj mH (aj FH al))) (aj eV al) al λ_=>by kernel_rfl
def I0:bH:=⟨133,[Z9],EP,none,false,false,an,[(true,0,Qk)],U7 kS⟩
theorem DL:po I0:=
 oE (.s (.s (.j ⟨[(true,0,Qk)],[]⟩ .o (.s (.j ⟨[],[]⟩ .o .o))))) call133 func133 (aj hZ (aj dN al)) (aj eV al) al λ_=>by kernel_rfl
def Nz:bH:=⟨134,[Z9,.str],EP,none,false,false,ez,[(true,0,Qk)],λs=>er s.2.2.2.2.2.2.2 s.1 s.2.1 s.2.2.1 s.2.2.2.1 s.2.2.2.2.1 s.2.2.2.2.2.1 s.2.2.2.2.2.2.1⟩
theorem iV:po Nz:=
 oE (.j ⟨[],[]⟩ .o .o) call134 func134 (aj hZ al) (aj eV al) al λ_=>by kernel_rfl
def Nr:aq:=⟨96,[(.dat dC [])],.bool,[],λs=>uD s⟩
theorem tX:Ko Nr:=
 aw .o call96 func96 al
def Fk:aq:=⟨95,[Mm,(.fn 96 [] [])],dO,[],λs=>u6 s⟩
theorem BT:Ko Fk:=
 aw (.l ⟨[(true,5,dO),(false,13,an)],[]⟩ .o) call95 func95 (aj tX al)
def BA:aq:=⟨140,[(.sli .bo),.bool],an,[],U2 rk⟩
theorem wY:Ko BA:=
 aw (.l ⟨[(false,8,an)],[]⟩ .o) call140 func140 al
def xj:aq:=⟨94,[(.sli .bo),.bool],.bool,[],U2 fN⟩
theorem fY:Ko xj:=
 aw .o call94 func94 (aj wY al)
def Nb:aq:=⟨61,[Mm],.bool,[],λs=>CH s⟩
theorem Ih:Ko Nb:=
 aw .o call61 func61 (aj BT (aj fY al))
def ND:aq:=⟨141,[(.dat dC []),an],.bool,[],U2 nC⟩
theorem mg:Ko ND:=
 aw .o call141 func141 al
def VS:aq:=⟨97,[Mm,aS],an,[],U2 KX⟩
theorem Ni:Ko VS:=
 aw (.c .o (.l ⟨[(false,14,an)],[]⟩ .o)) call97 func97 (aj mg al)
def F9:bH:=⟨86,[(.bx 138 0 true [GS,an,Bw,Hl,fq,AB,(.own sq 299 false)])],EP,none,false,false,ez,[(true,0,(.bx 138 0 true [.same,an,Bw,Hl,fq,.same,.same]))],U7 vr⟩
theorem Ar:po F9:=
 oE (.s (.s (.s (.s (.s (.j ⟨[],[]⟩ .o (.r [0] .o))))))) call86 func86 (aj dN (aj Ih (aj Ni al))) (aj tE (aj DL (aj iV al))) al λ_=>by kernel_rfl
def Jv:aq:=⟨136,[ir,an],bF,[(true,0,(.bx 196 0 true [.same,.same,.same,.same,an,an]))],λs=>bG s.2.2.2.2.2.2 s.1 s.2.1 s.2.2.1 s.2.2.2.1 s.2.2.2.2.1 s.2.2.2.2.2.1⟩
theorem dT:Ko Jv:=
 aw (.c (.r [0] .o) .o) call136 func136 al
def Jf:aq:=⟨183,[(.bx 196 0 false [GS,an,AB,an,an,an])],(.dat nd []),[],U6 aQ⟩
theorem bN:Ko Jf:=
 aw (.r [2] .o) call183 func183 al
def MW:aq:=⟨182,[(.bx 196 0 false [GS,an,AB,an,an,an]),aS],AP,[],λs=>bn s.2.2.2.2.2.2 s.1 s.2.1 s.2.2.1 s.2.2.2.1 s.2.2.2.2.1 s.2.2.2.2.2.1⟩
theorem cr:Ko MW:=
 aw (.c .o (.l ⟨[(false,27,an)],[]⟩ .o)) call182 func182 (aj bN (aj mH al))
def JI(a:cQ):aq:=⟨228,[ir],bF,[(true,0,cz)],λs=>rZ a s.1 s.2.1 s.2.2.1 s.2.2.2.1 s.2.2.2.2.1 s.2.2.2.2.2⟩
def nZ(h:Ex->Ex)(C:Sh->(R:Type)->Option R->Option R)(B:Q2->Option Q3)(l:Q6)(at_:Int)(c:aD)(d:Int)(f:Int)(b:Int):Option Q3:= bif f != 0 then some ((Ex.mk 0 0 0 []),at_,d,f,b) else (aQ l at_ c d f b).bind λe=> (bn ([13,14]:xb) l at_ c d f b).bind λn=> bif n.2 then ( some ((Ex.mk n.1 0 e.2.2.2 []),(i64.wrap (at_+1)),d,f,b)) else ( bif e.1==2 then some ((Ex.mk 1 e.2.2.1 e.2.2.2 []),(i64.wrap (at_+1)),d,f,b) else ai (e.1==1) λp=> bD p default (ou e.2.1) λs=> ai (!s) λA=> ai (p&&A) λz=> bif z then ( (cV c e.2.1).bind λm=> bif decide (m<0) then (bG 3 l at_ c d f b).bind λj=> some ((h j.1),at_,d,j.2.1,j.2.2) else some ((Ex.mk 2 m e.2.2.2 []),(i64.wrap (at_+1)),d,f,b)) else ( ai (e.1==3) λy=> ai (e.2.1==[40]) λx=> ai (y&&x) λw=> bif w then ( (B (l,(i64.wrap (at_+1)),c,d,f,b)).bind λa=> ai (a.2.2.2.1==0) λk=> bD k default (aQ l a.2.1 c a.2.2.1 a.2.2.2.1 a.2.2.2.2) λr=> ai (r.1 != 3) λo=> bD (k&& !o) default (aQ l a.2.1 c a.2.2.1 a.2.2.2.1 a.2.2.2.2) λq=> ai (q.2.1 != [41]) λv=> ai (o||v) λu=> ai (k&&u) λt=> bif t then ( (bG 2 l a.2.1 c a.2.2.1 a.2.2.2.1 a.2.2.2.2).bind λi=> some ((h i.1),a.2.1,a.2.2.1,i.2.1,i.2.2)) else ( bif a.2.2.2.1==0 then some ((h a.1),(i64.wrap (a.2.1+1)),a.2.2.1,a.2.2.2.1,a.2.2.2.2) else some ((h a.1),a.2.1,a.2.2.1,a.2.2.2.1,a.2.2.2.2))) else ( (bG 2 l at_ c d f b).bind λg=> some ((h g.1),at_,d,g.2.1,g.2.2))))
theorem Fo(a:cQ)(d:iJ a):Ko (JI a):=
 aX (.c .o (.c .o (.c .o (.c (.r [0] .o) .o)))) call228 func228 (aj bN (aj cr (aj mH (aj fe (aj dT (aj d al)))))) al al λs=>(show _=nZ bk aM a s.1 s.2.1 s.2.2.1 s.2.2.2.1 s.2.2.2.2.1 s.2.2.2.2.2 from by kernel_rfl).trans ((congrArg (λb=>nZ b aM a s.1 s.2.1 s.2.2.1 s.2.2.2.1 s.2.2.2.2.1 s.2.2.2.2.2) aJ).trans ((congrArg (λe=>nZ id e a s.1 s.2.1 s.2.2.1 s.2.2.2.1 s.2.2.2.2.1 s.2.2.2.2.2) aN).trans (by kernel_rfl)))
def Fw(a:cQ)(b:RD):aq:=⟨222,[ir,Mu,(.fn 228 [] []),aS],bF,[(true,0,cz)],λs=>nn a b s.2.2.2.2.2.2 s.1 s.2.1 s.2.2.1 s.2.2.2.1 s.2.2.2.2.1 s.2.2.2.2.2.1⟩
def lf(h:Ex->Ex)(m:Sh->(R:Type)->Option R->Option R)(k:Q2->Option Q3)(j:Q2->Option Q3)(ops:Q1)(l:Q6)(at_:Int)(b:aD)(c:Int)(f:Int)(a:Int):Option Q3:= (bn ops l at_ b c f a).bind λg=> bif !g.2 then (rZ k l at_ b c f a).bind λe=> some ((h e.1),e.2.1,e.2.2.1,e.2.2.2.1,e.2.2.2.2) else (aQ l at_ b c f a).bind λi=> (j (l,(i64.wrap (at_+1)),b,c,f,a)).bind λd=> some ((Ex.mk g.1 0 i.2.2.2 ([(h d.1)]:List Ex)),d.2.1,d.2.2.1,d.2.2.2.1,d.2.2.2.2)
theorem AA(a:cQ)(e:iJ a)(b:RD)(f:OK0 b):Ko (Fw a b):=
 aX (.c .o (.r [0,8] .o)) call222 func222 (aj cr (aj (Fo a e) (aj bN (aj f al)))) al al λs=>(show _=lf bk aM a b s.2.2.2.2.2.2 s.1 s.2.1 s.2.2.1 s.2.2.2.1 s.2.2.2.2.1 s.2.2.2.2.2.1 from by kernel_rfl).trans ((congrArg (λd=>lf d aM a b s.2.2.2.2.2.2 s.1 s.2.1 s.2.2.1 s.2.2.2.1 s.2.2.2.2.1 s.2.2.2.2.2.1) aJ).trans ((congrArg (λg=>lf id g a b s.2.2.2.2.2.2 s.1 s.2.1 s.2.2.1 s.2.2.2.1 s.2.2.2.2.1 s.2.2.2.2.2.1) aN).trans (by kernel_rfl)))
def KC(a:cQ)(b:RD):aq:=⟨227,[ir],bF,[(true,0,cz)],λs=>sb a b s.1 s.2.1 s.2.2.1 s.2.2.2.1 s.2.2.2.2.1 s.2.2.2.2.2⟩
def nN(e:Ex->Ex)(i:Sh->(R:Type)->Option R->Option R)(h:Q2->Option Q3)(g:Q2->Option Q3)(l:Q6)(at_:Int)(c:aD)(d:Int)(f:Int)(b:Int):Option Q3:= (nn h g ([6]:xb) l at_ c d f b).bind λa=> some ((e a.1),a.2.1,a.2.2.1,a.2.2.2.1,a.2.2.2.2)
theorem FP(a:cQ)(d:iJ a)(b:RD)(e:OK0 b):Ko (KC a b):=
 aX .o call227 func227 (aj (AA a d b e) al) al al λs=>(show _=nN bk aM a b s.1 s.2.1 s.2.2.1 s.2.2.2.1 s.2.2.2.2.1 s.2.2.2.2.2 from by kernel_rfl).trans ((congrArg (λc=>nN c aM a b s.1 s.2.1 s.2.2.1 s.2.2.2.1 s.2.2.2.2.1 s.2.2.2.2.2) aJ).trans ((congrArg (λf=>nN id f a b s.1 s.2.1 s.2.2.1 s.2.2.2.1 s.2.2.2.2.1 s.2.2.2.2.2) aN).trans (by kernel_rfl)))
def sK(a:cQ):aq:=⟨91,[ir,Mu],bF,[(true,0,cz)],λs=>mW a s.1 s.2.1 s.2.2.1 s.2.2.2.1 s.2.2.2.2.1 s.2.2.2.2.2⟩
def jM(f:Ex->Ex)(j:Sh->(R:Type)->Option R->Option R)(i:Q2->Option Q3)(h:Q2->Option Q3)(l:Q6)(at_:Int)(d:aD)(a:Int)(g:Int)(c:Int):Option Q3:= bif decide (320<=a) then (bG 9 l at_ d a g c).bind λe=> some ((f e.1),at_,a,e.2.1,e.2.2) else (sb i h l at_ d (i64.wrap (a+1)) g c).bind λb=> some ((f b.1),b.2.1,(i64.wrap (b.2.2.1-1)),b.2.2.2.1,b.2.2.2.2)
def sN(a:cQ):RD->RD:=λb s=>sV a b s.1 s.2.1 s.2.2.1 s.2.2.2.1 s.2.2.2.2.1 s.2.2.2.2.2
theorem xP(a:cQ)(d:iJ a)(b:RD)(e:OK0 b):(gX (sN a b)).Ok X0.P X0.Γ:=
 aX .o call91 func91 (aj dT (aj (FP a d b e) al)) al al λs=>(show _=jM bk aM a b s.1 s.2.1 s.2.2.1 s.2.2.2.1 s.2.2.2.2.1 s.2.2.2.2.2 from by kernel_rfl).trans ((congrArg (λc=>jM c aM a b s.1 s.2.1 s.2.2.1 s.2.2.2.1 s.2.2.2.2.1 s.2.2.2.2.2) aJ).trans ((congrArg (λf=>jM id f a b s.1 s.2.1 s.2.2.1 s.2.2.2.1 s.2.2.2.2.1 s.2.2.2.2.2) aN).trans (by kernel_rfl)))
theorem AW(a:cQ)(b:iJ a):Ko (sK a):=(show sK a=gX (az (sN a) aB) by kernel_rfl)▸dL (X:=X0) (E:=gX) ⟨call91,λ_ _ h=>nomatch h⟩ (xP a b) aB
def DP(a:cQ):aq:=⟨226,[ir],bF,[(true,0,cz)],λs=>gb a s.1 s.2.1 s.2.2.1 s.2.2.2.1 s.2.2.2.2.1 s.2.2.2.2.2⟩
def kB(e:Ex->Ex)(h:Sh->(R:Type)->Option R->Option R)(g:Q2->Option Q3)(l:Q6)(at_:Int)(c:aD)(d:Int)(f:Int)(b:Int):Option Q3:= (mW g l at_ c d f b).bind λa=> some ((e a.1),a.2.1,a.2.2.1,a.2.2.2.1,a.2.2.2.2)
theorem yU(a:cQ)(c:iJ a):Ko (DP a):=
 aX .o call226 func226 (aj (AW a c) al) al al λs=>(show _=kB bk aM a s.1 s.2.1 s.2.2.1 s.2.2.2.1 s.2.2.2.2.1 s.2.2.2.2.2 from by kernel_rfl).trans ((congrArg (λb=>kB b aM a s.1 s.2.1 s.2.2.1 s.2.2.2.1 s.2.2.2.2.1 s.2.2.2.2.2) aJ).trans ((congrArg (λd=>kB id d a s.1 s.2.1 s.2.2.1 s.2.2.2.1 s.2.2.2.2.1 s.2.2.2.2.2) aN).trans (by kernel_rfl)))
def Ib(a:cQ):aq:=⟨214,[ir,(.fn 226 [] []),aS],bF,[(true,0,cz)],λs=>nQ a s.2.2.2.2.2.2 s.1 s.2.1 s.2.2.1 s.2.2.2.1 s.2.2.2.2.1 s.2.2.2.2.2.1⟩
def Cj(o:Ex->Ex)(q:Sh->(R:Type)->Option R->Option R)(p:Q2->Option Q3)(ops:Q1)(l:Q6)(a:aD)(g:yo->Option Q3):Int×Int×Int×Int×Int×Int×Int×(List Ex)->Option Q3:=λ⟨f,e,b,d,k,j,i,h⟩=> bif b==0 then (bn ops l f a e b d).bind λm=> bif !m.2 then some ((Ex.mk k j i h),f,e,b,d) else (aQ l f a e b d).bind λn=> (gb p l (i64.wrap (f+1)) a e b d).bind λc=> g (c.2.1,c.2.2.1,c.2.2.2.1,c.2.2.2.2,m.1,0,n.2.2.2,([(Ex.mk k j i h),(o c.1)]:List Ex)) else some ((Ex.mk k j i h),f,e,b,d)
def lR(e:Ex->Ex)(h:Sh->(R:Type)->Option R->Option R)(g:Q2->Option Q3)(ops:Q1)(l:Q6)(at_:Int)(b:aD)(d:Int)(f:Int)(c:Int):Option Q3:= (gb g l at_ b d f c).bind λa=> az (Cj e h g ops l b) aB (a.2.1,a.2.2.1,a.2.2.2.1,a.2.2.2.2,a.1.op,a.1.n,a.1.at_,a.1.l)
theorem Cl(a:cQ)(c:iJ a):Ko (Ib a):=
 aX (.l ⟨[(true,0,cz),(true,6,GU),(true,7,KI)],[]⟩ .o) call214 func214 (aj (yU a c) (aj cr (aj bN al))) al al λs=>(show _=lR bk aM a s.2.2.2.2.2.2 s.1 s.2.1 s.2.2.1 s.2.2.2.1 s.2.2.2.2.1 s.2.2.2.2.2.1 from by kernel_rfl).trans ((congrArg (λb=>lR b aM a s.2.2.2.2.2.2 s.1 s.2.1 s.2.2.1 s.2.2.2.1 s.2.2.2.2.1 s.2.2.2.2.2.1) aJ).trans ((congrArg (λd=>lR id d a s.2.2.2.2.2.2 s.1 s.2.1 s.2.2.1 s.2.2.2.1 s.2.2.2.2.1 s.2.2.2.2.2.1) aN).trans (by kernel_rfl)))
def JE(a:cQ):aq:=⟨225,[ir],bF,[(true,0,cz)],λs=>iQ a s.1 s.2.1 s.2.2.1 s.2.2.2.1 s.2.2.2.2.1 s.2.2.2.2.2⟩
def mX(e:Ex->Ex)(h:Sh->(R:Type)->Option R->Option R)(g:Q2->Option Q3)(l:Q6)(at_:Int)(c:aD)(d:Int)(f:Int)(b:Int):Option Q3:= (nQ g ([5]:xb) l at_ c d f b).bind λa=> some ((e a.1),a.2.1,a.2.2.1,a.2.2.2.1,a.2.2.2.2)
theorem DM(a:cQ)(c:iJ a):Ko (JE a):=
 aX .o call225 func225 (aj (Cl a c) al) al al λs=>(show _=mX bk aM a s.1 s.2.1 s.2.2.1 s.2.2.2.1 s.2.2.2.2.1 s.2.2.2.2.2 from by kernel_rfl).trans ((congrArg (λb=>mX b aM a s.1 s.2.1 s.2.2.1 s.2.2.2.1 s.2.2.2.2.1 s.2.2.2.2.2) aJ).trans ((congrArg (λd=>mX id d a s.1 s.2.1 s.2.2.1 s.2.2.2.1 s.2.2.2.2.1 s.2.2.2.2.2) aN).trans (by kernel_rfl)))
def HN(a:cQ):aq:=⟨214,[ir,(.fn 225 [] []),aS],bF,[(true,0,cz)],λs=>oI a s.2.2.2.2.2.2 s.1 s.2.1 s.2.2.1 s.2.2.2.1 s.2.2.2.2.1 s.2.2.2.2.2.1⟩
def B9(o:Ex->Ex)(q:Sh->(R:Type)->Option R->Option R)(p:Q2->Option Q3)(ops:Q1)(l:Q6)(a:aD)(g:yo->Option Q3):Int×Int×Int×Int×Int×Int×Int×(List Ex)->Option Q3:=λ⟨f,e,b,d,k,j,i,h⟩=> bif b==0 then (bn ops l f a e b d).bind λm=> bif !m.2 then some ((Ex.mk k j i h),f,e,b,d) else (aQ l f a e b d).bind λn=> (iQ p l (i64.wrap (f+1)) a e b d).bind λc=> g (c.2.1,c.2.2.1,c.2.2.2.1,c.2.2.2.2,m.1,0,n.2.2.2,([(Ex.mk k j i h),(o c.1)]:List Ex)) else some ((Ex.mk k j i h),f,e,b,d)
def mB(e:Ex->Ex)(h:Sh->(R:Type)->Option R->Option R)(g:Q2->Option Q3)(ops:Q1)(l:Q6)(at_:Int)(b:aD)(d:Int)(f:Int)(c:Int):Option Q3:= (iQ g l at_ b d f c).bind λa=> az (B9 e h g ops l b) aB (a.2.1,a.2.2.1,a.2.2.2.1,a.2.2.2.2,a.1.op,a.1.n,a.1.at_,a.1.l)
theorem B2(a:cQ)(c:iJ a):Ko (HN a):=
 aX (.l ⟨[(true,0,cz),(true,6,GU),(true,7,KI)],[]⟩ .o) call214 func214 (aj (DM a c) (aj cr (aj bN al))) al al λs=>(show _=mB bk aM a s.2.2.2.2.2.2 s.1 s.2.1 s.2.2.1 s.2.2.2.1 s.2.2.2.2.1 s.2.2.2.2.2.1 from by kernel_rfl).trans ((congrArg (λb=>mB b aM a s.2.2.2.2.2.2 s.1 s.2.1 s.2.2.1 s.2.2.2.1 s.2.2.2.2.1 s.2.2.2.2.2.1) aJ).trans ((congrArg (λd=>mB id d a s.2.2.2.2.2.2 s.1 s.2.1 s.2.2.1 s.2.2.2.1 s.2.2.2.2.1 s.2.2.2.2.2.1) aN).trans (by kernel_rfl)))
def L5(a:cQ):aq:=⟨224,[ir],bF,[(true,0,cz)],λs=>jq a s.1 s.2.1 s.2.2.1 s.2.2.2.1 s.2.2.2.2.1 s.2.2.2.2.2⟩
def oF(e:Ex->Ex)(h:Sh->(R:Type)->Option R->Option R)(g:Q2->Option Q3)(l:Q6)(at_:Int)(c:aD)(d:Int)(f:Int)(b:Int):Option Q3:= (oI g ([3,4]:xb) l at_ c d f b).bind λa=> some ((e a.1),a.2.1,a.2.2.1,a.2.2.2.1,a.2.2.2.2)
theorem F1(a:cQ)(c:iJ a):Ko (L5 a):=
 aX .o call224 func224 (aj (B2 a c) al) al al λs=>(show _=oF bk aM a s.1 s.2.1 s.2.2.1 s.2.2.2.1 s.2.2.2.2.1 s.2.2.2.2.2 from by kernel_rfl).trans ((congrArg (λb=>oF b aM a s.1 s.2.1 s.2.2.1 s.2.2.2.1 s.2.2.2.2.1 s.2.2.2.2.2) aJ).trans ((congrArg (λd=>oF id d a s.1 s.2.1 s.2.2.1 s.2.2.2.1 s.2.2.2.2.1 s.2.2.2.2.2) aN).trans (by kernel_rfl)))
def Lm(a:cQ):aq:=⟨223,[ir],bF,[(true,0,cz)],λs=>rO a s.1 s.2.1 s.2.2.1 s.2.2.2.1 s.2.2.2.2.1 s.2.2.2.2.2⟩
def ot(e:Ex->Ex)(o:Sh->(R:Type)->Option R->Option R)(n:Q2->Option Q3)(l:Q6)(at_:Int)(b:aD)(g:Int)(i:Int)(d:Int):Option Q3:= (jq n l at_ b g i d).bind λa=> (bn ([7,8,9,10,11,12]:xb) l a.2.1 b a.2.2.1 a.2.2.2.1 a.2.2.2.2).bind λf=> ai (a.2.2.2.1 != 0) λm=> ai (!f.2) λk=> ai (m||k) λj=> bif j then ( some ((e a.1),a.2.1,a.2.2.1,a.2.2.2.1,a.2.2.2.2)) else ( (aQ l a.2.1 b a.2.2.1 a.2.2.2.1 a.2.2.2.2).bind λh=> (jq n l (i64.wrap (a.2.1+1)) b a.2.2.1 a.2.2.2.1 a.2.2.2.2).bind λc=> some ((Ex.mk f.1 0 h.2.2.2 ([(e a.1),(e c.1)]:List Ex)),c.2.1,c.2.2.1,c.2.2.2.1,c.2.2.2.2))
theorem FM(a:cQ)(c:iJ a):Ko (Lm a):=
 aX .o call223 func223 (aj (F1 a c) (aj cr (aj bN al))) al al λs=>(show _=ot bk aM a s.1 s.2.1 s.2.2.1 s.2.2.2.1 s.2.2.2.2.1 s.2.2.2.2.2 from by kernel_rfl).trans ((congrArg (λb=>ot b aM a s.1 s.2.1 s.2.2.1 s.2.2.2.1 s.2.2.2.2.1 s.2.2.2.2.2) aJ).trans ((congrArg (λd=>ot id d a s.1 s.2.1 s.2.2.1 s.2.2.2.1 s.2.2.2.2.1 s.2.2.2.2.2) aN).trans (by kernel_rfl)))
def Fy(a:cQ)(b:UJ):aq:=⟨222,[ir,MO,(.fn 223 [] []),aS],bF,[(true,0,cz)],λs=>nu a b s.2.2.2.2.2.2 s.1 s.2.1 s.2.2.1 s.2.2.2.1 s.2.2.2.2.1 s.2.2.2.2.2.1⟩
def lD(h:Ex->Ex)(m:Sh->(R:Type)->Option R->Option R)(k:Q2->Option Q3)(j:Q2->Option Q3)(ops:Q1)(l:Q6)(at_:Int)(b:aD)(c:Int)(f:Int)(a:Int):Option Q3:= (bn ops l at_ b c f a).bind λg=> bif !g.2 then (rO k l at_ b c f a).bind λe=> some ((h e.1),e.2.1,e.2.2.1,e.2.2.2.1,e.2.2.2.2) else (aQ l at_ b c f a).bind λi=> (j (l,(i64.wrap (at_+1)),b,c,f,a)).bind λd=> some ((Ex.mk g.1 0 i.2.2.2 ([(h d.1)]:List Ex)),d.2.1,d.2.2.1,d.2.2.2.1,d.2.2.2.2)
theorem BH(a:cQ)(e:iJ a)(b:UJ)(f:OK1 b):Ko (Fy a b):=
 aX (.c .o (.r [0,8] .o)) call222 func222 (aj cr (aj (FM a e) (aj bN (aj f al)))) al al λs=>(show _=lD bk aM a b s.2.2.2.2.2.2 s.1 s.2.1 s.2.2.1 s.2.2.2.1 s.2.2.2.2.1 s.2.2.2.2.2.1 from by kernel_rfl).trans ((congrArg (λd=>lD d aM a b s.2.2.2.2.2.2 s.1 s.2.1 s.2.2.1 s.2.2.2.1 s.2.2.2.2.1 s.2.2.2.2.2.1) aJ).trans ((congrArg (λg=>lD id g a b s.2.2.2.2.2.2 s.1 s.2.1 s.2.2.1 s.2.2.2.1 s.2.2.2.2.1 s.2.2.2.2.2.1) aN).trans (by kernel_rfl)))
def Lq(a:cQ)(b:UJ):aq:=⟨221,[ir],bF,[(true,0,cz)],λs=>rS a b s.1 s.2.1 s.2.2.1 s.2.2.2.1 s.2.2.2.2.1 s.2.2.2.2.2⟩
def od(e:Ex->Ex)(i:Sh->(R:Type)->Option R->Option R)(h:Q2->Option Q3)(g:Q2->Option Q3)(l:Q6)(at_:Int)(c:aD)(d:Int)(f:Int)(b:Int):Option Q3:= (nu h g ([15,20,21,22]:xb) l at_ c d f b).bind λa=> some ((e a.1),a.2.1,a.2.2.1,a.2.2.2.1,a.2.2.2.2)
theorem Ft(a:cQ)(d:iJ a)(b:UJ)(e:OK1 b):Ko (Lq a b):=
 aX .o call221 func221 (aj (BH a d b e) al) al al λs=>(show _=od bk aM a b s.1 s.2.1 s.2.2.1 s.2.2.2.1 s.2.2.2.2.1 s.2.2.2.2.2 from by kernel_rfl).trans ((congrArg (λc=>od c aM a b s.1 s.2.1 s.2.2.1 s.2.2.2.1 s.2.2.2.2.1 s.2.2.2.2.2) aJ).trans ((congrArg (λf=>od id f a b s.1 s.2.1 s.2.2.1 s.2.2.2.1 s.2.2.2.2.1 s.2.2.2.2.2) aN).trans (by kernel_rfl)))
def sy(a:cQ):aq:=⟨91,[ir,MO],bF,[(true,0,cz)],λs=>nr a s.1 s.2.1 s.2.2.1 s.2.2.2.1 s.2.2.2.2.1 s.2.2.2.2.2⟩
def jQ(f:Ex->Ex)(j:Sh->(R:Type)->Option R->Option R)(i:Q2->Option Q3)(h:Q2->Option Q3)(l:Q6)(at_:Int)(d:aD)(a:Int)(g:Int)(c:Int):Option Q3:= bif decide (320<=a) then (bG 9 l at_ d a g c).bind λe=> some ((f e.1),at_,a,e.2.1,e.2.2) else (rS i h l at_ d (i64.wrap (a+1)) g c).bind λb=> some ((f b.1),b.2.1,(i64.wrap (b.2.2.1-1)),b.2.2.2.1,b.2.2.2.2)
def sQ(a:cQ):UJ->UJ:=λb s=>sX a b s.1 s.2.1 s.2.2.1 s.2.2.2.1 s.2.2.2.2.1 s.2.2.2.2.2
theorem xZ(a:cQ)(d:iJ a)(b:UJ)(e:OK1 b):(gT (sQ a b)).Ok X0.P X0.Γ:=
 aX .o call91 func91 (aj dT (aj (Ft a d b e) al)) al al λs=>(show _=jQ bk aM a b s.1 s.2.1 s.2.2.1 s.2.2.2.1 s.2.2.2.2.1 s.2.2.2.2.2 from by kernel_rfl).trans ((congrArg (λc=>jQ c aM a b s.1 s.2.1 s.2.2.1 s.2.2.2.1 s.2.2.2.2.1 s.2.2.2.2.2) aJ).trans ((congrArg (λf=>jQ id f a b s.1 s.2.1 s.2.2.1 s.2.2.2.1 s.2.2.2.2.1 s.2.2.2.2.2) aN).trans (by kernel_rfl)))
theorem BL(a:cQ)(b:iJ a):Ko (sy a):=(show sy a=gT (az (sQ a) aB) by kernel_rfl)▸dL (X:=X0) (E:=gT) ⟨call91,λ_ _ h=>nomatch h⟩ (xZ a b) aB
def Eg(a:cQ):aq:=⟨220,[ir],bF,[(true,0,cz)],λs=>lS a s.1 s.2.1 s.2.2.1 s.2.2.2.1 s.2.2.2.2.1 s.2.2.2.2.2⟩
def kA(e:Ex->Ex)(h:Sh->(R:Type)->Option R->Option R)(g:Q2->Option Q3)(l:Q6)(at_:Int)(c:aD)(d:Int)(f:Int)(b:Int):Option Q3:= (nr g l at_ c d f b).bind λa=> some ((e a.1),a.2.1,a.2.2.1,a.2.2.2.1,a.2.2.2.2)
theorem yK(a:cQ)(c:iJ a):Ko (Eg a):=
 aX .o call220 func220 (aj (BL a c) al) al al λs=>(show _=kA bk aM a s.1 s.2.1 s.2.2.1 s.2.2.2.1 s.2.2.2.2.1 s.2.2.2.2.2 from by kernel_rfl).trans ((congrArg (λb=>kA b aM a s.1 s.2.1 s.2.2.1 s.2.2.2.1 s.2.2.2.2.1 s.2.2.2.2.2) aJ).trans ((congrArg (λd=>kA id d a s.1 s.2.1 s.2.2.1 s.2.2.2.1 s.2.2.2.2.1 s.2.2.2.2.2) aN).trans (by kernel_rfl)))
def HI(a:cQ)(b:S8):aq:=⟨137,[ir,(.fn 220 [] []),Mh,aS],bF,[(true,0,cz)],λs=>nU a b s.2.2.2.2.2.2 s.1 s.2.1 s.2.2.1 s.2.2.2.1 s.2.2.2.2.1 s.2.2.2.2.2.1⟩
def mf(e:Ex->Ex)(p:Sh->(R:Type)->Option R->Option R)(o:Q2->Option Q3)(n:Q2->Option Q3)(ops:Q1)(l:Q6)(at_:Int)(b:aD)(g:Int)(i:Int)(d:Int):Option Q3:= (lS o l at_ b g i d).bind λa=> (bn ops l a.2.1 b a.2.2.1 a.2.2.2.1 a.2.2.2.2).bind λf=> ai (a.2.2.2.1 != 0) λm=> ai (!f.2) λk=> ai (m||k) λj=> bif j then ( some ((e a.1),a.2.1,a.2.2.1,a.2.2.2.1,a.2.2.2.2)) else ( (aQ l a.2.1 b a.2.2.1 a.2.2.2.1 a.2.2.2.2).bind λh=> (n (l,(i64.wrap (a.2.1+1)),b,a.2.2.1,a.2.2.2.1,a.2.2.2.2)).bind λc=> some ((Ex.mk f.1 0 h.2.2.2 ([(e a.1),(e c.1)]:List Ex)),c.2.1,c.2.2.1,c.2.2.2.1,c.2.2.2.2))
theorem B8(a:cQ)(d:iJ a)(b:S8)(e:OK2 b):Ko (HI a b):=
 aX .o call137 func137 (aj (yK a d) (aj cr (aj bN (aj e al)))) al al λs=>(show _=mf bk aM a b s.2.2.2.2.2.2 s.1 s.2.1 s.2.2.1 s.2.2.2.1 s.2.2.2.2.1 s.2.2.2.2.2.1 from by kernel_rfl).trans ((congrArg (λc=>mf c aM a b s.2.2.2.2.2.2 s.1 s.2.1 s.2.2.1 s.2.2.2.1 s.2.2.2.2.1 s.2.2.2.2.2.1) aJ).trans ((congrArg (λf=>mf id f a b s.2.2.2.2.2.2 s.1 s.2.1 s.2.2.1 s.2.2.2.1 s.2.2.2.2.1 s.2.2.2.2.2.1) aN).trans (by kernel_rfl)))
def Ir(a:cQ)(b:S8):aq:=⟨219,[ir],bF,[(true,0,cz)],λs=>ov a b s.1 s.2.1 s.2.2.1 s.2.2.2.1 s.2.2.2.2.1 s.2.2.2.2.2⟩
def mz(e:Ex->Ex)(i:Sh->(R:Type)->Option R->Option R)(h:Q2->Option Q3)(g:Q2->Option Q3)(l:Q6)(at_:Int)(c:aD)(d:Int)(f:Int)(b:Int):Option Q3:= (nU h g ([23,24]:xb) l at_ c d f b).bind λa=> some ((e a.1),a.2.1,a.2.2.1,a.2.2.2.1,a.2.2.2.2)
theorem Cy(a:cQ)(d:iJ a)(b:S8)(e:OK2 b):Ko (Ir a b):=
 aX .o call219 func219 (aj (B8 a d b e) al) al al λs=>(show _=mz bk aM a b s.1 s.2.1 s.2.2.1 s.2.2.2.1 s.2.2.2.2.1 s.2.2.2.2.2 from by kernel_rfl).trans ((congrArg (λc=>mz c aM a b s.1 s.2.1 s.2.2.1 s.2.2.2.1 s.2.2.2.2.1 s.2.2.2.2.2) aJ).trans ((congrArg (λf=>mz id f a b s.1 s.2.1 s.2.2.1 s.2.2.2.1 s.2.2.2.2.1 s.2.2.2.2.2) aN).trans (by kernel_rfl)))
def sR(a:cQ):aq:=⟨91,[ir,Mh],bF,[(true,0,cz)],λs=>mY a s.1 s.2.1 s.2.2.1 s.2.2.2.1 s.2.2.2.2.1 s.2.2.2.2.2⟩
def jO(f:Ex->Ex)(j:Sh->(R:Type)->Option R->Option R)(i:Q2->Option Q3)(h:Q2->Option Q3)(l:Q6)(at_:Int)(d:aD)(a:Int)(g:Int)(c:Int):Option Q3:= bif decide (320<=a) then (bG 9 l at_ d a g c).bind λe=> some ((f e.1),at_,a,e.2.1,e.2.2) else (ov i h l at_ d (i64.wrap (a+1)) g c).bind λb=> some ((f b.1),b.2.1,(i64.wrap (b.2.2.1-1)),b.2.2.2.1,b.2.2.2.2)
def sE(a:cQ):S8->S8:=λb s=>sA a b s.1 s.2.1 s.2.2.1 s.2.2.2.1 s.2.2.2.2.1 s.2.2.2.2.2
theorem yc(a:cQ)(d:iJ a)(b:S8)(e:OK2 b):(gU (sE a b)).Ok X0.P X0.Γ:=
 aX .o call91 func91 (aj dT (aj (Cy a d b e) al)) al al λs=>(show _=jO bk aM a b s.1 s.2.1 s.2.2.1 s.2.2.2.1 s.2.2.2.2.1 s.2.2.2.2.2 from by kernel_rfl).trans ((congrArg (λc=>jO c aM a b s.1 s.2.1 s.2.2.1 s.2.2.2.1 s.2.2.2.2.1 s.2.2.2.2.2) aJ).trans ((congrArg (λf=>jO id f a b s.1 s.2.1 s.2.2.1 s.2.2.2.1 s.2.2.2.2.1 s.2.2.2.2.2) aN).trans (by kernel_rfl)))
theorem BD(a:cQ)(b:iJ a):Ko (sR a):=(show sR a=gU (az (sE a) aB) by kernel_rfl)▸dL (X:=X0) (E:=gU) ⟨call91,λ_ _ h=>nomatch h⟩ (yc a b) aB
def Bo(a:cQ):aq:=⟨218,[ir],bF,[(true,0,cz)],λs=>fv a s.1 s.2.1 s.2.2.1 s.2.2.2.1 s.2.2.2.2.1 s.2.2.2.2.2⟩
def jx(e:Ex->Ex)(h:Sh->(R:Type)->Option R->Option R)(g:Q2->Option Q3)(l:Q6)(at_:Int)(c:aD)(d:Int)(f:Int)(b:Int):Option Q3:= (mY g l at_ c d f b).bind λa=> some ((e a.1),a.2.1,a.2.2.1,a.2.2.2.1,a.2.2.2.2)
theorem xp(a:cQ)(c:iJ a):Ko (Bo a):=
 aX .o call218 func218 (aj (BD a c) al) al al λs=>(show _=jx bk aM a s.1 s.2.1 s.2.2.1 s.2.2.2.1 s.2.2.2.2.1 s.2.2.2.2.2 from by kernel_rfl).trans ((congrArg (λb=>jx b aM a s.1 s.2.1 s.2.2.1 s.2.2.2.1 s.2.2.2.2.1 s.2.2.2.2.2) aJ).trans ((congrArg (λd=>jx id d a s.1 s.2.1 s.2.2.1 s.2.2.2.1 s.2.2.2.2.1 s.2.2.2.2.2) aN).trans (by kernel_rfl)))
def HF(a:cQ):aq:=⟨214,[ir,(.fn 218 [] []),aS],bF,[(true,0,cz)],λs=>oO a s.2.2.2.2.2.2 s.1 s.2.1 s.2.2.1 s.2.2.2.1 s.2.2.2.2.1 s.2.2.2.2.2.1⟩
def B5(o:Ex->Ex)(q:Sh->(R:Type)->Option R->Option R)(p:Q2->Option Q3)(ops:Q1)(l:Q6)(a:aD)(g:yo->Option Q3):Int×Int×Int×Int×Int×Int×Int×(List Ex)->Option Q3:=λ⟨f,e,b,d,k,j,i,h⟩=> bif b==0 then (bn ops l f a e b d).bind λm=> bif !m.2 then some ((Ex.mk k j i h),f,e,b,d) else (aQ l f a e b d).bind λn=> (fv p l (i64.wrap (f+1)) a e b d).bind λc=> g (c.2.1,c.2.2.1,c.2.2.2.1,c.2.2.2.2,m.1,0,n.2.2.2,([(Ex.mk k j i h),(o c.1)]:List Ex)) else some ((Ex.mk k j i h),f,e,b,d)
def mb(e:Ex->Ex)(h:Sh->(R:Type)->Option R->Option R)(g:Q2->Option Q3)(ops:Q1)(l:Q6)(at_:Int)(b:aD)(d:Int)(f:Int)(c:Int):Option Q3:= (fv g l at_ b d f c).bind λa=> az (B5 e h g ops l b) aB (a.2.1,a.2.2.1,a.2.2.2.1,a.2.2.2.2,a.1.op,a.1.n,a.1.at_,a.1.l)
theorem Ch(a:cQ)(c:iJ a):Ko (HF a):=
 aX (.l ⟨[(true,0,cz),(true,6,GU),(true,7,KI)],[]⟩ .o) call214 func214 (aj (xp a c) (aj cr (aj bN al))) al al λs=>(show _=mb bk aM a s.2.2.2.2.2.2 s.1 s.2.1 s.2.2.1 s.2.2.2.1 s.2.2.2.2.1 s.2.2.2.2.2.1 from by kernel_rfl).trans ((congrArg (λb=>mb b aM a s.2.2.2.2.2.2 s.1 s.2.1 s.2.2.1 s.2.2.2.1 s.2.2.2.2.1 s.2.2.2.2.2.1) aJ).trans ((congrArg (λd=>mb id d a s.2.2.2.2.2.2 s.1 s.2.1 s.2.2.1 s.2.2.2.1 s.2.2.2.2.1 s.2.2.2.2.2.1) aN).trans (by kernel_rfl)))
def JT(a:cQ):aq:=⟨215,[ir],bF,[(true,0,cz)],λs=>jv a s.1 s.2.1 s.2.2.1 s.2.2.2.1 s.2.2.2.2.1 s.2.2.2.2.2⟩
def oJ(e:Ex->Ex)(h:Sh->(R:Type)->Option R->Option R)(g:Q2->Option Q3)(l:Q6)(at_:Int)(c:aD)(d:Int)(f:Int)(b:Int):Option Q3:= (oO g ([16]:xb) l at_ c d f b).bind λa=> some ((e a.1),a.2.1,a.2.2.1,a.2.2.2.1,a.2.2.2.2)
theorem Fz(a:cQ)(c:iJ a):Ko (JT a):=
 aX .o call215 func215 (aj (Ch a c) al) al al λs=>(show _=oJ bk aM a s.1 s.2.1 s.2.2.1 s.2.2.2.1 s.2.2.2.2.1 s.2.2.2.2.2 from by kernel_rfl).trans ((congrArg (λb=>oJ b aM a s.1 s.2.1 s.2.2.1 s.2.2.2.1 s.2.2.2.2.1 s.2.2.2.2.2) aJ).trans ((congrArg (λd=>oJ id d a s.1 s.2.1 s.2.2.1 s.2.2.2.1 s.2.2.2.2.1 s.2.2.2.2.2) aN).trans (by kernel_rfl)))
def JC(a:cQ):aq:=⟨214,[ir,(.fn 215 [] []),aS],bF,[(true,0,cz)],λs=>px a s.2.2.2.2.2.2 s.1 s.2.1 s.2.2.1 s.2.2.2.1 s.2.2.2.2.1 s.2.2.2.2.2.1⟩
def DZ(o:Ex->Ex)(q:Sh->(R:Type)->Option R->Option R)(p:Q2->Option Q3)(ops:Q1)(l:Q6)(a:aD)(g:yo->Option Q3):Int×Int×Int×Int×Int×Int×Int×(List Ex)->Option Q3:=λ⟨f,e,b,d,k,j,i,h⟩=> bif b==0 then (bn ops l f a e b d).bind λm=> bif !m.2 then some ((Ex.mk k j i h),f,e,b,d) else (aQ l f a e b d).bind λn=> (jv p l (i64.wrap (f+1)) a e b d).bind λc=> g (c.2.1,c.2.2.1,c.2.2.2.1,c.2.2.2.2,m.1,0,n.2.2.2,([(Ex.mk k j i h),(o c.1)]:List Ex)) else some ((Ex.mk k j i h),f,e,b,d)
def ni(e:Ex->Ex)(h:Sh->(R:Type)->Option R->Option R)(g:Q2->Option Q3)(ops:Q1)(l:Q6)(at_:Int)(b:aD)(d:Int)(f:Int)(c:Int):Option Q3:= (jv g l at_ b d f c).bind λa=> az (DZ e h g ops l b) aB (a.2.1,a.2.2.1,a.2.2.2.1,a.2.2.2.2,a.1.op,a.1.n,a.1.at_,a.1.l)
theorem DT(a:cQ)(c:iJ a):Ko (JC a):=
 aX (.l ⟨[(true,0,cz),(true,6,GU),(true,7,KI)],[]⟩ .o) call214 func214 (aj (Fz a c) (aj cr (aj bN al))) al al λs=>(show _=ni bk aM a s.2.2.2.2.2.2 s.1 s.2.1 s.2.2.1 s.2.2.2.1 s.2.2.2.2.1 s.2.2.2.2.2.1 from by kernel_rfl).trans ((congrArg (λb=>ni b aM a s.2.2.2.2.2.2 s.1 s.2.1 s.2.2.1 s.2.2.2.1 s.2.2.2.2.1 s.2.2.2.2.2.1) aJ).trans ((congrArg (λd=>ni id d a s.2.2.2.2.2.2 s.1 s.2.1 s.2.2.1 s.2.2.2.1 s.2.2.2.2.1 s.2.2.2.2.2.1) aN).trans (by kernel_rfl)))
def NQ(a:cQ):aq:=⟨206,[ir],bF,[(true,0,cz)],λs=>tK a s.1 s.2.1 s.2.2.1 s.2.2.2.1 s.2.2.2.2.1 s.2.2.2.2.2⟩
def pK(e:Ex->Ex)(h:Sh->(R:Type)->Option R->Option R)(g:Q2->Option Q3)(l:Q6)(at_:Int)(c:aD)(d:Int)(f:Int)(b:Int):Option Q3:= (px g ([17]:xb) l at_ c d f b).bind λa=> some ((e a.1),a.2.1,a.2.2.1,a.2.2.2.1,a.2.2.2.2)
theorem HG(a:cQ)(c:iJ a):Ko (NQ a):=
 aX .o call206 func206 (aj (DT a c) al) al al λs=>(show _=pK bk aM a s.1 s.2.1 s.2.2.1 s.2.2.2.1 s.2.2.2.2.1 s.2.2.2.2.2 from by kernel_rfl).trans ((congrArg (λb=>pK b aM a s.1 s.2.1 s.2.2.1 s.2.2.2.1 s.2.2.2.2.1 s.2.2.2.2.2) aJ).trans ((congrArg (λd=>pK id d a s.1 s.2.1 s.2.2.1 s.2.2.2.1 s.2.2.2.2.1 s.2.2.2.2.2) aN).trans (by kernel_rfl)))
def Hj(a:cQ)(b:Sa):aq:=⟨137,[ir,(.fn 206 [] []),Me,aS],bF,[(true,0,cz)],λs=>oN a b s.2.2.2.2.2.2 s.1 s.2.1 s.2.2.1 s.2.2.2.1 s.2.2.2.2.1 s.2.2.2.2.2.1⟩
def mC(e:Ex->Ex)(p:Sh->(R:Type)->Option R->Option R)(o:Q2->Option Q3)(n:Q2->Option Q3)(ops:Q1)(l:Q6)(at_:Int)(b:aD)(g:Int)(i:Int)(d:Int):Option Q3:= (tK o l at_ b g i d).bind λa=> (bn ops l a.2.1 b a.2.2.1 a.2.2.2.1 a.2.2.2.2).bind λf=> ai (a.2.2.2.1 != 0) λm=> ai (!f.2) λk=> ai (m||k) λj=> bif j then ( some ((e a.1),a.2.1,a.2.2.1,a.2.2.2.1,a.2.2.2.2)) else ( (aQ l a.2.1 b a.2.2.1 a.2.2.2.1 a.2.2.2.2).bind λh=> (n (l,(i64.wrap (a.2.1+1)),b,a.2.2.1,a.2.2.2.1,a.2.2.2.2)).bind λc=> some ((Ex.mk f.1 0 h.2.2.2 ([(e a.1),(e c.1)]:List Ex)),c.2.1,c.2.2.1,c.2.2.2.1,c.2.2.2.2))
theorem B0(a:cQ)(d:iJ a)(b:Sa)(e:OK3 b):Ko (Hj a b):=
 aX .o call137 func137 (aj (HG a d) (aj cr (aj bN (aj e al)))) al al λs=>(show _=mC bk aM a b s.2.2.2.2.2.2 s.1 s.2.1 s.2.2.1 s.2.2.2.1 s.2.2.2.2.1 s.2.2.2.2.2.1 from by kernel_rfl).trans ((congrArg (λc=>mC c aM a b s.2.2.2.2.2.2 s.1 s.2.1 s.2.2.1 s.2.2.2.1 s.2.2.2.2.1 s.2.2.2.2.2.1) aJ).trans ((congrArg (λf=>mC id f a b s.2.2.2.2.2.2 s.1 s.2.1 s.2.2.1 s.2.2.2.1 s.2.2.2.2.1 s.2.2.2.2.2.1) aN).trans (by kernel_rfl)))
def LP(a:cQ)(b:Sa):aq:=⟨184,[ir],bF,[(true,0,cz)],λs=>rX a b s.1 s.2.1 s.2.2.1 s.2.2.2.1 s.2.2.2.2.1 s.2.2.2.2.2⟩
def oD(e:Ex->Ex)(i:Sh->(R:Type)->Option R->Option R)(h:Q2->Option Q3)(g:Q2->Option Q3)(l:Q6)(at_:Int)(c:aD)(d:Int)(f:Int)(b:Int):Option Q3:= (oN h g ([18]:xb) l at_ c d f b).bind λa=> some ((e a.1),a.2.1,a.2.2.1,a.2.2.2.1,a.2.2.2.2)
theorem Gx(a:cQ)(d:iJ a)(b:Sa)(e:OK3 b):Ko (LP a b):=
 aX .o call184 func184 (aj (B0 a d b e) al) al al λs=>(show _=oD bk aM a b s.1 s.2.1 s.2.2.1 s.2.2.2.1 s.2.2.2.2.1 s.2.2.2.2.2 from by kernel_rfl).trans ((congrArg (λc=>oD c aM a b s.1 s.2.1 s.2.2.1 s.2.2.2.1 s.2.2.2.2.1 s.2.2.2.2.2) aJ).trans ((congrArg (λf=>oD id f a b s.1 s.2.1 s.2.2.1 s.2.2.2.1 s.2.2.2.2.1 s.2.2.2.2.2) aN).trans (by kernel_rfl)))
def sG(a:cQ):aq:=⟨91,[ir,Me],bF,[(true,0,cz)],λs=>mV a s.1 s.2.1 s.2.2.1 s.2.2.2.1 s.2.2.2.2.1 s.2.2.2.2.2⟩
def jK(f:Ex->Ex)(j:Sh->(R:Type)->Option R->Option R)(i:Q2->Option Q3)(h:Q2->Option Q3)(l:Q6)(at_:Int)(d:aD)(a:Int)(g:Int)(c:Int):Option Q3:= bif decide (320<=a) then (bG 9 l at_ d a g c).bind λe=> some ((f e.1),at_,a,e.2.1,e.2.2) else (rX i h l at_ d (i64.wrap (a+1)) g c).bind λb=> some ((f b.1),b.2.1,(i64.wrap (b.2.2.1-1)),b.2.2.2.1,b.2.2.2.2)
def sx(a:cQ):Sa->Sa:=λb s=>sC a b s.1 s.2.1 s.2.2.1 s.2.2.2.1 s.2.2.2.2.1 s.2.2.2.2.2
theorem xu(a:cQ)(d:iJ a)(b:Sa)(e:OK3 b):(gW (sx a b)).Ok X0.P X0.Γ:=
 aX .o call91 func91 (aj dT (aj (Gx a d b e) al)) al al λs=>(show _=jK bk aM a b s.1 s.2.1 s.2.2.1 s.2.2.2.1 s.2.2.2.2.1 s.2.2.2.2.2 from by kernel_rfl).trans ((congrArg (λc=>jK c aM a b s.1 s.2.1 s.2.2.1 s.2.2.2.1 s.2.2.2.2.1 s.2.2.2.2.2) aJ).trans ((congrArg (λf=>jK id f a b s.1 s.2.1 s.2.2.1 s.2.2.2.1 s.2.2.2.2.1 s.2.2.2.2.2) aN).trans (by kernel_rfl)))
theorem A7(a:cQ)(b:iJ a):Ko (sG a):=(show sG a=gW (az (sx a) aB) by kernel_rfl)▸dL (X:=X0) (E:=gW) ⟨call91,λ_ _ h=>nomatch h⟩ (xu a b) aB
def Ep(a:cQ):aq:=⟨138,[ir],bF,[(true,0,cz)],λs=>mw a s.1 s.2.1 s.2.2.1 s.2.2.2.1 s.2.2.2.2.1 s.2.2.2.2.2⟩
def kG(e:Ex->Ex)(h:Sh->(R:Type)->Option R->Option R)(g:Q2->Option Q3)(l:Q6)(at_:Int)(c:aD)(d:Int)(f:Int)(b:Int):Option Q3:= (mV g l at_ c d f b).bind λa=> some ((e a.1),a.2.1,a.2.2.1,a.2.2.2.1,a.2.2.2.2)
theorem Ah(a:cQ)(c:iJ a):Ko (Ep a):=
 aX .o call138 func138 (aj (A7 a c) al) al al λs=>(show _=kG bk aM a s.1 s.2.1 s.2.2.1 s.2.2.2.1 s.2.2.2.2.1 s.2.2.2.2.2 from by kernel_rfl).trans ((congrArg (λb=>kG b aM a s.1 s.2.1 s.2.2.1 s.2.2.2.1 s.2.2.2.2.1 s.2.2.2.2.2) aJ).trans ((congrArg (λd=>kG id d a s.1 s.2.1 s.2.2.1 s.2.2.2.1 s.2.2.2.2.1 s.2.2.2.2.2) aN).trans (by kernel_rfl)))
def H8(a:cQ):aq:=⟨137,[ir,(.fn 138 [] []),(.fn 92 [] []),aS],bF,[(true,0,cz)],λs=>oP a s.2.2.2.2.2.2 s.1 s.2.1 s.2.2.1 s.2.2.2.1 s.2.2.2.2.1 s.2.2.2.2.2.1⟩
def mn(e:Ex->Ex)(o:Sh->(R:Type)->Option R->Option R)(n:Q2->Option Q3)(ops:Q1)(l:Q6)(at_:Int)(b:aD)(g:Int)(i:Int)(d:Int):Option Q3:= (mw n l at_ b g i d).bind λa=> (bn ops l a.2.1 b a.2.2.1 a.2.2.2.1 a.2.2.2.2).bind λf=> ai (a.2.2.2.1 != 0) λm=> ai (!f.2) λk=> ai (m||k) λj=> bif j then ( some ((e a.1),a.2.1,a.2.2.1,a.2.2.2.1,a.2.2.2.2)) else ( (aQ l a.2.1 b a.2.2.1 a.2.2.2.1 a.2.2.2.2).bind λh=> (n (l,(i64.wrap (a.2.1+1)),b,a.2.2.1,a.2.2.2.1,a.2.2.2.2)).bind λc=> some ((Ex.mk f.1 0 h.2.2.2 ([(e a.1),(e c.1)]:List Ex)),c.2.1,c.2.2.1,c.2.2.2.1,c.2.2.2.2))
theorem CB(a:cQ)(c:iJ a):Ko (H8 a):=
 aX .o call137 func137 (aj (Ah a c) (aj cr (aj bN (aj c al)))) al al λs=>(show _=mn bk aM a s.2.2.2.2.2.2 s.1 s.2.1 s.2.2.1 s.2.2.2.1 s.2.2.2.2.1 s.2.2.2.2.2.1 from by kernel_rfl).trans ((congrArg (λb=>mn b aM a s.2.2.2.2.2.2 s.1 s.2.1 s.2.2.1 s.2.2.2.1 s.2.2.2.2.1 s.2.2.2.2.2.1) aJ).trans ((congrArg (λd=>mn id d a s.2.2.2.2.2.2 s.1 s.2.1 s.2.2.1 s.2.2.2.1 s.2.2.2.2.1 s.2.2.2.2.2.1) aN).trans (by kernel_rfl)))
def LJ(a:cQ):aq:=⟨92,[ir],bF,[(true,0,cz)],λs=>rU a s.1 s.2.1 s.2.2.1 s.2.2.2.1 s.2.2.2.2.1 s.2.2.2.2.2⟩
def nY(e:Ex->Ex)(h:Sh->(R:Type)->Option R->Option R)(g:Q2->Option Q3)(l:Q6)(at_:Int)(c:aD)(d:Int)(f:Int)(b:Int):Option Q3:= (oP g ([19]:xb) l at_ c d f b).bind λa=> some ((e a.1),a.2.1,a.2.2.1,a.2.2.2.1,a.2.2.2.2)
theorem Gj(a:cQ)(c:iJ a):Ko (LJ a):=
 aX .o call92 func92 (aj (CB a c) al) al al λs=>(show _=nY bk aM a s.1 s.2.1 s.2.2.1 s.2.2.2.1 s.2.2.2.2.1 s.2.2.2.2.2 from by kernel_rfl).trans ((congrArg (λb=>nY b aM a s.1 s.2.1 s.2.2.1 s.2.2.2.1 s.2.2.2.2.1 s.2.2.2.2.2) aJ).trans ((congrArg (λd=>nY id d a s.1 s.2.1 s.2.2.1 s.2.2.2.1 s.2.2.2.2.1 s.2.2.2.2.2) aN).trans (by kernel_rfl)))
def sU:aq:=⟨91,[ir,(.fn 92 [] [])],bF,[(true,0,cz)],U6 nw⟩
def jR(f:Ex->Ex)(i:Sh->(R:Type)->Option R->Option R)(h:Q2->Option Q3)(l:Q6)(at_:Int)(d:aD)(a:Int)(g:Int)(c:Int):Option Q3:= bif decide (320<=a) then (bG 9 l at_ d a g c).bind λe=> some ((f e.1),at_,a,e.2.1,e.2.2) else (rU h l at_ d (i64.wrap (a+1)) g c).bind λb=> some ((f b.1),b.2.1,(i64.wrap (b.2.2.1-1)),b.2.2.2.1,b.2.2.2.2)
def sW:cQ->cQ:=λa s=>sL a s.1 s.2.1 s.2.2.1 s.2.2.2.1 s.2.2.2.2.1 s.2.2.2.2.2
theorem xR(a:cQ)(c:iJ a):(gS (sW a)).Ok X0.P X0.Γ:=
 aX .o call91 func91 (aj dT (aj (Gj a c) al)) al al λs=>(show _=jR bk aM a s.1 s.2.1 s.2.2.1 s.2.2.2.1 s.2.2.2.2.1 s.2.2.2.2.2 from by kernel_rfl).trans ((congrArg (λb=>jR b aM a s.1 s.2.1 s.2.2.1 s.2.2.2.1 s.2.2.2.2.1 s.2.2.2.2.2) aJ).trans ((congrArg (λd=>jR id d a s.1 s.2.1 s.2.2.1 s.2.2.2.1 s.2.2.2.2.1 s.2.2.2.2.2) aN).trans (by kernel_rfl)))
theorem Bh:Ko sU:=(show sU=gS (az (sW) aB) by kernel_rfl)▸dL (X:=X0) (E:=gS) ⟨call91,λ_ _ h=>nomatch h⟩ (xR) aB
def Sl:aq:=⟨58,[GS,an,AB],(.cC [bF,an,an,an]),[],U3 xY⟩
def ux(c:Ex->Ex)(d:Sh->(R:Type)->Option R->Option R)(l:Q6)(at_:Int)(b:aD):Option O6:= (nw l at_ b 0 0 0).bind λa=> bif a.2.2.2.1 != 0 then some ((Ex.mk 0 0 0 []),0,a.2.2.2.1,a.2.2.2.2) else some ((c a.1),a.2.1,0,0)
theorem KB:Ko Sl:=
 aX (.c (.r [6] .o) (.r [6] .o)) call58 func58 (aj Bh al) al al λs=>(show _=ux bk aM s.1 s.2.1 s.2.2 from by kernel_rfl).trans ((congrArg (λa=>ux a aM s.1 s.2.1 s.2.2) aJ).trans ((congrArg (λb=>ux id b s.1 s.2.1 s.2.2) aN).trans (by kernel_rfl)))
def N0:aq:=⟨59,[fG],(.cC [an,an,an]),[],λs=>km s⟩
def Wj(k:Ex->Ex)(D:Sh->(R:Type)->Option R->Option R)(C:Ex->Option nF)(e:Ex)(g:Q63->Option nF):Bool×Bool×Bool×Int->Option nF:=λ⟨b,d,a,h⟩=> bif decide (h<(List.length e.l:Int)) then (idx e.l h).bind λm=> (C (k m)).bind λf=> bif f.2.1 != 0 then some (0,f.2.1,f.2.2) else ai (f.1==1) λB=> ai (b&&B) λA=> ai (f.1==2) λz=> ai (d&&z) λy=> ai (f.1 != 1) λx=> ai (a&&x) λw=> g (A,y,w,(i64.wrap (h+1))) else ai (decide (e.op<=6)) λv=> ai (v&&b) λu=> bif u then ( some (1,0,0)) else ( ai (λ(j:Bool)=>Lw e a j) λc=> ai (decide (6<e.op)) λt=> ai (decide (e.op<=12)) λs=> ai (t&&s) λr=> ai (r&&b) λi=> bif i then ( c i) else ( bif e.op==13 then c (e.op==13) else bif e.op==14 then c (e.op==14) else ai (decide (15<=e.op)) λq=> ai (decide (e.op<=19)) λp=> ai (q&&p) λo=> ai (o&&d) λn=> c n))
def xM(a:Ex->Ex)(c:Sh->(R:Type)->Option R->Option R)(b:Ex->Option nF)(e:Ex):Option nF:= az (Wj a c b e) aB (true,true,true,0)
def OA:TK5->TK5:=λa s=>Ol a s
theorem Qs(a:TK5)(d:OK5 a):(uL (OA a)).Ok X0.P X0.Γ:=
 aX (.l ⟨[(false,5,.bool),(false,6,.bool),(false,7,.bool),(false,16,an)],[]⟩ (.c .o (.c .o (.j ⟨[(false,53,.bool)],[]⟩ .o .o)))) call59 func59 (aj d al) al al λs=>(show _=xM bk aM a s from by kernel_rfl).trans ((congrArg (λb=>xM b aM a s) aJ).trans ((congrArg (λe=>xM id e a s) aN).trans (by kernel_rfl)))
theorem pg:Ko N0:=(show N0=uL (az (OA) aB) by kernel_rfl)▸dL (X:=X0) (E:=uL) ⟨call59,λ_ _ h=>nomatch h⟩ (Qs) aB
def U0:aq:=⟨59,[(.dat .ex [some 158])],(.cC [an,an,an]),[],λs=>Aq s⟩
def Nv(k:Ex->Ex)(C:Sh->(R:Type)->Option R->Option R)(e:Ex)(g:Q63->Option nF):Bool×Bool×Bool×Int->Option nF:=λ⟨b,d,a,h⟩=> bif decide (h<(List.length e.l:Int)) then (idx e.l h).bind λm=> (km (k m)).bind λf=> bif f.2.1 != 0 then some (0,f.2.1,f.2.2) else ai (f.1==1) λB=> ai (b&&B) λA=> ai (f.1==2) λz=> ai (d&&z) λy=> ai (f.1 != 1) λx=> ai (a&&x) λw=> g (A,y,w,(i64.wrap (h+1))) else ai (decide (e.op<=6)) λv=> ai (v&&b) λu=> bif u then ( some (1,0,0)) else ( ai (λ(j:Bool)=>CS e a j) λc=> ai (decide (6<e.op)) λt=> ai (decide (e.op<=12)) λs=> ai (t&&s) λr=> ai (r&&b) λi=> bif i then ( c i) else ( bif e.op==13 then c (e.op==13) else bif e.op==14 then c (e.op==14) else ai (decide (15<=e.op)) λq=> ai (decide (e.op<=19)) λp=> ai (q&&p) λo=> ai (o&&d) λn=> c n))
def vB(a:Ex->Ex)(b:Sh->(R:Type)->Option R->Option R)(e:Ex):Option nF:= az (Nv a b e) aB (true,true,true,0)
theorem NO:Ko U0:=
 aX (.l ⟨[(false,5,.bool),(false,6,.bool),(false,7,.bool),(false,16,an)],[]⟩ (.c .o (.c .o (.j ⟨[(false,53,.bool)],[]⟩ .o .o)))) call59 func59 (aj pg al) al al λs=>(show _=vB bk aM s from by kernel_rfl).trans ((congrArg (λa=>vB a aM s) aJ).trans ((congrArg (λb=>vB id b s) aN).trans (by kernel_rfl)))
def B1:bH:=⟨180,[Z9,an],EP,none,false,false,bF,[(true,0,Qk)],λs=>fJ s.2.2.2.2.2.2.2 s.1 s.2.1 s.2.2.1 s.2.2.2.1 s.2.2.2.2.1 s.2.2.2.2.2.1 s.2.2.2.2.2.2.1⟩
def xW(b:Ex->Ex)(c:Sh->(R:Type)->Option R->Option R)(a:O6):Option (Except cu iR):= some (.ok ((b a.1),a.2.1))
def xC(e:Ex->Ex)(h:Sh->(R:Type)->Option R->Option R)(a:Int)(g:Int)(b:O6)(d:nF):Option (Except cu iR):= ai (λ(f:Unit)=>xW e h b) λc=> bif d.1 != a then some (.error (4,b.1.at_)) else c ()
def yb(e:Ex->Ex)(g:Sh->(R:Type)->Option R->Option R)(b:Int)(at_:Int)(c:O6):Option (Except cu iR):= (Aq (e c.1)).bind λa=> ai (λ(f:Unit)=>xC e g b at_ c a) λd=> bif a.2.1 != 0 then some (.error a.2) else d ()
def jN(g:Ex->Ex)(k:Sh->(R:Type)->Option R->Option R)(c:Int)(l:Q6)(at_:Int)(b:aD)(e:Q8)(h:Q1)(f:aD)(j:Q9):Option (Except cu iR):= (xY l at_ b).bind λa=> ai (λ(i:Unit)=>yb g k c at_ a) λd=> bif a.2.2.1 != 0 then some (.error a.2.2) else d ()
theorem mO:po B1:=
 oE (.r [0,40000] (.j ⟨[],[]⟩ .o (.s (.j ⟨[],[]⟩ .o (.j ⟨[],[]⟩ .o .o))))) call180 func180 (aj KB (aj NO al)) al al λs=>(show _=jN bk aM s.2.2.2.2.2.2.2 s.1 s.2.1 s.2.2.1 s.2.2.2.1 s.2.2.2.2.1 s.2.2.2.2.2.1 s.2.2.2.2.2.2.1 from by kernel_rfl).trans ((congrArg (λa=>jN a aM s.2.2.2.2.2.2.2 s.1 s.2.1 s.2.2.1 s.2.2.2.1 s.2.2.2.2.1 s.2.2.2.2.2.1 s.2.2.2.2.2.2.1) aJ).trans ((congrArg (λb=>jN id b s.2.2.2.2.2.2.2 s.1 s.2.1 s.2.2.1 s.2.2.2.1 s.2.2.2.2.1 s.2.2.2.2.2.1 s.2.2.2.2.2.2.1) aN).trans (by kernel_rfl)))
def x9:aq:=⟨205,[(.dat rB [none]),(.bx 3 0 false [an])],.bool,[],U2 jw⟩
theorem uY:Ko x9:=
 aw .o call205 func205 al
def nK:aq:=⟨213,[(.own rB 301 false),(.fn 205 [] [(.bx 3 0 false [an])])],an,[],U2 iv⟩
def lY(e:Ex->Ex)(g:Sh->(R:Type)->Option R->Option R)(s:CN)(c:Int)(a:Int->vy)(b:Int):vy:= bif decide (b<(s.length:Int)) then (idx s b).bind λf=> (jw (f.1,(e f.2)) c).bind λd=> bif d then ( some b) else ( a (i64.wrap (b+1))) else some (-1)
def ey(a:Ex->Ex)(b:Sh->(R:Type)->Option R->Option R)(s:CN)(c:Int):vy:= az (lY a b s c) aB 0
theorem lX:Ko nK:=
 aX (.l ⟨[(false,8,an)],[]⟩ .o) call213 func213 (aj uY al) al al λs=>(show _=ey bk aM s.1 s.2 from by kernel_rfl).trans ((congrArg (λa=>ey a aM s.1 s.2) aJ).trans ((congrArg (λb=>ey id b s.1 s.2) aN).trans (by kernel_rfl)))
def mu:aq:=⟨204,[(.own rB 301 false),(.fn 205 [] [(.bx 3 0 false [an])])],.bool,[],U2 ek⟩
theorem kP:Ko mu:=
 aw .o call204 func204 (aj lX al)
def xv:bH:=⟨181,[Z9,(.own rB 301 false)],EP,none,false,false,(.dat rB [some 159]),[(true,0,Qk)],λs=>jk s.2.2.2.2.2.2.2 s.1 s.2.1 s.2.2.1 s.2.2.2.1 s.2.2.2.2.1 s.2.2.2.2.2.1 s.2.2.2.2.2.2.1⟩
def uW(i:Ex->Ex)(j:Sh->(R:Type)->Option R->Option R)(l:Q6)(at_:Int)(c:aD)(a:Q8)(d:Q1)(b:aD)(f:Q9)(h:Int):Option Q46:= cP (er [61] l (i64.wrap (at_+1)) c a d b f) λg=> cP (fJ 1 l g c a d b f) λe=> some (.ok ((h,(i e.1)),e.2))
def uX(m:Ex->Ex)(q:Sh->(R:Type)->Option R->Option R)(f:CN)(l:Q6)(at_:Int)(a:aD)(b:Q8)(d:Q1)(c:aD)(i:Q9)(p:Dl):Option Q46:= (cV a p.2.1).bind λe=> ai (λ(o:Unit)=>uW m q l at_ a b d c i e) λg=> ai (decide (e<0)) λh=> bD (!h) default (ek f e) λk=> ai (h||k) λn=> bif n then ( cP (cF 3 l at_ a b d c i) λj=> j.elim) else ( g ())
def iI(i:Ex->Ex)(m:Sh->(R:Type)->Option R->Option R)(e:CN)(l:Q6)(at_:Int)(c:aD)(a:Q8)(d:Q1)(b:aD)(f:Q9):Option Q46:= (dF l at_ c a d b f).bind λj=> ai (λ(k:Unit)=>uX i m e l at_ c a d b f j) λg=> bif j.1 != 1 then cP (cF 2 l at_ c a d b f) λh=> h.elim else g ()
theorem uV:po xv:=
 oE (.s (.s (.j ⟨[],[]⟩ .o (.r [0,40000] (.j ⟨[],[]⟩ .o (.r [0,4] .o)))))) call181 func181 (aj dN (aj fe (aj kP al))) (aj iV (aj mO (aj eV al))) al λs=>(show _=iI bk aM s.2.2.2.2.2.2.2 s.1 s.2.1 s.2.2.1 s.2.2.2.1 s.2.2.2.2.1 s.2.2.2.2.2.1 s.2.2.2.2.2.2.1 from by kernel_rfl).trans ((congrArg (λa=>iI a aM s.2.2.2.2.2.2.2 s.1 s.2.1 s.2.2.1 s.2.2.2.1 s.2.2.2.2.1 s.2.2.2.2.2.1 s.2.2.2.2.2.2.1) aJ).trans ((congrArg (λb=>iI id b s.2.2.2.2.2.2.2 s.1 s.2.1 s.2.2.1 s.2.2.2.1 s.2.2.2.2.1 s.2.2.2.2.2.1 s.2.2.2.2.2.2.1) aN).trans (by kernel_rfl)))
def Hx:bH:=⟨135,[(.bx 138 0 true [GS,an,AB,Mm,G5,AB,PA])],EP,none,false,false,ez,[(true,0,al8)],U7 xo⟩
def Cb(e:Ex->Ex)(o:Sh->(R:Type)->Option R->Option R)(l:Q6)(d:aD)(c:Q8)(h:Q1)(b:aD)(i:Q9)(j:iR)(g:(Int×CN)->Option XL):Int×CN->Option XL:=λ⟨n,f⟩=> cP (jk f l n d c h b i) λa=> aI (aH (List.length f+List.length ([(a.1.1,(e a.1.2))]:List SO)) 56)<| (gu 3 [59] l a.2 d c h b i).bind λm=> bif m then ( aI (aH (List.length i+List.length ([((i64.wrap ((b.length:Int)-1)),(e j.1),(f++([(a.1.1,(e a.1.2))]:List SO)))]:List Q64)) 80)<| some (.ok ((i64.wrap (a.2+1)),(i++([((i64.wrap ((b.length:Int)-1)),(e j.1),(f++([(a.1.1,(e a.1.2))]:List SO)))]:List Q64))))) else ( cP (er [44] l a.2 d c h b i) λk=> g (k,(f++([(a.1.1,(e a.1.2))]:List SO))))
def Cq(h:Ex->Ex)(i:Sh->(R:Type)->Option R->Option R)(l:Q6)(at_:Int)(c:aD)(a:Q8)(d:Q1)(b:aD)(e:Q9):Option XL:= cP (fJ 2 l at_ c a d b e) λf=> cP (er [58] l f.2 c a d b e) λg=> az (Cb h i l c a d b e f) aB (g,[])
def mA(h:Ex->Ex)(j:Sh->(R:Type)->Option R->Option R)(l:Q6)(at_:Int)(c:aD)(a:Q8)(d:Q1)(b:aD)(e:Q9):Option XL:= ai (λ(i:Unit)=>Cq h j l at_ c a d b e) λf=> bif decide (256<=(e.length:Int)) then cP (cF 9 l at_ c a d b e) λg=> g.elim else f ()
theorem Cw:po Hx:=
 oE (.j ⟨[],[]⟩ .o (.r [0,40000] (.l ⟨[(true,0,Qk),(true,2,(.bx 299 0 true [.same,.same,.same,.same,.same,(.own rB 301 true)]))],[]⟩ (.r [0,2] (.c (.r [0,2] .o) .o))))) call135 func135 (aj hZ al) (aj mO (aj iV (aj uV (aj eV al)))) al λs=>(show _=mA bk aM s.1 s.2.1 s.2.2.1 s.2.2.2.1 s.2.2.2.2.1 s.2.2.2.2.2.1 s.2.2.2.2.2.2 from by kernel_rfl).trans ((congrArg (λa=>mA a aM s.1 s.2.1 s.2.2.1 s.2.2.2.1 s.2.2.2.2.1 s.2.2.2.2.2.1 s.2.2.2.2.2.2) aJ).trans ((congrArg (λb=>mA id b s.1 s.2.1 s.2.2.1 s.2.2.2.1 s.2.2.2.2.1 s.2.2.2.2.2.1 s.2.2.2.2.2.2) aN).trans (by kernel_rfl)))
def H3:bH:=⟨87,[(.bx 138 0 true [GS,an,AB,Mm,G5,Bw,PA])],EP,none,false,false,ez,[(true,0,(.bx 138 0 true [.same,an,.same,.same,.same,Bw,PA]))],U7 xk⟩
theorem BZ:po H3:=
 oE (.r [0] (.l ⟨[(true,0,al8)],[]⟩ .o)) call87 func87 (aj hZ al) (aj tE (aj iV (aj Cw al))) al λ_=>by kernel_rfl
def Qv:bH:=⟨57,[(.bx 138 0 true [GS,an,Bw,Hl,fq,Bw,PA])],EP,none,false,false,ez,[(true,0,al3)],U7 GC⟩
theorem Jj:po Qv:=
 oE (.l ⟨[(true,0,al3),(true,2,(.bx 190 0 true [.same,.same]))],[]⟩ .o) call57 func57 (aj dN (aj hZ al)) (aj Ar (aj eV (aj BZ al))) al λ_=>by kernel_rfl
def Zg:aq:=⟨41,[.str],(.cC [xJ,an,an]),[],λs=>NX s⟩
theorem alK:(⟨56,Tryz.f56⟩:jH).Ok X0.P:=⟨call56,func56⟩
theorem P7:Ko Zg:=
 aX .o call41 func41 (aj CC al) (aj Jj al) (aj alK al) λ_=>by kernel_rfl
def QH:aq:=⟨42,[(.bx 81 0 true [.str,.str,an,an,an,ml,an,an,AB,Mm,G5,AB,(.own sq 299 false),an,an,an,(.own .ex 79 false),an,an,an,fq,ia,ia]),an,an,aS],.bool,[(true,0,af4)],λs=>Gr (d8 (d8 s)).2.2.2.2.2.2.2.1 (d8 (d8 (d8 s))).1 (d8 (d8 (d8 s))).2 s.1 s.2.1 s.2.2.1 s.2.2.2.1 s.2.2.2.2.1 s.2.2.2.2.2.1 s.2.2.2.2.2.2.1 s.2.2.2.2.2.2.2.1 s.2.2.2.2.2.2.2.2.1 (d8 s).2.1 (d8 s).2.2.1 (d8 s).2.2.2.1 (d8 s).2.2.2.2.1 (d8 s).2.2.2.2.2.1 (d8 s).2.2.2.2.2.2.1 (d8 s).2.2.2.2.2.2.2.1 (d8 (d8 s)).1 (d8 (d8 s)).2.1 (d8 (d8 s)).2.2.1 (d8 (d8 s)).2.2.2.1 (d8 (d8 s)).2.2.2.2.1 (d8 (d8 s)).2.2.2.2.2.1 (d8 (d8 s)).2.2.2.2.2.2.1⟩
theorem Jw:Ko QH:=
 aw .o call42 func42 al
def QM:aq:=⟨136,[eQ,an],bF,[(true,0,(.bx 196 0 true [.same,.same,.same,.same,an,an]))],λs=>bY s.2.2.2.2.2.2 s.1 s.2.1 s.2.2.1 s.2.2.2.1 s.2.2.2.2.1 s.2.2.2.2.2.1⟩
theorem fm:Ko QM:=
 aw (.c (.r [0] .o) .o) call136 func136 al
def PU:aq:=⟨183,[amo],(.dat nd []),[],U6 aZ⟩
theorem cg:Ko PU:=
 aw (.r [2] .o) call183 func183 al
def Vy:aq:=⟨182,[amo,aS],AP,[],λs=>bM s.2.2.2.2.2.2 s.1 s.2.1 s.2.2.1 s.2.2.2.1 s.2.2.2.2.1 s.2.2.2.2.2.1⟩
theorem cU:Ko Vy:=
 aw (.c .o (.l ⟨[(false,27,an)],[]⟩ .o)) call182 func182 (aj cg (aj mH al))
def Sc(a:bP):aq:=⟨228,[eQ],bF,[(true,0,cz)],λs=>xV a s.1 s.2.1 s.2.2.1 s.2.2.2.1 s.2.2.2.2.1 s.2.2.2.2.2⟩
def ue(h:Ex->Ex)(C:Sh->(R:Type)->Option R->Option R)(B:Q2->Option Q3)(l:Q6)(at_:Int)(c:aD)(d:Int)(f:Int)(b:Int):Option Q3:= bif f != 0 then some ((Ex.mk 0 0 0 []),at_,d,f,b) else (aZ l at_ c d f b).bind λe=> (bM ([13,14]:xb) l at_ c d f b).bind λn=> bif n.2 then ( some ((Ex.mk n.1 0 e.2.2.2 []),(i64.wrap (at_+1)),d,f,b)) else ( bif e.1==2 then some ((Ex.mk 1 e.2.2.1 e.2.2.2 []),(i64.wrap (at_+1)),d,f,b) else ai (e.1==1) λp=> bD p default (ou e.2.1) λs=> ai (!s) λA=> ai (p&&A) λz=> bif z then ( (cS c e.2.1).bind λm=> bif decide (m<0) then (bY 3 l at_ c d f b).bind λj=> some ((h j.1),at_,d,j.2.1,j.2.2) else some ((Ex.mk 2 m e.2.2.2 []),(i64.wrap (at_+1)),d,f,b)) else ( ai (e.1==3) λy=> ai (e.2.1==[40]) λx=> ai (y&&x) λw=> bif w then ( (B (l,(i64.wrap (at_+1)),c,d,f,b)).bind λa=> ai (a.2.2.2.1==0) λk=> bD k default (aZ l a.2.1 c a.2.2.1 a.2.2.2.1 a.2.2.2.2) λr=> ai (r.1 != 3) λo=> bD (k&& !o) default (aZ l a.2.1 c a.2.2.1 a.2.2.2.1 a.2.2.2.2) λq=> ai (q.2.1 != [41]) λv=> ai (o||v) λu=> ai (k&&u) λt=> bif t then ( (bY 2 l a.2.1 c a.2.2.1 a.2.2.2.1 a.2.2.2.2).bind λi=> some ((h i.1),a.2.1,a.2.2.1,i.2.1,i.2.2)) else ( bif a.2.2.2.1==0 then some ((h a.1),(i64.wrap (a.2.1+1)),a.2.2.1,a.2.2.2.1,a.2.2.2.2) else some ((h a.1),a.2.1,a.2.2.1,a.2.2.2.1,a.2.2.2.2))) else ( (bY 2 l at_ c d f b).bind λg=> some ((h g.1),at_,d,g.2.1,g.2.2))))
theorem Le(a:bP)(b:fj a):Ko (Sc a):=
 aX .o call228 func228 (aj cg (aj cU (aj mH (aj fQ (aj fm (aj b al)))))) al al λs=>(show _=ue bk aM a s.1 s.2.1 s.2.2.1 s.2.2.2.1 s.2.2.2.2.1 s.2.2.2.2.2 from by kernel_rfl).trans ((congrArg (λc=>ue c aM a s.1 s.2.1 s.2.2.1 s.2.2.2.1 s.2.2.2.2.1 s.2.2.2.2.2) aJ).trans ((congrArg (λd=>ue id d a s.1 s.2.1 s.2.2.1 s.2.2.2.1 s.2.2.2.2.1 s.2.2.2.2.2) aN).trans (by kernel_rfl)))
def FD(a:bP)(b:Ud):aq:=⟨222,[eQ,Mu,(.fn 228 [] []),aS],bF,[(true,0,cz)],λs=>nt a b s.2.2.2.2.2.2 s.1 s.2.1 s.2.2.1 s.2.2.2.1 s.2.2.2.2.1 s.2.2.2.2.2.1⟩
def lr(h:Ex->Ex)(m:Sh->(R:Type)->Option R->Option R)(k:Q2->Option Q3)(j:Q2->Option Q3)(ops:Q1)(l:Q6)(at_:Int)(b:aD)(c:Int)(f:Int)(a:Int):Option Q3:= (bM ops l at_ b c f a).bind λg=> bif !g.2 then (xV k l at_ b c f a).bind λe=> some ((h e.1),e.2.1,e.2.2.1,e.2.2.2.1,e.2.2.2.2) else (aZ l at_ b c f a).bind λi=> (j (l,(i64.wrap (at_+1)),b,c,f,a)).bind λd=> some ((Ex.mk g.1 0 i.2.2.2 ([(h d.1)]:List Ex)),d.2.1,d.2.2.1,d.2.2.2.1,d.2.2.2.2)
theorem BX(a:bP)(d:fj a)(b:Ud)(f:OK6 b):Ko (FD a b):=
 aX (.c .o (.r [0,8] .o)) call222 func222 (aj cU (aj (Le a d) (aj cg (aj f al)))) al al λs=>(show _=lr bk aM a b s.2.2.2.2.2.2 s.1 s.2.1 s.2.2.1 s.2.2.2.1 s.2.2.2.2.1 s.2.2.2.2.2.1 from by kernel_rfl).trans ((congrArg (λe=>lr e aM a b s.2.2.2.2.2.2 s.1 s.2.1 s.2.2.1 s.2.2.2.1 s.2.2.2.2.1 s.2.2.2.2.2.1) aJ).trans ((congrArg (λg=>lr id g a b s.2.2.2.2.2.2 s.1 s.2.1 s.2.2.1 s.2.2.2.1 s.2.2.2.2.1 s.2.2.2.2.2.1) aN).trans (by kernel_rfl)))
def SU(a:bP)(b:Ud):aq:=⟨227,[eQ],bF,[(true,0,cz)],λs=>xO a b s.1 s.2.1 s.2.2.1 s.2.2.2.1 s.2.2.2.2.1 s.2.2.2.2.2⟩
def tq(e:Ex->Ex)(i:Sh->(R:Type)->Option R->Option R)(h:Q2->Option Q3)(g:Q2->Option Q3)(l:Q6)(at_:Int)(c:aD)(d:Int)(f:Int)(b:Int):Option Q3:= (nt h g ([6]:xb) l at_ c d f b).bind λa=> some ((e a.1),a.2.1,a.2.2.1,a.2.2.2.1,a.2.2.2.2)
theorem JR(a:bP)(c:fj a)(b:Ud)(e:OK6 b):Ko (SU a b):=
 aX .o call227 func227 (aj (BX a c b e) al) al al λs=>(show _=tq bk aM a b s.1 s.2.1 s.2.2.1 s.2.2.2.1 s.2.2.2.2.1 s.2.2.2.2.2 from by kernel_rfl).trans ((congrArg (λd=>tq d aM a b s.1 s.2.1 s.2.2.1 s.2.2.2.1 s.2.2.2.2.1 s.2.2.2.2.2) aJ).trans ((congrArg (λf=>tq id f a b s.1 s.2.1 s.2.2.1 s.2.2.2.1 s.2.2.2.2.1 s.2.2.2.2.2) aN).trans (by kernel_rfl)))
def tv(a:bP):aq:=⟨91,[eQ,Mu],bF,[(true,0,cz)],λs=>oG a s.1 s.2.1 s.2.2.1 s.2.2.2.1 s.2.2.2.2.1 s.2.2.2.2.2⟩
def kF(f:Ex->Ex)(j:Sh->(R:Type)->Option R->Option R)(i:Q2->Option Q3)(h:Q2->Option Q3)(l:Q6)(at_:Int)(d:aD)(a:Int)(g:Int)(c:Int):Option Q3:= bif decide (320<=a) then (bY 9 l at_ d a g c).bind λe=> some ((f e.1),at_,a,e.2.1,e.2.2) else (xO i h l at_ d (i64.wrap (a+1)) g c).bind λb=> some ((f b.1),b.2.1,(i64.wrap (b.2.2.1-1)),b.2.2.2.1,b.2.2.2.2)
def tz(a:bP):Ud->Ud:=λb s=>uI a b s.1 s.2.1 s.2.2.1 s.2.2.2.1 s.2.2.2.2.1 s.2.2.2.2.2
theorem y8(a:bP)(c:fj a)(b:Ud)(e:OK6 b):(iC (tz a b)).Ok X0.P X0.Γ:=
 aX .o call91 func91 (aj fm (aj (JR a c b e) al)) al al λs=>(show _=kF bk aM a b s.1 s.2.1 s.2.2.1 s.2.2.2.1 s.2.2.2.2.1 s.2.2.2.2.2 from by kernel_rfl).trans ((congrArg (λd=>kF d aM a b s.1 s.2.1 s.2.2.1 s.2.2.2.1 s.2.2.2.2.1 s.2.2.2.2.2) aJ).trans ((congrArg (λf=>kF id f a b s.1 s.2.1 s.2.2.1 s.2.2.2.1 s.2.2.2.2.1 s.2.2.2.2.2) aN).trans (by kernel_rfl)))
theorem Cs(a:bP)(b:fj a):Ko (tv a):=(show tv a=iC (az (tz a) aB) by kernel_rfl)▸dL (X:=X0) (E:=iC) ⟨call91,λ_ _ h=>nomatch h⟩ (y8 a b) aB
def Jn(a:bP):aq:=⟨226,[eQ],bF,[(true,0,cz)],λs=>iP a s.1 s.2.1 s.2.2.1 s.2.2.2.1 s.2.2.2.2.1 s.2.2.2.2.2⟩
def na(e:Ex->Ex)(h:Sh->(R:Type)->Option R->Option R)(g:Q2->Option Q3)(l:Q6)(at_:Int)(c:aD)(d:Int)(f:Int)(b:Int):Option Q3:= (oG g l at_ c d f b).bind λa=> some ((e a.1),a.2.1,a.2.2.1,a.2.2.2.1,a.2.2.2.2)
theorem DK(a:bP)(b:fj a):Ko (Jn a):=
 aX .o call226 func226 (aj (Cs a b) al) al al λs=>(show _=na bk aM a s.1 s.2.1 s.2.2.1 s.2.2.2.1 s.2.2.2.2.1 s.2.2.2.2.2 from by kernel_rfl).trans ((congrArg (λc=>na c aM a s.1 s.2.1 s.2.2.1 s.2.2.2.1 s.2.2.2.2.1 s.2.2.2.2.2) aJ).trans ((congrArg (λd=>na id d a s.1 s.2.1 s.2.2.1 s.2.2.2.1 s.2.2.2.2.1 s.2.2.2.2.2) aN).trans (by kernel_rfl)))
def I8(a:bP):aq:=⟨214,[eQ,(.fn 226 [] []),aS],bF,[(true,0,cz)],λs=>py a s.2.2.2.2.2.2 s.1 s.2.1 s.2.2.1 s.2.2.2.1 s.2.2.2.2.1 s.2.2.2.2.2.1⟩
def EF(o:Ex->Ex)(q:Sh->(R:Type)->Option R->Option R)(p:Q2->Option Q3)(ops:Q1)(l:Q6)(a:aD)(g:yo->Option Q3):Int×Int×Int×Int×Int×Int×Int×(List Ex)->Option Q3:=λ⟨f,e,b,d,k,j,i,h⟩=> bif b==0 then (bM ops l f a e b d).bind λm=> bif !m.2 then some ((Ex.mk k j i h),f,e,b,d) else (aZ l f a e b d).bind λn=> (iP p l (i64.wrap (f+1)) a e b d).bind λc=> g (c.2.1,c.2.2.1,c.2.2.2.1,c.2.2.2.2,m.1,0,n.2.2.2,([(Ex.mk k j i h),(o c.1)]:List Ex)) else some ((Ex.mk k j i h),f,e,b,d)
def nz(e:Ex->Ex)(h:Sh->(R:Type)->Option R->Option R)(g:Q2->Option Q3)(ops:Q1)(l:Q6)(at_:Int)(b:aD)(d:Int)(f:Int)(c:Int):Option Q3:= (iP g l at_ b d f c).bind λa=> az (EF e h g ops l b) aB (a.2.1,a.2.2.1,a.2.2.2.1,a.2.2.2.2,a.1.op,a.1.n,a.1.at_,a.1.l)
theorem EI(a:bP)(b:fj a):Ko (I8 a):=
 aX (.l ⟨[(true,0,cz),(true,6,GU),(true,7,KI)],[]⟩ .o) call214 func214 (aj (DK a b) (aj cU (aj cg al))) al al λs=>(show _=nz bk aM a s.2.2.2.2.2.2 s.1 s.2.1 s.2.2.1 s.2.2.2.1 s.2.2.2.2.1 s.2.2.2.2.2.1 from by kernel_rfl).trans ((congrArg (λc=>nz c aM a s.2.2.2.2.2.2 s.1 s.2.1 s.2.2.1 s.2.2.2.1 s.2.2.2.2.1 s.2.2.2.2.2.1) aJ).trans ((congrArg (λd=>nz id d a s.2.2.2.2.2.2 s.1 s.2.1 s.2.2.1 s.2.2.2.1 s.2.2.2.2.1 s.2.2.2.2.2.1) aN).trans (by kernel_rfl)))
def Rg(a:bP):aq:=⟨225,[eQ],bF,[(true,0,cz)],λs=>lz a s.1 s.2.1 s.2.2.1 s.2.2.2.1 s.2.2.2.2.1 s.2.2.2.2.2⟩
def sg(e:Ex->Ex)(h:Sh->(R:Type)->Option R->Option R)(g:Q2->Option Q3)(l:Q6)(at_:Int)(c:aD)(d:Int)(f:Int)(b:Int):Option Q3:= (py g ([5]:xb) l at_ c d f b).bind λa=> some ((e a.1),a.2.1,a.2.2.1,a.2.2.2.1,a.2.2.2.2)
theorem Ju(a:bP)(b:fj a):Ko (Rg a):=
 aX .o call225 func225 (aj (EI a b) al) al al λs=>(show _=sg bk aM a s.1 s.2.1 s.2.2.1 s.2.2.2.1 s.2.2.2.2.1 s.2.2.2.2.2 from by kernel_rfl).trans ((congrArg (λc=>sg c aM a s.1 s.2.1 s.2.2.1 s.2.2.2.1 s.2.2.2.2.1 s.2.2.2.2.2) aJ).trans ((congrArg (λd=>sg id d a s.1 s.2.1 s.2.2.1 s.2.2.2.1 s.2.2.2.2.1 s.2.2.2.2.2) aN).trans (by kernel_rfl)))
def JB(a:bP):aq:=⟨214,[eQ,(.fn 225 [] []),aS],bF,[(true,0,cz)],λs=>pC a s.2.2.2.2.2.2 s.1 s.2.1 s.2.2.1 s.2.2.2.1 s.2.2.2.2.1 s.2.2.2.2.2.1⟩
def Ek(o:Ex->Ex)(q:Sh->(R:Type)->Option R->Option R)(p:Q2->Option Q3)(ops:Q1)(l:Q6)(a:aD)(g:yo->Option Q3):Int×Int×Int×Int×Int×Int×Int×(List Ex)->Option Q3:=λ⟨f,e,b,d,k,j,i,h⟩=> bif b==0 then (bM ops l f a e b d).bind λm=> bif !m.2 then some ((Ex.mk k j i h),f,e,b,d) else (aZ l f a e b d).bind λn=> (lz p l (i64.wrap (f+1)) a e b d).bind λc=> g (c.2.1,c.2.2.1,c.2.2.2.1,c.2.2.2.2,m.1,0,n.2.2.2,([(Ex.mk k j i h),(o c.1)]:List Ex)) else some ((Ex.mk k j i h),f,e,b,d)
def ny(e:Ex->Ex)(h:Sh->(R:Type)->Option R->Option R)(g:Q2->Option Q3)(ops:Q1)(l:Q6)(at_:Int)(b:aD)(d:Int)(f:Int)(c:Int):Option Q3:= (lz g l at_ b d f c).bind λa=> az (Ek e h g ops l b) aB (a.2.1,a.2.2.1,a.2.2.2.1,a.2.2.2.2,a.1.op,a.1.n,a.1.at_,a.1.l)
theorem DC(a:bP)(b:fj a):Ko (JB a):=
 aX (.l ⟨[(true,0,cz),(true,6,GU),(true,7,KI)],[]⟩ .o) call214 func214 (aj (Ju a b) (aj cU (aj cg al))) al al λs=>(show _=ny bk aM a s.2.2.2.2.2.2 s.1 s.2.1 s.2.2.1 s.2.2.2.1 s.2.2.2.2.1 s.2.2.2.2.2.1 from by kernel_rfl).trans ((congrArg (λc=>ny c aM a s.2.2.2.2.2.2 s.1 s.2.1 s.2.2.1 s.2.2.2.1 s.2.2.2.2.1 s.2.2.2.2.2.1) aJ).trans ((congrArg (λd=>ny id d a s.2.2.2.2.2.2 s.1 s.2.1 s.2.2.1 s.2.2.2.1 s.2.2.2.2.1 s.2.2.2.2.2.1) aN).trans (by kernel_rfl)))
def Sb(a:bP):aq:=⟨224,[eQ],bF,[(true,0,cz)],λs=>mI a s.1 s.2.1 s.2.2.1 s.2.2.2.1 s.2.2.2.2.1 s.2.2.2.2.2⟩
def tC(e:Ex->Ex)(h:Sh->(R:Type)->Option R->Option R)(g:Q2->Option Q3)(l:Q6)(at_:Int)(c:aD)(d:Int)(f:Int)(b:Int):Option Q3:= (pC g ([3,4]:xb) l at_ c d f b).bind λa=> some ((e a.1),a.2.1,a.2.2.1,a.2.2.2.1,a.2.2.2.2)
theorem Lf(a:bP)(b:fj a):Ko (Sb a):=
 aX .o call224 func224 (aj (DC a b) al) al al λs=>(show _=tC bk aM a s.1 s.2.1 s.2.2.1 s.2.2.2.1 s.2.2.2.2.1 s.2.2.2.2.2 from by kernel_rfl).trans ((congrArg (λc=>tC c aM a s.1 s.2.1 s.2.2.1 s.2.2.2.1 s.2.2.2.2.1 s.2.2.2.2.2) aJ).trans ((congrArg (λd=>tC id d a s.1 s.2.1 s.2.2.1 s.2.2.2.1 s.2.2.2.2.1 s.2.2.2.2.2) aN).trans (by kernel_rfl)))
def Uj(a:bP):aq:=⟨223,[eQ],bF,[(true,0,cz)],λs=>xL a s.1 s.2.1 s.2.2.1 s.2.2.2.1 s.2.2.2.2.1 s.2.2.2.2.2⟩
def ud(e:Ex->Ex)(o:Sh->(R:Type)->Option R->Option R)(n:Q2->Option Q3)(l:Q6)(at_:Int)(b:aD)(g:Int)(i:Int)(d:Int):Option Q3:= (mI n l at_ b g i d).bind λa=> (bM ([7,8,9,10,11,12]:xb) l a.2.1 b a.2.2.1 a.2.2.2.1 a.2.2.2.2).bind λf=> ai (a.2.2.2.1 != 0) λm=> ai (!f.2) λk=> ai (m||k) λj=> bif j then ( some ((e a.1),a.2.1,a.2.2.1,a.2.2.2.1,a.2.2.2.2)) else ( (aZ l a.2.1 b a.2.2.1 a.2.2.2.1 a.2.2.2.2).bind λh=> (mI n l (i64.wrap (a.2.1+1)) b a.2.2.1 a.2.2.2.1 a.2.2.2.2).bind λc=> some ((Ex.mk f.1 0 h.2.2.2 ([(e a.1),(e c.1)]:List Ex)),c.2.1,c.2.2.1,c.2.2.2.1,c.2.2.2.2))
theorem KD(a:bP)(b:fj a):Ko (Uj a):=
 aX .o call223 func223 (aj (Lf a b) (aj cU (aj cg al))) al al λs=>(show _=ud bk aM a s.1 s.2.1 s.2.2.1 s.2.2.2.1 s.2.2.2.2.1 s.2.2.2.2.2 from by kernel_rfl).trans ((congrArg (λc=>ud c aM a s.1 s.2.1 s.2.2.1 s.2.2.2.1 s.2.2.2.2.1 s.2.2.2.2.2) aJ).trans ((congrArg (λd=>ud id d a s.1 s.2.1 s.2.2.1 s.2.2.2.1 s.2.2.2.2.1 s.2.2.2.2.2) aN).trans (by kernel_rfl)))
def JG(a:bP)(b:RX):aq:=⟨222,[eQ,MO,(.fn 223 [] []),aS],bF,[(true,0,cz)],λs=>sd a b s.2.2.2.2.2.2 s.1 s.2.1 s.2.2.1 s.2.2.2.1 s.2.2.2.2.1 s.2.2.2.2.2.1⟩
def oB(h:Ex->Ex)(m:Sh->(R:Type)->Option R->Option R)(k:Q2->Option Q3)(j:Q2->Option Q3)(ops:Q1)(l:Q6)(at_:Int)(b:aD)(c:Int)(f:Int)(a:Int):Option Q3:= (bM ops l at_ b c f a).bind λg=> bif !g.2 then (xL k l at_ b c f a).bind λe=> some ((h e.1),e.2.1,e.2.2.1,e.2.2.2.1,e.2.2.2.2) else (aZ l at_ b c f a).bind λi=> (j (l,(i64.wrap (at_+1)),b,c,f,a)).bind λd=> some ((Ex.mk g.1 0 i.2.2.2 ([(h d.1)]:List Ex)),d.2.1,d.2.2.1,d.2.2.2.1,d.2.2.2.2)
theorem Fq(a:bP)(d:fj a)(b:RX)(f:OK7 b):Ko (JG a b):=
 aX (.c .o (.r [0,8] .o)) call222 func222 (aj cU (aj (KD a d) (aj cg (aj f al)))) al al λs=>(show _=oB bk aM a b s.2.2.2.2.2.2 s.1 s.2.1 s.2.2.1 s.2.2.2.1 s.2.2.2.2.1 s.2.2.2.2.2.1 from by kernel_rfl).trans ((congrArg (λe=>oB e aM a b s.2.2.2.2.2.2 s.1 s.2.1 s.2.2.1 s.2.2.2.1 s.2.2.2.2.1 s.2.2.2.2.2.1) aJ).trans ((congrArg (λg=>oB id g a b s.2.2.2.2.2.2 s.1 s.2.1 s.2.2.1 s.2.2.2.1 s.2.2.2.2.1 s.2.2.2.2.2.1) aN).trans (by kernel_rfl)))
def Su(a:bP)(b:RX):aq:=⟨221,[eQ],bF,[(true,0,cz)],λs=>xB a b s.1 s.2.1 s.2.2.1 s.2.2.2.1 s.2.2.2.2.1 s.2.2.2.2.2⟩
def uN(e:Ex->Ex)(i:Sh->(R:Type)->Option R->Option R)(h:Q2->Option Q3)(g:Q2->Option Q3)(l:Q6)(at_:Int)(c:aD)(d:Int)(f:Int)(b:Int):Option Q3:= (sd h g ([15,20,21,22]:xb) l at_ c d f b).bind λa=> some ((e a.1),a.2.1,a.2.2.1,a.2.2.2.1,a.2.2.2.2)
theorem Lc(a:bP)(c:fj a)(b:RX)(e:OK7 b):Ko (Su a b):=
 aX .o call221 func221 (aj (Fq a c b e) al) al al λs=>(show _=uN bk aM a b s.1 s.2.1 s.2.2.1 s.2.2.2.1 s.2.2.2.2.1 s.2.2.2.2.2 from by kernel_rfl).trans ((congrArg (λd=>uN d aM a b s.1 s.2.1 s.2.2.1 s.2.2.2.1 s.2.2.2.2.1 s.2.2.2.2.2) aJ).trans ((congrArg (λf=>uN id f a b s.1 s.2.1 s.2.2.1 s.2.2.2.1 s.2.2.2.2.1 s.2.2.2.2.2) aN).trans (by kernel_rfl)))
def tF(a:bP):aq:=⟨91,[eQ,MO],bF,[(true,0,cz)],λs=>nV a s.1 s.2.1 s.2.2.1 s.2.2.2.1 s.2.2.2.2.1 s.2.2.2.2.2⟩
def kC(f:Ex->Ex)(j:Sh->(R:Type)->Option R->Option R)(i:Q2->Option Q3)(h:Q2->Option Q3)(l:Q6)(at_:Int)(d:aD)(a:Int)(g:Int)(c:Int):Option Q3:= bif decide (320<=a) then (bY 9 l at_ d a g c).bind λe=> some ((f e.1),at_,a,e.2.1,e.2.2) else (xB i h l at_ d (i64.wrap (a+1)) g c).bind λb=> some ((f b.1),b.2.1,(i64.wrap (b.2.2.1-1)),b.2.2.2.1,b.2.2.2.2)
def uA(a:bP):RX->RX:=λb s=>ta a b s.1 s.2.1 s.2.2.1 s.2.2.2.1 s.2.2.2.2.1 s.2.2.2.2.2
theorem Ad(a:bP)(c:fj a)(b:RX)(e:OK7 b):(iz (uA a b)).Ok X0.P X0.Γ:=
 aX .o call91 func91 (aj fm (aj (Lc a c b e) al)) al al λs=>(show _=kC bk aM a b s.1 s.2.1 s.2.2.1 s.2.2.2.1 s.2.2.2.2.1 s.2.2.2.2.2 from by kernel_rfl).trans ((congrArg (λd=>kC d aM a b s.1 s.2.1 s.2.2.1 s.2.2.2.1 s.2.2.2.2.1 s.2.2.2.2.2) aJ).trans ((congrArg (λf=>kC id f a b s.1 s.2.1 s.2.2.1 s.2.2.2.1 s.2.2.2.2.1 s.2.2.2.2.2) aN).trans (by kernel_rfl)))
theorem Cg(a:bP)(b:fj a):Ko (tF a):=(show tF a=iz (az (uA a) aB) by kernel_rfl)▸dL (X:=X0) (E:=iz) ⟨call91,λ_ _ h=>nomatch h⟩ (Ad a b) aB
def I9(a:bP):aq:=⟨220,[eQ],bF,[(true,0,cz)],λs=>pN a s.1 s.2.1 s.2.2.1 s.2.2.2.1 s.2.2.2.2.1 s.2.2.2.2.2⟩
def nq(e:Ex->Ex)(h:Sh->(R:Type)->Option R->Option R)(g:Q2->Option Q3)(l:Q6)(at_:Int)(c:aD)(d:Int)(f:Int)(b:Int):Option Q3:= (nV g l at_ c d f b).bind λa=> some ((e a.1),a.2.1,a.2.2.1,a.2.2.2.1,a.2.2.2.2)
theorem DQ(a:bP)(b:fj a):Ko (I9 a):=
 aX .o call220 func220 (aj (Cg a b) al) al al λs=>(show _=nq bk aM a s.1 s.2.1 s.2.2.1 s.2.2.2.1 s.2.2.2.2.1 s.2.2.2.2.2 from by kernel_rfl).trans ((congrArg (λc=>nq c aM a s.1 s.2.1 s.2.2.1 s.2.2.2.1 s.2.2.2.2.1 s.2.2.2.2.2) aJ).trans ((congrArg (λd=>nq id d a s.1 s.2.1 s.2.2.1 s.2.2.2.1 s.2.2.2.2.1 s.2.2.2.2.2) aN).trans (by kernel_rfl)))
def Hs(a:bP)(b:RR):aq:=⟨137,[eQ,(.fn 220 [] []),Mh,aS],bF,[(true,0,cz)],λs=>oz a b s.2.2.2.2.2.2 s.1 s.2.1 s.2.2.1 s.2.2.2.1 s.2.2.2.2.1 s.2.2.2.2.2.1⟩
def lV(e:Ex->Ex)(p:Sh->(R:Type)->Option R->Option R)(o:Q2->Option Q3)(n:Q2->Option Q3)(ops:Q1)(l:Q6)(at_:Int)(b:aD)(g:Int)(i:Int)(d:Int):Option Q3:= (pN o l at_ b g i d).bind λa=> (bM ops l a.2.1 b a.2.2.1 a.2.2.2.1 a.2.2.2.2).bind λf=> ai (a.2.2.2.1 != 0) λm=> ai (!f.2) λk=> ai (m||k) λj=> bif j then ( some ((e a.1),a.2.1,a.2.2.1,a.2.2.2.1,a.2.2.2.2)) else ( (aZ l a.2.1 b a.2.2.1 a.2.2.2.1 a.2.2.2.2).bind λh=> (n (l,(i64.wrap (a.2.1+1)),b,a.2.2.1,a.2.2.2.1,a.2.2.2.2)).bind λc=> some ((Ex.mk f.1 0 h.2.2.2 ([(e a.1),(e c.1)]:List Ex)),c.2.1,c.2.2.1,c.2.2.2.1,c.2.2.2.2))
theorem Cc(a:bP)(c:fj a)(b:RR)(e:OK8 b):Ko (Hs a b):=
 aX .o call137 func137 (aj (DQ a c) (aj cU (aj cg (aj e al)))) al al λs=>(show _=lV bk aM a b s.2.2.2.2.2.2 s.1 s.2.1 s.2.2.1 s.2.2.2.1 s.2.2.2.2.1 s.2.2.2.2.2.1 from by kernel_rfl).trans ((congrArg (λd=>lV d aM a b s.2.2.2.2.2.2 s.1 s.2.1 s.2.2.1 s.2.2.2.1 s.2.2.2.2.1 s.2.2.2.2.2.1) aJ).trans ((congrArg (λf=>lV id f a b s.2.2.2.2.2.2 s.1 s.2.1 s.2.2.1 s.2.2.2.1 s.2.2.2.2.1 s.2.2.2.2.2.1) aN).trans (by kernel_rfl)))
def Nj(a:bP)(b:RR):aq:=⟨219,[eQ],bF,[(true,0,cz)],λs=>tQ a b s.1 s.2.1 s.2.2.1 s.2.2.2.1 s.2.2.2.2.1 s.2.2.2.2.2⟩
def pT(e:Ex->Ex)(i:Sh->(R:Type)->Option R->Option R)(h:Q2->Option Q3)(g:Q2->Option Q3)(l:Q6)(at_:Int)(c:aD)(d:Int)(f:Int)(b:Int):Option Q3:= (oz h g ([23,24]:xb) l at_ c d f b).bind λa=> some ((e a.1),a.2.1,a.2.2.1,a.2.2.2.1,a.2.2.2.2)
theorem Hz(a:bP)(c:fj a)(b:RR)(e:OK8 b):Ko (Nj a b):=
 aX .o call219 func219 (aj (Cc a c b e) al) al al λs=>(show _=pT bk aM a b s.1 s.2.1 s.2.2.1 s.2.2.2.1 s.2.2.2.2.1 s.2.2.2.2.2 from by kernel_rfl).trans ((congrArg (λd=>pT d aM a b s.1 s.2.1 s.2.2.1 s.2.2.2.1 s.2.2.2.2.1 s.2.2.2.2.2) aJ).trans ((congrArg (λf=>pT id f a b s.1 s.2.1 s.2.2.1 s.2.2.2.1 s.2.2.2.2.1 s.2.2.2.2.2) aN).trans (by kernel_rfl)))
def uC(a:bP):aq:=⟨91,[eQ,Mh],bF,[(true,0,cz)],λs=>ob a s.1 s.2.1 s.2.2.1 s.2.2.2.1 s.2.2.2.2.1 s.2.2.2.2.2⟩
def ku(f:Ex->Ex)(j:Sh->(R:Type)->Option R->Option R)(i:Q2->Option Q3)(h:Q2->Option Q3)(l:Q6)(at_:Int)(d:aD)(a:Int)(g:Int)(c:Int):Option Q3:= bif decide (320<=a) then (bY 9 l at_ d a g c).bind λe=> some ((f e.1),at_,a,e.2.1,e.2.2) else (tQ i h l at_ d (i64.wrap (a+1)) g c).bind λb=> some ((f b.1),b.2.1,(i64.wrap (b.2.2.1-1)),b.2.2.2.1,b.2.2.2.2)
def uT(a:bP):RR->RR:=λb s=>uE a b s.1 s.2.1 s.2.2.1 s.2.2.2.1 s.2.2.2.2.1 s.2.2.2.2.2
theorem yP(a:bP)(c:fj a)(b:RR)(e:OK8 b):(iD (uT a b)).Ok X0.P X0.Γ:=
 aX .o call91 func91 (aj fm (aj (Hz a c b e) al)) al al λs=>(show _=ku bk aM a b s.1 s.2.1 s.2.2.1 s.2.2.2.1 s.2.2.2.2.1 s.2.2.2.2.2 from by kernel_rfl).trans ((congrArg (λd=>ku d aM a b s.1 s.2.1 s.2.2.1 s.2.2.2.1 s.2.2.2.2.1 s.2.2.2.2.2) aJ).trans ((congrArg (λf=>ku id f a b s.1 s.2.1 s.2.2.1 s.2.2.2.1 s.2.2.2.2.1 s.2.2.2.2.2) aN).trans (by kernel_rfl)))
theorem Ca(a:bP)(b:fj a):Ko (uC a):=(show uC a=iD (az (uT a) aB) by kernel_rfl)▸dL (X:=X0) (E:=iD) ⟨call91,λ_ _ h=>nomatch h⟩ (yP a b) aB
def F3(a:bP):aq:=⟨218,[eQ],bF,[(true,0,cz)],λs=>gG a s.1 s.2.1 s.2.2.1 s.2.2.2.1 s.2.2.2.2.1 s.2.2.2.2.2⟩
def kZ(e:Ex->Ex)(h:Sh->(R:Type)->Option R->Option R)(g:Q2->Option Q3)(l:Q6)(at_:Int)(c:aD)(d:Int)(f:Int)(b:Int):Option Q3:= (ob g l at_ c d f b).bind λa=> some ((e a.1),a.2.1,a.2.2.1,a.2.2.2.1,a.2.2.2.2)
theorem Ba(a:bP)(b:fj a):Ko (F3 a):=
 aX .o call218 func218 (aj (Ca a b) al) al al λs=>(show _=kZ bk aM a s.1 s.2.1 s.2.2.1 s.2.2.2.1 s.2.2.2.2.1 s.2.2.2.2.2 from by kernel_rfl).trans ((congrArg (λc=>kZ c aM a s.1 s.2.1 s.2.2.1 s.2.2.2.1 s.2.2.2.2.1 s.2.2.2.2.2) aJ).trans ((congrArg (λd=>kZ id d a s.1 s.2.1 s.2.2.1 s.2.2.2.1 s.2.2.2.2.1 s.2.2.2.2.2) aN).trans (by kernel_rfl)))
def Js(a:bP):aq:=⟨214,[eQ,(.fn 218 [] []),aS],bF,[(true,0,cz)],λs=>pS a s.2.2.2.2.2.2 s.1 s.2.1 s.2.2.1 s.2.2.2.1 s.2.2.2.2.1 s.2.2.2.2.2.1⟩
def DX(o:Ex->Ex)(q:Sh->(R:Type)->Option R->Option R)(p:Q2->Option Q3)(ops:Q1)(l:Q6)(a:aD)(g:yo->Option Q3):Int×Int×Int×Int×Int×Int×Int×(List Ex)->Option Q3:=λ⟨f,e,b,d,k,j,i,h⟩=> bif b==0 then (bM ops l f a e b d).bind λm=> bif !m.2 then some ((Ex.mk k j i h),f,e,b,d) else (aZ l f a e b d).bind λn=> (gG p l (i64.wrap (f+1)) a e b d).bind λc=> g (c.2.1,c.2.2.1,c.2.2.2.1,c.2.2.2.2,m.1,0,n.2.2.2,([(Ex.mk k j i h),(o c.1)]:List Ex)) else some ((Ex.mk k j i h),f,e,b,d)
def nh(e:Ex->Ex)(h:Sh->(R:Type)->Option R->Option R)(g:Q2->Option Q3)(ops:Q1)(l:Q6)(at_:Int)(b:aD)(d:Int)(f:Int)(c:Int):Option Q3:= (gG g l at_ b d f c).bind λa=> az (DX e h g ops l b) aB (a.2.1,a.2.2.1,a.2.2.2.1,a.2.2.2.2,a.1.op,a.1.n,a.1.at_,a.1.l)
theorem EB(a:bP)(b:fj a):Ko (Js a):=
 aX (.l ⟨[(true,0,cz),(true,6,GU),(true,7,KI)],[]⟩ .o) call214 func214 (aj (Ba a b) (aj cU (aj cg al))) al al λs=>(show _=nh bk aM a s.2.2.2.2.2.2 s.1 s.2.1 s.2.2.1 s.2.2.2.1 s.2.2.2.2.1 s.2.2.2.2.2.1 from by kernel_rfl).trans ((congrArg (λc=>nh c aM a s.2.2.2.2.2.2 s.1 s.2.1 s.2.2.1 s.2.2.2.1 s.2.2.2.2.1 s.2.2.2.2.2.1) aJ).trans ((congrArg (λd=>nh id d a s.2.2.2.2.2.2 s.1 s.2.1 s.2.2.1 s.2.2.2.1 s.2.2.2.2.1 s.2.2.2.2.2.1) aN).trans (by kernel_rfl)))
def R8(a:bP):aq:=⟨215,[eQ],bF,[(true,0,cz)],λs=>mP a s.1 s.2.1 s.2.2.1 s.2.2.2.1 s.2.2.2.2.1 s.2.2.2.2.2⟩
def tn(e:Ex->Ex)(h:Sh->(R:Type)->Option R->Option R)(g:Q2->Option Q3)(l:Q6)(at_:Int)(c:aD)(d:Int)(f:Int)(b:Int):Option Q3:= (pS g ([16]:xb) l at_ c d f b).bind λa=> some ((e a.1),a.2.1,a.2.2.1,a.2.2.2.1,a.2.2.2.2)
theorem KO(a:bP)(b:fj a):Ko (R8 a):=
 aX .o call215 func215 (aj (EB a b) al) al al λs=>(show _=tn bk aM a s.1 s.2.1 s.2.2.1 s.2.2.2.1 s.2.2.2.2.1 s.2.2.2.2.2 from by kernel_rfl).trans ((congrArg (λc=>tn c aM a s.1 s.2.1 s.2.2.1 s.2.2.2.1 s.2.2.2.2.1 s.2.2.2.2.2) aJ).trans ((congrArg (λd=>tn id d a s.1 s.2.1 s.2.2.1 s.2.2.2.1 s.2.2.2.2.1 s.2.2.2.2.2) aN).trans (by kernel_rfl)))
def P1(a:bP):aq:=⟨214,[eQ,(.fn 215 [] []),aS],bF,[(true,0,cz)],λs=>vE a s.2.2.2.2.2.2 s.1 s.2.1 s.2.2.1 s.2.2.2.1 s.2.2.2.2.1 s.2.2.2.2.2.1⟩
def Jb(o:Ex->Ex)(q:Sh->(R:Type)->Option R->Option R)(p:Q2->Option Q3)(ops:Q1)(l:Q6)(a:aD)(g:yo->Option Q3):Int×Int×Int×Int×Int×Int×Int×(List Ex)->Option Q3:=λ⟨f,e,b,d,k,j,i,h⟩=> bif b==0 then (bM ops l f a e b d).bind λm=> bif !m.2 then some ((Ex.mk k j i h),f,e,b,d) else (aZ l f a e b d).bind λn=> (mP p l (i64.wrap (f+1)) a e b d).bind λc=> g (c.2.1,c.2.2.1,c.2.2.2.1,c.2.2.2.2,m.1,0,n.2.2.2,([(Ex.mk k j i h),(o c.1)]:List Ex)) else some ((Ex.mk k j i h),f,e,b,d)
def sn(e:Ex->Ex)(h:Sh->(R:Type)->Option R->Option R)(g:Q2->Option Q3)(ops:Q1)(l:Q6)(at_:Int)(b:aD)(d:Int)(f:Int)(c:Int):Option Q3:= (mP g l at_ b d f c).bind λa=> az (Jb e h g ops l b) aB (a.2.1,a.2.2.1,a.2.2.2.1,a.2.2.2.2,a.1.op,a.1.n,a.1.at_,a.1.l)
theorem Jp(a:bP)(b:fj a):Ko (P1 a):=
 aX (.l ⟨[(true,0,cz),(true,6,GU),(true,7,KI)],[]⟩ .o) call214 func214 (aj (KO a b) (aj cU (aj cg al))) al al λs=>(show _=sn bk aM a s.2.2.2.2.2.2 s.1 s.2.1 s.2.2.1 s.2.2.2.1 s.2.2.2.2.1 s.2.2.2.2.2.1 from by kernel_rfl).trans ((congrArg (λc=>sn c aM a s.2.2.2.2.2.2 s.1 s.2.1 s.2.2.1 s.2.2.2.1 s.2.2.2.2.1 s.2.2.2.2.2.1) aJ).trans ((congrArg (λd=>sn id d a s.2.2.2.2.2.2 s.1 s.2.1 s.2.2.1 s.2.2.2.1 s.2.2.2.2.1 s.2.2.2.2.2.1) aN).trans (by kernel_rfl)))
def Vr(a:bP):aq:=⟨206,[eQ],bF,[(true,0,cz)],λs=>BC a s.1 s.2.1 s.2.2.1 s.2.2.2.1 s.2.2.2.2.1 s.2.2.2.2.2⟩
def vO(e:Ex->Ex)(h:Sh->(R:Type)->Option R->Option R)(g:Q2->Option Q3)(l:Q6)(at_:Int)(c:aD)(d:Int)(f:Int)(b:Int):Option Q3:= (vE g ([17]:xb) l at_ c d f b).bind λa=> some ((e a.1),a.2.1,a.2.2.1,a.2.2.2.1,a.2.2.2.2)
theorem NM(a:bP)(b:fj a):Ko (Vr a):=
 aX .o call206 func206 (aj (Jp a b) al) al al λs=>(show _=vO bk aM a s.1 s.2.1 s.2.2.1 s.2.2.2.1 s.2.2.2.2.1 s.2.2.2.2.2 from by kernel_rfl).trans ((congrArg (λc=>vO c aM a s.1 s.2.1 s.2.2.1 s.2.2.2.1 s.2.2.2.2.1 s.2.2.2.2.2) aJ).trans ((congrArg (λd=>vO id d a s.1 s.2.1 s.2.2.1 s.2.2.2.1 s.2.2.2.2.1 s.2.2.2.2.2) aN).trans (by kernel_rfl)))
def HY(a:bP)(b:Rk):aq:=⟨137,[eQ,(.fn 206 [] []),Me,aS],bF,[(true,0,cz)],λs=>nW a b s.2.2.2.2.2.2 s.1 s.2.1 s.2.2.1 s.2.2.2.1 s.2.2.2.2.1 s.2.2.2.2.2.1⟩
def lZ(e:Ex->Ex)(p:Sh->(R:Type)->Option R->Option R)(o:Q2->Option Q3)(n:Q2->Option Q3)(ops:Q1)(l:Q6)(at_:Int)(b:aD)(g:Int)(i:Int)(d:Int):Option Q3:= (BC o l at_ b g i d).bind λa=> (bM ops l a.2.1 b a.2.2.1 a.2.2.2.1 a.2.2.2.2).bind λf=> ai (a.2.2.2.1 != 0) λm=> ai (!f.2) λk=> ai (m||k) λj=> bif j then ( some ((e a.1),a.2.1,a.2.2.1,a.2.2.2.1,a.2.2.2.2)) else ( (aZ l a.2.1 b a.2.2.1 a.2.2.2.1 a.2.2.2.2).bind λh=> (n (l,(i64.wrap (a.2.1+1)),b,a.2.2.1,a.2.2.2.1,a.2.2.2.2)).bind λc=> some ((Ex.mk f.1 0 h.2.2.2 ([(e a.1),(e c.1)]:List Ex)),c.2.1,c.2.2.1,c.2.2.2.1,c.2.2.2.2))
theorem B6(a:bP)(c:fj a)(b:Rk)(e:OK9 b):Ko (HY a b):=
 aX .o call137 func137 (aj (NM a c) (aj cU (aj cg (aj e al)))) al al λs=>(show _=lZ bk aM a b s.2.2.2.2.2.2 s.1 s.2.1 s.2.2.1 s.2.2.2.1 s.2.2.2.2.1 s.2.2.2.2.2.1 from by kernel_rfl).trans ((congrArg (λd=>lZ d aM a b s.2.2.2.2.2.2 s.1 s.2.1 s.2.2.1 s.2.2.2.1 s.2.2.2.2.1 s.2.2.2.2.2.1) aJ).trans ((congrArg (λf=>lZ id f a b s.2.2.2.2.2.2 s.1 s.2.1 s.2.2.1 s.2.2.2.1 s.2.2.2.2.1 s.2.2.2.2.2.1) aN).trans (by kernel_rfl)))
def S7(a:bP)(b:Rk):aq:=⟨184,[eQ],bF,[(true,0,cz)],λs=>ya a b s.1 s.2.1 s.2.2.1 s.2.2.2.1 s.2.2.2.2.1 s.2.2.2.2.2⟩
def tY(e:Ex->Ex)(i:Sh->(R:Type)->Option R->Option R)(h:Q2->Option Q3)(g:Q2->Option Q3)(l:Q6)(at_:Int)(c:aD)(d:Int)(f:Int)(b:Int):Option Q3:= (nW h g ([18]:xb) l at_ c d f b).bind λa=> some ((e a.1),a.2.1,a.2.2.1,a.2.2.2.1,a.2.2.2.2)
theorem Lg(a:bP)(c:fj a)(b:Rk)(e:OK9 b):Ko (S7 a b):=
 aX .o call184 func184 (aj (B6 a c b e) al) al al λs=>(show _=tY bk aM a b s.1 s.2.1 s.2.2.1 s.2.2.2.1 s.2.2.2.2.1 s.2.2.2.2.2 from by kernel_rfl).trans ((congrArg (λd=>tY d aM a b s.1 s.2.1 s.2.2.1 s.2.2.2.1 s.2.2.2.2.1 s.2.2.2.2.2) aJ).trans ((congrArg (λf=>tY id f a b s.1 s.2.1 s.2.2.1 s.2.2.2.1 s.2.2.2.2.1 s.2.2.2.2.2) aN).trans (by kernel_rfl)))
def tg(a:bP):aq:=⟨91,[eQ,Me],bF,[(true,0,cz)],λs=>oy a s.1 s.2.1 s.2.2.1 s.2.2.2.1 s.2.2.2.2.1 s.2.2.2.2.2⟩
def kJ(f:Ex->Ex)(j:Sh->(R:Type)->Option R->Option R)(i:Q2->Option Q3)(h:Q2->Option Q3)(l:Q6)(at_:Int)(d:aD)(a:Int)(g:Int)(c:Int):Option Q3:= bif decide (320<=a) then (bY 9 l at_ d a g c).bind λe=> some ((f e.1),at_,a,e.2.1,e.2.2) else (ya i h l at_ d (i64.wrap (a+1)) g c).bind λb=> some ((f b.1),b.2.1,(i64.wrap (b.2.2.1-1)),b.2.2.2.1,b.2.2.2.2)
def tD(a:bP):Rk->Rk:=λb s=>tO a b s.1 s.2.1 s.2.2.1 s.2.2.2.1 s.2.2.2.2.1 s.2.2.2.2.2
theorem Ac(a:bP)(c:fj a)(b:Rk)(e:OK9 b):(ix (tD a b)).Ok X0.P X0.Γ:=
 aX .o call91 func91 (aj fm (aj (Lg a c b e) al)) al al λs=>(show _=kJ bk aM a b s.1 s.2.1 s.2.2.1 s.2.2.2.1 s.2.2.2.2.1 s.2.2.2.2.2 from by kernel_rfl).trans ((congrArg (λd=>kJ d aM a b s.1 s.2.1 s.2.2.1 s.2.2.2.1 s.2.2.2.2.1 s.2.2.2.2.2) aJ).trans ((congrArg (λf=>kJ id f a b s.1 s.2.1 s.2.2.1 s.2.2.2.1 s.2.2.2.2.1 s.2.2.2.2.2) aN).trans (by kernel_rfl)))
theorem Cv(a:bP)(b:fj a):Ko (tg a):=(show tg a=ix (az (tD a) aB) by kernel_rfl)▸dL (X:=X0) (E:=ix) ⟨call91,λ_ _ h=>nomatch h⟩ (Ac a b) aB
def Jc(a:bP):aq:=⟨138,[eQ],bF,[(true,0,cz)],λs=>pB a s.1 s.2.1 s.2.2.1 s.2.2.2.1 s.2.2.2.2.1 s.2.2.2.2.2⟩
def np(e:Ex->Ex)(h:Sh->(R:Type)->Option R->Option R)(g:Q2->Option Q3)(l:Q6)(at_:Int)(c:aD)(d:Int)(f:Int)(b:Int):Option Q3:= (oy g l at_ c d f b).bind λa=> some ((e a.1),a.2.1,a.2.2.1,a.2.2.2.1,a.2.2.2.2)
theorem Ej(a:bP)(b:fj a):Ko (Jc a):=
 aX .o call138 func138 (aj (Cv a b) al) al al λs=>(show _=np bk aM a s.1 s.2.1 s.2.2.1 s.2.2.2.1 s.2.2.2.2.1 s.2.2.2.2.2 from by kernel_rfl).trans ((congrArg (λc=>np c aM a s.1 s.2.1 s.2.2.1 s.2.2.2.1 s.2.2.2.2.1 s.2.2.2.2.2) aJ).trans ((congrArg (λd=>np id d a s.1 s.2.1 s.2.2.1 s.2.2.2.1 s.2.2.2.2.1 s.2.2.2.2.2) aN).trans (by kernel_rfl)))
def NL(a:bP):aq:=⟨137,[eQ,(.fn 138 [] []),(.fn 92 [] []),aS],bF,[(true,0,cz)],λs=>uh a s.2.2.2.2.2.2 s.1 s.2.1 s.2.2.1 s.2.2.2.1 s.2.2.2.2.1 s.2.2.2.2.2.1⟩
def pO(e:Ex->Ex)(o:Sh->(R:Type)->Option R->Option R)(n:Q2->Option Q3)(ops:Q1)(l:Q6)(at_:Int)(b:aD)(g:Int)(i:Int)(d:Int):Option Q3:= (pB n l at_ b g i d).bind λa=> (bM ops l a.2.1 b a.2.2.1 a.2.2.2.1 a.2.2.2.2).bind λf=> ai (a.2.2.2.1 != 0) λm=> ai (!f.2) λk=> ai (m||k) λj=> bif j then ( some ((e a.1),a.2.1,a.2.2.1,a.2.2.2.1,a.2.2.2.2)) else ( (aZ l a.2.1 b a.2.2.1 a.2.2.2.1 a.2.2.2.2).bind λh=> (n (l,(i64.wrap (a.2.1+1)),b,a.2.2.1,a.2.2.2.1,a.2.2.2.2)).bind λc=> some ((Ex.mk f.1 0 h.2.2.2 ([(e a.1),(e c.1)]:List Ex)),c.2.1,c.2.2.1,c.2.2.2.1,c.2.2.2.2))
theorem G2(a:bP)(b:fj a):Ko (NL a):=
 aX .o call137 func137 (aj (Ej a b) (aj cU (aj cg (aj b al)))) al al λs=>(show _=pO bk aM a s.2.2.2.2.2.2 s.1 s.2.1 s.2.2.1 s.2.2.2.1 s.2.2.2.2.1 s.2.2.2.2.2.1 from by kernel_rfl).trans ((congrArg (λc=>pO c aM a s.2.2.2.2.2.2 s.1 s.2.1 s.2.2.1 s.2.2.2.1 s.2.2.2.2.1 s.2.2.2.2.2.1) aJ).trans ((congrArg (λd=>pO id d a s.2.2.2.2.2.2 s.1 s.2.1 s.2.2.1 s.2.2.2.1 s.2.2.2.2.1 s.2.2.2.2.2.1) aN).trans (by kernel_rfl)))
def UI(a:bP):aq:=⟨92,[eQ],bF,[(true,0,cz)],λs=>xF a s.1 s.2.1 s.2.2.1 s.2.2.2.1 s.2.2.2.2.1 s.2.2.2.2.2⟩
def uM(e:Ex->Ex)(h:Sh->(R:Type)->Option R->Option R)(g:Q2->Option Q3)(l:Q6)(at_:Int)(c:aD)(d:Int)(f:Int)(b:Int):Option Q3:= (uh g ([19]:xb) l at_ c d f b).bind λa=> some ((e a.1),a.2.1,a.2.2.1,a.2.2.2.1,a.2.2.2.2)
theorem Kb(a:bP)(b:fj a):Ko (UI a):=
 aX .o call92 func92 (aj (G2 a b) al) al al λs=>(show _=uM bk aM a s.1 s.2.1 s.2.2.1 s.2.2.2.1 s.2.2.2.2.1 s.2.2.2.2.2 from by kernel_rfl).trans ((congrArg (λc=>uM c aM a s.1 s.2.1 s.2.2.1 s.2.2.2.1 s.2.2.2.2.1 s.2.2.2.2.2) aJ).trans ((congrArg (λd=>uM id d a s.1 s.2.1 s.2.2.1 s.2.2.2.1 s.2.2.2.2.1 s.2.2.2.2.2) aN).trans (by kernel_rfl)))
def ye:aq:=⟨91,[eQ,(.fn 92 [] [])],bF,[(true,0,cz)],U6 uG⟩
def mZ(f:Ex->Ex)(i:Sh->(R:Type)->Option R->Option R)(h:Q2->Option Q3)(l:Q6)(at_:Int)(d:aD)(a:Int)(g:Int)(c:Int):Option Q3:= bif decide (320<=a) then (bY 9 l at_ d a g c).bind λe=> some ((f e.1),at_,a,e.2.1,e.2.2) else (xF h l at_ d (i64.wrap (a+1)) g c).bind λb=> some ((f b.1),b.2.1,(i64.wrap (b.2.2.1-1)),b.2.2.2.1,b.2.2.2.2)
def yu:bP->bP:=λa s=>yA a s.1 s.2.1 s.2.2.1 s.2.2.2.1 s.2.2.2.2.1 s.2.2.2.2.2
theorem EC(a:bP)(b:fj a):(jZ (yu a)).Ok X0.P X0.Γ:=
 aX .o call91 func91 (aj fm (aj (Kb a b) al)) al al λs=>(show _=mZ bk aM a s.1 s.2.1 s.2.2.1 s.2.2.2.1 s.2.2.2.2.1 s.2.2.2.2.2 from by kernel_rfl).trans ((congrArg (λc=>mZ c aM a s.1 s.2.1 s.2.2.1 s.2.2.2.1 s.2.2.2.2.1 s.2.2.2.2.2) aJ).trans ((congrArg (λd=>mZ id d a s.1 s.2.1 s.2.2.1 s.2.2.2.1 s.2.2.2.2.1 s.2.2.2.2.2) aN).trans (by kernel_rfl)))
theorem Iu:Ko ye:=(show ye=jZ (az (yu) aB) by kernel_rfl)▸dL (X:=X0) (E:=jZ) ⟨call91,λ_ _ h=>nomatch h⟩ (EC) aB
def ace:aq:=⟨58,[(.sli nd),an,(.sli .s)],(.cC [bF,an,an,an]),[],U3 Hc⟩
def As(c:Ex->Ex)(d:Sh->(R:Type)->Option R->Option R)(l:Q6)(at_:Int)(b:aD):Option O6:= (uG l at_ b 0 0 0).bind λa=> bif a.2.2.2.1 != 0 then some ((Ex.mk 0 0 0 []),0,a.2.2.2.1,a.2.2.2.2) else some ((c a.1),a.2.1,0,0)
theorem Uq:Ko ace:=
 aX (.c (.r [6] .o) (.r [6] .o)) call58 func58 (aj Iu al) al al λs=>(show _=As bk aM s.1 s.2.1 s.2.2 from by kernel_rfl).trans ((congrArg (λa=>As a aM s.1 s.2.1 s.2.2) aJ).trans ((congrArg (λb=>As id b s.1 s.2.1 s.2.2) aN).trans (by kernel_rfl)))
def ahZ:aq:=⟨112,[fG],.bool,[],λs=>oX s⟩
def JH(a:Ex->Ex)(g:Sh->(R:Type)->Option R->Option R)(e:Ex):vb:= (km (a e)).bind λd=> ai (d.2.1==0) λf=> ai (d.1==2) λc=> ai (f&&c) λb=> some b
theorem BI:Ko ahZ:=
 aX .o call112 func112 (aj pg al) al al λs=>(show _=JH bk aM s from by kernel_rfl).trans ((congrArg (λa=>JH a aM s) aJ).trans ((congrArg (λb=>JH id b s) aN).trans (by kernel_rfl)))
def Yi(a:GY):aq:=⟨185,[an,.bool,VA,(.bx 261 0 true [Bi])],fG,[(true,3,ZB),(true,1003,Bi)],λs=>bz a s.1 s.2.1 s.2.2.1 s.2.2.2.1 s.2.2.2.2.1 s.2.2.2.2.2.1 s.2.2.2.2.2.2⟩
def xT(b:Ex->Ex)(e:Sh->(R:Type)->Option R->Option R)(d:Oc->Option iR)(i:Int)(not:Bool)(f:Int)(h:Int)(g:Int)(L:(List Ex))(x:Int):Option iR:= (idx L i).bind λc=> (d ((b c),not,x)).bind λa=> some ((b a.1),a.2)
theorem Az(a:GY)(b:alI a):Ko (Yi a):=
 aX (.r [3,6] .o) call185 func185 (aj b al) al al λs=>(show _=xT bk aM a s.1 s.2.1 s.2.2.1 s.2.2.2.1 s.2.2.2.2.1 s.2.2.2.2.2.1 s.2.2.2.2.2.2 from by kernel_rfl).trans ((congrArg (λc=>xT c aM a s.1 s.2.1 s.2.2.1 s.2.2.2.1 s.2.2.2.2.1 s.2.2.2.2.2.1 s.2.2.2.2.2.2) aJ).trans ((congrArg (λd=>xT id d a s.1 s.2.1 s.2.2.1 s.2.2.2.1 s.2.2.2.2.1 s.2.2.2.2.2.1 s.2.2.2.2.2.2) aN).trans (by kernel_rfl)))
def Yf:aq:=⟨186,[an,an,fG,fG,MS,VA],bF,[],U9 dS⟩
def P5(d:Ex->Ex)(e:Sh->(R:Type)->Option R->Option R)(a:Ex)(b:Ex)(At:Int)(c:Int):Option Ex:= some (Ex.mk c 0 At ([(d a),(d b)]:List Ex))
def xI(f:Ex->Ex)(g:Sh->(R:Type)->Option R->Option R)(op:Int)(d:Int)(a:Ex)(b:Ex)(x:Bool)(h:Int)(i:Int)(At:Int)(j:(List Ex)):Option Ex:= ai (λ(e:Int)=>P5 f g a b At e) λc=> bif x then ( c d) else ( c op)
theorem PF:Ko Yf:=
 aX (.s (.j ⟨[(false,0,an)],[]⟩ .o .o)) call186 func186 al al al λs=>(show _=xI bk aM s.1 s.2.1 s.2.2.1 s.2.2.2.1 s.2.2.2.2.1 s.2.2.2.2.2.1 s.2.2.2.2.2.2.1 s.2.2.2.2.2.2.2.1 s.2.2.2.2.2.2.2.2 from by kernel_rfl).trans ((congrArg (λa=>xI a aM s.1 s.2.1 s.2.2.1 s.2.2.2.1 s.2.2.2.2.1 s.2.2.2.2.2.1 s.2.2.2.2.2.2.1 s.2.2.2.2.2.2.2.1 s.2.2.2.2.2.2.2.2) aJ).trans ((congrArg (λb=>xI id b s.1 s.2.1 s.2.2.1 s.2.2.2.1 s.2.2.2.2.1 s.2.2.2.2.2.1 s.2.2.2.2.2.2.1 s.2.2.2.2.2.2.2.1 s.2.2.2.2.2.2.2.2) aN).trans (by kernel_rfl)))
def Yc(a:GY):aq:=⟨188,[.bool,.bool,VA,(.bx 304 0 true [(.fn 185 [] [(.ptr 0 0),(.bx 261 0 true [Bi])])])],bF,[(true,3,(.bx 304 0 true [.same])),(true,1003,ZB),(true,1004,Bi)],λs=>ra a s.1 s.2.1 s.2.2.1 s.2.2.2.1 s.2.2.2.2.1 s.2.2.2.2.2.1 s.2.2.2.2.2.2⟩
def xy(d:Ex->Ex)(g:Sh->(R:Type)->Option R->Option R)(e:Oc->Option iR)(x:Bool)(y:Bool)(f:Int)(N:Int)(At:Int)(L:(List Ex))(c:Int):Option iR:= (bz e 0 x f N At L c).bind λb=> (bz e 1 y f N At L b.2).bind λa=> some ((Ex.mk 16 0 At ([(d b.1),(d a.1)]:List Ex)),a.2)
theorem Qq(a:GY)(b:alI a):Ko (Yc a):=
 aX (.r [3,6] .o) call188 func188 (aj (Az a b) al) al al λs=>(show _=xy bk aM a s.1 s.2.1 s.2.2.1 s.2.2.2.1 s.2.2.2.2.1 s.2.2.2.2.2.1 s.2.2.2.2.2.2 from by kernel_rfl).trans ((congrArg (λc=>xy c aM a s.1 s.2.1 s.2.2.1 s.2.2.2.1 s.2.2.2.2.1 s.2.2.2.2.2.1 s.2.2.2.2.2.2) aJ).trans ((congrArg (λd=>xy id d a s.1 s.2.1 s.2.2.1 s.2.2.2.1 s.2.2.2.2.1 s.2.2.2.2.2.1 s.2.2.2.2.2.2) aN).trans (by kernel_rfl)))
def Y9:aq:=⟨187,[an,an,(.bx 261 0 true [Bi]),MS,VA],bF,[(true,2,ZB),(true,1001,Bi)],λs=>ri s.1 s.2.1 s.2.2.2.1 s.2.2.2.2.1 s.2.2.2.2.2.1 s.2.2.2.2.2.2.1 s.2.2.2.2.2.2.2 s.2.2.1⟩
theorem Rb:Ko Y9:=
 aw .o call187 func187 al
def SX:aq:=⟨139,[fG,.bool,Bi],fG,[(true,2,Bi)],U3 Pw⟩
def YQ(b:Ex->Ex)(i:Sh->(R:Type)->Option R->Option R)(h:Oc->Option iR)(e:Ex)(not:Bool)(c:Int)(a:Bool):Option iR:= (bz h 0 a e.op e.n e.at_ e.l (i64.wrap (c-1))).bind λf=> (bz h 1 not e.op e.n e.at_ e.l f.2).bind λd=> (dS 17 16 (b f.1) (b d.1) not e.op e.n e.at_ e.l).bind λg=> some ((b g),d.2)
def BR(a:Ex->Ex)(C:Sh->(R:Type)->Option R->Option R)(c:Oc->Option iR)(e:Ex)(not:Bool)(b:Int):Option iR:= bif decide ((i64.wrap (b-1))<0) then some ((Ex.mk 0 0 0 []),(i64.wrap (b-1))) else (oX (a e)).bind λB=> bif B then ( bif not then ( some ((Ex.mk 15 0 e.at_ ([(a e)]:List Ex)),(i64.wrap (b-1)))) else ( some ((a e),(i64.wrap (b-1))))) else ( ai (λ(z:Bool)=>YQ a C c e not b z) λo=> bif e.op==15 then (bz c 0 (!not) e.op e.n e.at_ e.l (i64.wrap ((i64.wrap (b-1))+1))).bind λu=> some ((a u.1),u.2) else bif e.op==18 then o (!not) else bif e.op==17 then o not else bif e.op==16 then (bz c 0 not e.op e.n e.at_ e.l (i64.wrap (b-1))).bind λt=> (bz c 1 not e.op e.n e.at_ e.l t.2).bind λs=> (dS 16 17 (a t.1) (a s.1) not e.op e.n e.at_ e.l).bind λA=> some ((a A),s.2) else bif e.op==19 then (ra c false not e.op e.n e.at_ e.l (i64.wrap ((i64.wrap (b-1))-2))).bind λr=> (ra c true (!not) e.op e.n e.at_ e.l r.2).bind λq=> some ((Ex.mk 17 0 e.at_ ([(a r.1),(a q.1)]:List Ex)),q.2) else bif e.op==20 then (bz c 0 not e.op e.n e.at_ e.l (i64.wrap (b-1))).bind λp=> some ((Ex.mk 20 0 e.at_ ([(a p.1)]:List Ex)),p.2) else bif e.op==21 then (ri 13 14 not e.op e.n e.at_ e.l (i64.wrap (b-1))).bind λm=> (bz c 0 not e.op e.n e.at_ e.l m.2).bind λk=> (dS 23 24 (a m.1) (a k.1) not e.op e.n e.at_ e.l).bind λy=> some ((a y),k.2) else bif e.op==22 then (ri 14 13 not e.op e.n e.at_ e.l (i64.wrap (b-1))).bind λj=> (bz c 0 not e.op e.n e.at_ e.l j.2).bind λi=> (dS 24 23 (a j.1) (a i.1) not e.op e.n e.at_ e.l).bind λx=> some ((a x),i.2) else bif e.op==23 then (bz c 0 not e.op e.n e.at_ e.l (i64.wrap (b-1))).bind λh=> (bz c 1 not e.op e.n e.at_ e.l h.2).bind λg=> (dS 23 24 (a h.1) (a g.1) not e.op e.n e.at_ e.l).bind λw=> some ((a w),g.2) else (bz c 0 not e.op e.n e.at_ e.l (i64.wrap (b-1))).bind λf=> (bz c 1 not e.op e.n e.at_ e.l f.2).bind λd=> (dS 24 23 (a f.1) (a d.1) not e.op e.n e.at_ e.l).bind λv=> some ((a v),d.2))
def RG:GY->GY:=λa s=>Ug a s.1 s.2.1 s.2.2
theorem RN(a:GY)(b:alI a):(wB (RG a)).Ok X0.P X0.Γ:=
 aX (.c .o (.c .o (.s (.s (.s (.s (.s (.s (.s (.s (.s (.s (.s (.s (.j ⟨[(true,6,GU),(true,7,(.bx 304 0 true [.same])),(true,5,ZB),(true,2,(.bx 3 0 true [.same])),(false,10,.bool)],[]⟩ (.c .o (.c .o (.c .o (.c (.r [9,6] .o) (.c (.r [11,6] .o) (.c (.r [7,6] .o) (.c (.r [9,6] .o) (.c (.r [9,6] .o) (.c (.r [7,4,6] .o) (.r [7,4,6] .o)))))))))) (.r [7,4,6] .o)))))))))))))))) call139 func139 (aj BI (aj (Az a b) (aj PF (aj (Qq a b) (aj Rb al))))) al al λs=>(show _=BR bk aM a s.1 s.2.1 s.2.2 from by kernel_rfl).trans ((congrArg (λd=>BR d aM a s.1 s.2.1 s.2.2) aJ).trans ((congrArg (λe=>BR id e a s.1 s.2.1 s.2.2) aN).trans (by kernel_rfl)))
theorem YT:Ko SX:=(show SX=wB (az (RG) aB) by kernel_rfl)▸dL (X:=X0) (E:=wB) ⟨call139,λ_ _ h=>nomatch h⟩ (RN) aB
def ag5:aq:=⟨93,[fG,.bool],(.cC [fG,an]),[],U2 P8⟩
def Ie(b:Ex->Ex)(c:Sh->(R:Type)->Option R->Option R)(e:Ex)(not:Bool):Option iR:= (Pw (b e) not 24).bind λa=> bif decide (a.2<0) then some ((Ex.mk 0 0 0 []),9) else some ((b a.1),0)
theorem YS:Ko ag5:=
 aX .o call93 func93 (aj YT al) al al λs=>(show _=Ie bk aM s.1 s.2 from by kernel_rfl).trans ((congrArg (λa=>Ie a aM s.1 s.2) aJ).trans ((congrArg (λb=>Ie id b s.1 s.2) aN).trans (by kernel_rfl)))
def ajq:aq:=⟨60,[fG],(.cC [fG,an]),[],λs=>Gz s⟩
def Kk(a:Ex->Ex)(c:Sh->(R:Type)->Option R->Option R)(e:Ex):Option iR:= (P8 (a e) true).bind λb=> some ((a b.1),b.2)
theorem JJ:Ko ajq:=
 aX .o call60 func60 (aj YS al) al al λs=>(show _=Kk bk aM s from by kernel_rfl).trans ((congrArg (λa=>Kk a aM s) aJ).trans ((congrArg (λb=>Kk id b s) aN).trans (by kernel_rfl)))
def Sk:aq:=⟨43,[.str,(.sli .s)],(.cC [fG,an,an]),[],U2 IB⟩
def uB(d:Ex->Ex)(j:Sh->(R:Type)->Option R->Option R)(f:aF)(c:aD):Option (Ex×Int×Int):= (yB f).bind λe=> bif e.2.1 != 0 then some ((Ex.mk 0 0 0 []),e.2.1,e.2.2) else (Hc e.1 0 c).bind λa=> bif a.2.2.1 != 0 then some ((Ex.mk 0 0 0 []),a.2.2.1,a.2.2.2) else (idx e.1 a.2.1).bind λi=> bif i.1 != 4 then (idx e.1 a.2.1).bind λh=> some ((Ex.mk 0 0 0 []),2,h.2.2.2) else (km (d a.1)).bind λb=> bif b.2.1 != 0 then some ((Ex.mk 0 0 0 []),b.2.1,b.2.2) else bif b.1==1 then some ((Ex.mk 0 0 0 []),4,a.1.at_) else (Gz (d a.1)).bind λg=> bif g.2 != 0 then some ((Ex.mk 0 0 0 []),g.2,a.1.at_) else some ((d a.1),0,0)
theorem KJ:Ko Sk:=
 aX (.c .o (.c .o (.c (.r [4] .o) (.c .o (.c (.r [4] .o) (.c (.r [4] .o) .o)))))) call43 func43 (aj CC (aj Uq (aj pg (aj JJ al)))) al al λs=>(show _=uB bk aM s.1 s.2 from by kernel_rfl).trans ((congrArg (λa=>uB a aM s.1 s.2) aJ).trans ((congrArg (λb=>uB id b s.1 s.2) aN).trans (by kernel_rfl)))
def IZ:aq:=⟨42,[agt,an,an,aS],.bool,[(true,0,af4)],λs=>iK (d8 (d8 s)).2.2.2.2.2.2.2.1 (d8 (d8 (d8 s))).1 (d8 (d8 (d8 s))).2 s.1 s.2.1 s.2.2.1 s.2.2.2.1 s.2.2.2.2.1 s.2.2.2.2.2.1 s.2.2.2.2.2.2.1 s.2.2.2.2.2.2.2.1 s.2.2.2.2.2.2.2.2.1 (d8 s).2.1 (d8 s).2.2.1 (d8 s).2.2.2.1 (d8 s).2.2.2.2.1 (d8 s).2.2.2.2.2.1 (d8 s).2.2.2.2.2.2.1 (d8 s).2.2.2.2.2.2.2.1 (d8 (d8 s)).1 (d8 (d8 s)).2.1 (d8 (d8 s)).2.2.1 (d8 (d8 s)).2.2.2.1 (d8 (d8 s)).2.2.2.2.1 (d8 (d8 s)).2.2.2.2.2.1 (d8 (d8 s)).2.2.2.2.2.2.1⟩
theorem hU:Ko IZ:=
 aw .o call42 func42 al
def NG:aq:=⟨34,[(.bx 81 0 true [.str,.str,an,an,an,ml,an,an,Bw,Hl,fq,Bw,PA,an,an,an,(.own .ex 79 true),an,an,an,fq,ia,ia])],.bool,[(true,0,(.bx 81 0 true [.same,.same,.same,.same,.same,.same,.same,.same,(.sli .s),gB,aS,(.sli .s),(.sli sq),an,an,an,(.sli .ex),an,an,an,aS,ia,ia]))],λs=>Dh s.1 s.2.1 s.2.2.1 s.2.2.2.1 s.2.2.2.2.1 s.2.2.2.2.2.1 s.2.2.2.2.2.2.1 s.2.2.2.2.2.2.2.1 s.2.2.2.2.2.2.2.2.1 (d8 s).2.1 (d8 s).2.2.1 (d8 s).2.2.2.1 (d8 s).2.2.2.2.1 (d8 s).2.2.2.2.2.1 (d8 s).2.2.2.2.2.2.1 (d8 s).2.2.2.2.2.2.2.1 (d8 (d8 s)).1 (d8 (d8 s)).2.1 (d8 (d8 s)).2.2.1 (d8 (d8 s)).2.2.2.1 (d8 (d8 s)).2.2.2.2.1 (d8 (d8 s)).2.2.2.2.2.1 (d8 (d8 s)).2.2.2.2.2.2⟩
theorem HS:Ko NG:=
 aw (.c .o (.r [40000] .o)) call34 func34 (aj P7 (aj Jw (aj KJ (aj hU al))))
def Ls:aq:=⟨95,[gB,(.fn 96 [] [])],dO,[],λs=>AM s⟩
theorem Fj:Ko Ls:=
 aw (.l ⟨[(true,5,dO),(false,13,an)],[]⟩ .o) call95 func95 (aj tX al)
def WI:aq:=⟨61,[gB],.bool,[],λs=>BJ s⟩
theorem yf:Ko WI:=
 aw .o call61 func61 (aj Fj (aj fY al))
def YD:aq:=⟨62,[],(.sli .n),[],λ_=>wo⟩
theorem A0:Ko YD:=
 aw .o call62 func62 al
def pM:aq:=⟨63,[gB],Hl,[],λs=>fC s⟩
def pG(s:Q8):Option Q8:= vF s ( some []) ( aI (aH (List.length ([]:List cu)+List.length s) 16)<| some (([]:List cu)++s))
theorem gO:Ko pM:=
 aX .o call63 func63 al al al λs=>(show _=pG s from by kernel_rfl).trans kf
def NU:aq:=⟨256,[an],(.cC [(.dat eO [some 109,some 7]),an]),[],λs=>oC s⟩
theorem vH:Ko NU:=
 aw .o call256 func256 al
def ahd:aq:=⟨251,[an],(.cC [(.dat (.p eO gz) [some 109,some 7,some 11]),an]),[],λs=>abv s⟩
theorem Zo:Ko ahd:=
 aw .o call251 func251 (aj vH al)
def Jz:aq:=⟨245,[ln,kN,wu],(.cC [(.dat Uo [none,some 109,some 7,some 11,none,none,none,none,none,none,none,none,none,none,none,none,none,none,none]),an]),[],U3 yn⟩
theorem EZ:Ko Jz:=
 aw .o call245 func245 (aj Zo al)
def HZ:aq:=⟨291,[gB,an],(.cC [(.dat UN [some 193,some 109,some 7,some 11]),an]),[],U2 abD⟩
def Zh(g:Nat)(s:Q8)(e:Int)(f:(Q7×Int))(a:((List Q7)×Int)->Option (vj×Int)):(List Q7)×Int->Option (vj×Int):=λ⟨b,c⟩=> bif decide (c<(i64.wrap (Int.tdiv (i64.wrap ((i64.wrap ((s.length:Int)+2))-1)) 2))) then (oC e).bind λd=> aI (aH (List.length b+List.length ([d.1]:List Q7)) 56)<| a ((b++([d.1]:List Q7)),(i64.wrap (c+1))) else some ((b,f.1,[]),0)
def afR(fl:Nat)(s:Q8)(a:Int):Option (vj×Int):= (oC a).bind λb=> bif b.2 != 0 then some (([],(0,[],[]),[]),b.2) else az (Zh fl s a b) fl ([],0)
theorem Wc(fl:Nat)(s:dZ (lx HZ.ps)):Vn { X0 with fl:=fl } [NU] [] [] (.c .o (.l ⟨[(true,4,afS),(true,8,agH),(false,27,an)],[]⟩ .o)) Tryz.f291 HZ s=afR fl s.1 s.2:=by kernel_rfl
theorem Zn:Ko HZ:=
 aX (.c .o (.l ⟨[(true,4,afS),(true,8,agH),(false,27,an)],[]⟩ .o)) call291 func291 (aj vH al) al al λs=>(Wc aB s).trans (by kernel_rfl)
def Hd:aq:=⟨285,[ln,kN,wu],(.cC [(.dat Uo [none,none,none,none,some 193,some 109,some 7,some 11,none,none,none,none,none,none,none,none,none,none,none]),an]),[],U3 w9⟩
theorem Ci:Ko Hd:=
 aw .o call285 func285 (aj Zn al)
def aee:aq:=⟨313,[an],(.cC [(.dat eO [some 109,some 7]),an]),[],λs=>Xf s⟩
theorem WW:Ko aee:=
 aw .o call313 func313 (aj vH al)
def NW:aq:=⟨314,[an],an,[],λs=>Dd s⟩
def Oi:aaz->aaz:=λa s=>OM a s
theorem QL(a:aaz)(b:ap7 a):(ug (Oi a)).Ok X0.P X0.Γ:=
 aw .o call314 func314 (aj b al)
theorem vV:Ko NW:=(show NW=ug (az (Oi) aB) by kernel_rfl)▸dL (X:=X0) (E:=ug) ⟨call314,λ_ _ h=>nomatch h⟩ (QL) aB
def afv:aq:=⟨309,[gB,an],(.cC [(.dat Uk [some 699,some 11]),an]),[],U2 abm⟩
theorem YN:Ko afv:=
 aw (.c .o (.r [30000,20006] (.l ⟨[(true,4,(.bx 104 0 true [.same,.same])),(true,8,(.bx 104 0 true [(.own eO 349 true),.same])),(false,23,an)],[]⟩ .o))) call309 func309 (aj WW (aj vV al))
def HC:aq:=⟨303,[ln,kN,wu],(.cC [(.dat Uo [none,none,none,none,none,none,none,none,some 699,some 11,none,none,none,none,none,none,none,none,none]),an]),[],U3 xm⟩
theorem Cr:Ko HC:=
 aw .o call303 func303 (aj YN al)
def aem:aq:=⟨275,[ml],an,[],λs=>JN s⟩
theorem F4:Ko aem:=
 aw (.l ⟨[(false,0,ml),(false,3,an)],[]⟩ .o) call275 func275 al
def L8:aq:=⟨267,[(.dat dC [])],an,[],λs=>Bc s⟩
theorem E9:Ko L8:=
 aw .o call267 func267 (aj F4 al)
def NH:aq:=⟨266,[gB,(.fn 267 [] [])],fq,[],λs=>uw s⟩
theorem uH:Ko NH:=
 aw (.l ⟨[(true,5,fq),(false,13,an)],[]⟩ .o) call266 func266 (aj E9 al)
def Zp:aq:=⟨278,[gB],an,[],λs=>N9 s⟩
theorem P4:Ko Zp:=
 aw (.l ⟨[(false,3,an),(false,9,an)],[]⟩ .o) call278 func278 (aj uH al)
def V2:aq:=⟨269,[gB],an,[],λs=>AJ s⟩
theorem yx:Ko V2:=
 aw .o call269 func269 (aj P4 al)
def aiW:aq:=⟨336,[an],(.cC [(.dat vx [some 705,some 7]),an]),[],λs=>aeX s⟩
theorem aaW:Ko aiW:=
 aw .o call336 func336 al
def Je:aq:=⟨330,[ln,kN,wu],y7,[],U3 ym⟩
theorem EA:Ko Je:=
 aw (.c .o (.l ⟨[(true,4,(.bx 113 0 true [.same,.same,.same,.same,.same,.same,.same,.same,.same,.same,.same,.same,.same,.same,an,(.sli kq),an,an,aS,an,(.sli kq),an,an,aS,an,(.sli kq),an,an,aS,.same,.same,.same,.same,.same,.same])),(true,6,(.bx 113 0 true [.same,.same,.same,.same,.same,.same,.same,.same,.same,.same,.same,.same,.same,.same,.same,.same,.same,.same,.same,.same,.same,.same,.same,.same,.same,.same,.same,.same,.same,.same,.same,.same,.same,.same,.same])),(false,18,an)],[]⟩ .o)) call330 func330 (aj yx (aj aaW al))
def ago:aq:=⟨370,[an,an,ml],(.cC [(.dat E5 [some 11,some 11,some 11]),an]),[],U3 abW⟩
theorem Yq:Ko ago:=
 aw (.c .o (.l ⟨[(true,6,(.bx 111 0 true [.same,.same,.same,.same,.same,.same])),(true,8,(.bx 111 0 true [.same,.same,.same,fT,fT,fT])),(false,29,an)],[]⟩ .o)) call370 func370 al
def Ji:aq:=⟨364,[ln,kN,wu],y7,[],U3 yq⟩
theorem EU:Ko Ji:=
 aw .o call364 func364 (aj Yq al)
def ac7:aq:=⟨44,[gB,wu],y7,[],U2 Dk⟩
theorem vL:Ko ac7:=
 aw (.r [] (.c .o (.r [3,40000] .o))) call44 func44 (aj yf (aj A0 (aj gO (aj EZ (aj Ci (aj Cr (aj EA (aj EU al))))))))
def Jq:aq:=⟨35,[agt],.bool,[(true,0,af4)],λs=>yg s.1 s.2.1 s.2.2.1 s.2.2.2.1 s.2.2.2.2.1 s.2.2.2.2.2.1 s.2.2.2.2.2.2.1 s.2.2.2.2.2.2.2.1 s.2.2.2.2.2.2.2.2.1 (d8 s).2.1 (d8 s).2.2.1 (d8 s).2.2.2.1 (d8 s).2.2.2.2.1 (d8 s).2.2.2.2.2.1 (d8 s).2.2.2.2.2.2.1 (d8 s).2.2.2.2.2.2.2.1 (d8 (d8 s)).1 (d8 (d8 s)).2.1 (d8 (d8 s)).2.2.1 (d8 (d8 s)).2.2.2.1 (d8 (d8 s)).2.2.2.2.1 (d8 (d8 s)).2.2.2.2.2.1 (d8 (d8 s)).2.2.2.2.2.2⟩
theorem Ei:Ko Jq:=
 aw (.r [40000] (.j ⟨[(false,4,an)],[]⟩ .o .o)) call35 func35 (aj vL (aj hU al))
def Ov:aq:=⟨97,[gB,aS],an,[],U2 il⟩
theorem eX:Ko Ov:=
 aw (.c .o (.l ⟨[(false,14,an)],[]⟩ .o)) call97 func97 (aj mg al)
def afQ:aq:=⟨98,[kN],.ifn,[],λs=>GG s⟩
theorem xK:Ko afQ:=
 aw (.r [1] .o) call98 func98 (aj A0 al)
def YO:aq:=⟨271,[di],fT,[],λs=>DV s⟩
def Yw(b:Q1):Option Q1:= vF b ( some []) ( aI (aH (List.length ([]:xb)+List.length b) 1)<| some (([]:xb)++b))
theorem BN:Ko YO:=
 aX .o call271 func271 al al al λs=>(show _=Yw s from by kernel_rfl).trans kf
def ahX:aq:=⟨276,[(.dat rV [none])],ZL,[],λs=>aeN s⟩
theorem acJ:Ko ahX:=
 aw .o call276 func276 (aj BN al)
def WO:aq:=⟨277,[ZL,.bool],ez,[(true,0,ZL)],λs=>KA s.2.2 s.1 s.2.1⟩
theorem NI:Ko WO:=
 aw (.j ⟨[(true,0,(.bx 395 0 true [fT,.same]))],[]⟩ .o (.j ⟨[(true,0,(.bx 395 0 true [fT,.same]))],[]⟩ (.c (.r [0] .o) .o) .o)) call277 func277 al
def agq:aq:=⟨268,[(.dat rV [none]),ml,an],(.cC [(.dat rV [none]),an]),[],U3 abt⟩
theorem XZ:Ko agq:=
 aw (.c .o (.c .o (.l ⟨[(true,6,(.bx 374 0 true [.same,.same])),(true,8,ZL),(false,9,an)],[]⟩ (.c (.r [8] .o) .o)))) call268 func268 (aj F4 (aj acJ (aj NI al)))
def Dy:aq:=⟨259,[gB,aS],(.cC [fT,an]),[],U2 mK⟩
theorem oM:Ko Dy:=
 aw (.c .o (.l ⟨[(true,7,(.bx 374 0 true [di,an])),(false,20,an)],[]⟩ (.c (.r [7] .o) .o))) call259 func259 (aj eX (aj uH (aj XZ (aj yx al))))
def adF:aq:=⟨253,[kN,aS],di,[],U2 eP⟩
theorem dU:Ko adF:=
 aw .o call253 func253 (aj oM al)
def YX:aq:=⟨282,[GM],ez,[(true,0,GM)],λs=>Od s⟩
theorem Pg:Ko YX:=
 aw .o call282 func282 al
def X7:aq:=⟨283,[GM],ez,[(true,0,GM)],λs=>OH s⟩
theorem Qt:Ko X7:=
 aw .o call283 func283 al
def YY:aq:=⟨284,[GM],ez,[(true,0,GM)],λs=>On s⟩
theorem P2:Ko YY:=
 aw .o call284 func284 al
def agm:aq:=⟨280,[di,ml],ml,[],U2 GZ⟩
theorem xN:Ko agm:=
 aw (.l ⟨[(true,5,GM),(false,15,an)],[]⟩ (.c .o (.n 50 .o))) call280 func280 (aj Pg (aj Qt (aj P2 al)))
def adY:aq:=⟨279,[ml,an],an,[],U2 Dv⟩
theorem vS:Ko adY:=
 aw .o call279 func279 al
def Zf:aq:=⟨281,[di,di],.bool,[],U2 EL⟩
theorem Bl:Ko Zf:=
 aw .o call281 func281 al
def Nu:aq:=⟨273,[Eh,di],an,[],U2 tR⟩
theorem tw:Ko Nu:=
 aw (.n 0 (.j ⟨[(false,5,an)],[]⟩ .o .o)) call273 func273 (aj xN (aj vS (aj Bl al)))
def M3:aq:=⟨274,[Eh,di],AP,[],U2 CF⟩
theorem G0:Ko M3:=
 aw .o call274 func274 (aj tw al)
def abi:aq:=⟨265,[Eh,di],AP,[],U2 jY⟩
theorem kl:Ko abi:=
 aw .o call265 func265 (aj G0 al)
def Is:aq:=⟨273,[(.dat eO [some 108,some 6]),di],an,[],U2 wP⟩
theorem Cm:Ko Is:=
 aw (.n 0 (.j ⟨[(false,5,an)],[]⟩ .o .o)) call273 func273 (aj xN (aj vS (aj Bl al)))
def KR:aq:=⟨272,[(.bx 384 0 true [an,(.own gz 54 true),aS]),an],ez,[(true,0,(.bx 384 0 true [.same,(.own gz 54 true),aS]))],λs=>AI s.2.2.2 s.1 s.2.1 s.2.2.1⟩
theorem FE:Ko KR:=
 aw (.l ⟨[(true,0,(.bx 384 0 true [.same,(.own gz 54 true),fq])),(false,18,(.slr 1)),(false,20,an)],[]⟩ (.c (.r [0] .o) .o)) call272 func272 (aj Cm al)
def EG:aq:=⟨101,[aS],fq,[],λs=>cW s⟩
def Ea(s:Q1):Option Q1:= vF s ( some []) ( aI (aH (List.length ([]:xb)+List.length s) 8)<| some (([]:xb)++s))
theorem dx:Ko EG:=
 aX .o call101 func101 al al al λs=>(show _=Ea s from by kernel_rfl).trans kf
def Gi:aq:=⟨260,[Eh,di],(.cC [Eh,an,.bool,an]),[],U2 fX⟩
theorem pH:Ko Gi:=
 aw (.c .o (.c .o (.s (.s (.j ⟨[(true,11,(.bx 384 0 true [.same,(.own gz 54 true),aS]))],[2]⟩ (.c .o (.r [11] .o)) .o))))) call260 func260 (aj kl (aj BN (aj FE (aj dx (aj tw al)))))
def Yz:aq:=⟨254,[PO,di],(.cC [PO,.bool,an]),[],U2 OJ⟩
theorem PL:Ko Yz:=
 aw (.c .o (.r [4,40000] .o)) call254 func254 (aj pH al)
def Ig:aq:=⟨247,[ln,kN,aS],MN,[],U3 xi⟩
theorem B4:Ko Ig:=
 aw (.r [40000] .o) call247 func247 (aj dU (aj PL al))
def IK:aq:=⟨299,[gB,aS],(.fn 302 [] [(.bx 73 0 true [gB]),Zq]),[],U2 wC⟩
theorem Bu:Ko IK:=
 aw .o call299 func299 al
def II:aq:=⟨300,[fT,aS],fT,[],U2 wE⟩
theorem AE:Ko II:=
 aw (.l ⟨[(false,0,fT),(false,10,an)],[]⟩ (.c (.l ⟨[(false,0,fT),(false,14,an)],[]⟩ .o) .o)) call300 func300 al
def OF:aq:=⟨296,[KV,gB,aS],an,[],U3 Dw⟩
theorem Xb:(⟨302,Tryz.f302⟩:jH).Ok X0.P:=⟨call302,func302⟩
theorem E8:Ko OF:=
 aX (.c (.c (.l ⟨[(false,4,an),(true,10006,Bi),(true,10007,(.bx 54 0 true [fT]))],[]⟩ .o) .o) (.r [70000,6,7] .o)) call296 func296 (aj Bu (aj oM (aj kl (aj AE al)))) al (aj Xb al) λ_=>by kernel_rfl
def abR:aq:=⟨301,[Eh],an,[],λs=>HE s⟩
theorem CU:Ko abR:=
 aw .o call301 func301 al
def OR:aq:=⟨297,[KV],an,[],λs=>J7 s⟩
theorem Ws:Ko OR:=
 aw .o call297 func297 (aj CU al)
def iS:aq:=⟨298,[(.sli eO)],(.own eO 96 true),[],λs=>fE s⟩
def pA(s:(List Q7)):Option (List Q7):= vF s ( some []) ( aI (aH (List.length ([]:List Q7)+List.length s) 56)<| some (([]:List Q7)++s))
theorem nM:Ko iS:=
 aX .o call298 func298 al al al λs=>(show _=pA s from by kernel_rfl).trans kf
def xx:aq:=⟨293,[KV,gB,aS],(.cC [KV,.bool,an]),[],U3 Oo⟩
def Qw(n:Nat)(c:vj)(o:Q8)(b:(Q8×Q1))(e:(Int×(List Q7)×Q1)->Option Q62):Int×(List Q7)×Q1->Option Q62:=λ⟨a,d,j⟩=> bif decide ((i64.wrap (a*2))<(b.1.length:Int)) then aI (dn (i64.wrap (a*2)) (min (b.1.length:Int) (i64.wrap ((i64.wrap (a+1))*2))) (List.length b.1))<| aI (dn (i64.wrap (a*2)) (min (b.1.length:Int) (i64.wrap ((i64.wrap (a+1))*2))) (List.length b.2))<| (mK (bB b.1 (i64.wrap (a*2)) (min (b.1.length:Int) (i64.wrap ((i64.wrap (a+1))*2)))) (bB b.2 (i64.wrap (a*2)) (min (b.1.length:Int) (i64.wrap ((i64.wrap (a+1))*2))))).bind λk=> (idx d a).bind λl=> (fX l k.1).bind λf=> (wE j ([f.2.1]:xb)).bind λg=> (idx d a).bind λm=> bif !true then (fX c.2.1 g).bind λi=> aI (jC 0 (c.2.2.length:Int) (c.2.2.length:Int) (List.length c.2.2)&&((c.2.2.length:Int)==(c.2.2.length:Int)))<| aI (aH (List.length (bB c.2.2 0 (c.2.2.length:Int))+List.length ([0]:xb)) 1)<| some (((List.set d (Int.toNat a) f.1),i.1,((bB c.2.2 0 (c.2.2.length:Int))++([0]:xb))),true,0) else e ((i64.wrap (a+1)),(List.set d (Int.toNat a) f.1),g) else (fX c.2.1 j).bind λh=> aI (jC 0 (c.2.2.length:Int) (c.2.2.length:Int) (List.length c.2.2)&&((c.2.2.length:Int)==(c.2.2.length:Int)))<| aI (aH (List.length (bB c.2.2 0 (c.2.2.length:Int))+List.length ([0]:xb)) 1)<| some ((d,h.1,((bB c.2.2 0 (c.2.2.length:Int))++([0]:xb))),true,0)
def Yy(fl:Nat)(c:vj)(s:Q8)(a:Q1):Option Q62:= (il s a).bind λb=> bif b != 0 then some (c,false,b) else (Dw c s a).bind λg=> bif decide (0<=g) then some (c,false,0) else (J7 c).bind λf=> bif decide (c.2.1.1<=f) then some (c,false,7) else (fE c.1).bind λe=> (wC s a).bind λd=> az (Qw fl c s d) fl (0,e,[])
theorem Nx(fl:Nat)(s:dZ (lx xx.ps)):Vn { X0 with fl:=fl } [Ov,OF,OR,iS,IK,Dy,Gi,II] [] [⟨302,Tryz.f302⟩] (.c .o (.c .o (.r [] (.c .o (.c (.c (.l ⟨[(false,4,an),(true,10003,agH),(true,10006,afS),(true,10010,(.bx 54 0 true [fT]))],[]⟩ .o) (.r [10,3] .o)) (.r [70000,3,6,10] .o)))))) Tryz.f293 xx s=Yy fl s.1 s.2.1 s.2.2:=by kernel_rfl
theorem Ra:Ko xx:=
 aX (.c .o (.c .o (.r [] (.c .o (.c (.c (.l ⟨[(false,4,an),(true,10003,agH),(true,10006,afS),(true,10010,(.bx 54 0 true [fT]))],[]⟩ .o) (.r [10,3] .o)) (.r [70000,3,6,10] .o)))))) call293 func293 (aj eX (aj E8 (aj Ws (aj nM (aj Bu (aj oM (aj pH (aj AE al)))))))) al (aj Xb al) λs=>(Nx aB s).trans (by kernel_rfl)
def Gl:aq:=⟨287,[ln,kN,aS],MN,[],U3 vn⟩
theorem BB:Ko Gl:=
 aw .o call287 func287 (aj Ra al)
def UT:aq:=⟨321,[gB,aS],(.own (.i .u32) 38 true),[],U2 AS⟩
theorem yk:Ko UT:=
 aw (.l ⟨[(false,5,(.own (.i .u32) 38 true)),(false,10,an)],[]⟩ .o) call321 func321 al
def ahx:aq:=⟨328,[jG,jG],(.dat Va []),[],U2 QD⟩
theorem IN:Ko ahx:=
 aw (.l ⟨[(true,4,(.bx 443 0 true [.same,.same,.same,.same,.same,.same,.same,.same])),(true,5,(.bx 443 0 true [iu,iu,iu,iu,iu,iu,iu,iu])),(false,7,an)],[]⟩ (.c (.r [5] .o) .o)) call328 func328 al
def Pj:aq:=⟨329,[(.dat Va [])],di,[],λs=>vP s⟩
theorem va:Ko Pj:=
 aw .o call329 func329 al
def acH:aq:=⟨327,[Eh,jG,jG],AP,[],U3 RT⟩
theorem Rp:Ko acH:=
 aw .o call327 func327 (aj IN (aj va (aj kl al)))
def Px:bH:=⟨323,[agK,an,jG,jG],Di,none,false,false,jG,[],λs=>vU s.2.1 s.2.2.1 s.2.2.2 s.1⟩
theorem u7:po Px:=
 acN .o call323 func323 (aj Rp al)
def BK:bH:=⟨326,[agK,an,Mx],Di,none,false,false,jG,[],λs=>FB s.2.1 s.2.2 s.1⟩
def Bf:Z5->Z5:=λa s=>Bn a s.1 s.2.1 s.2.2
theorem F5(a:Z5)(b:aqg a):(kT (Bf a)).Ok X0.P X0.Γ:=
 oE (.c .o (.r [0] .o)) call326 func326 (aj vV al) (aj b (aj u7 al)) al λ_=>by kernel_rfl
theorem Jr:po BK:=(show BK=kT (az (Bf) aB) by kernel_rfl)▸Z2 (X:=X0) (E:=kT) ⟨call326,λ_ _ h=>nomatch h⟩ (F5) aB
def Nn:bH:=⟨320,[agK,Mx],Di,none,false,false,jG,[],λs=>CO s.2 s.1⟩
theorem Hy:po Nn:=
 oE (.c (.r [0] .o) .o) call320 func320 al (aj u7 (aj Jr al)) al λ_=>by kernel_rfl
def adq:aq:=⟨316,[LY,gB,aS],AP,[],U3 LC⟩
theorem ai7:(⟨322,Tryz.f322⟩:jH).Ok X0.P:=⟨call322,func322⟩
theorem Gy:Ko adq:=
 aX .o call316 func316 (aj yk al) (aj Hy al) (aj ai7 al) λ_=>by kernel_rfl
def abu:aq:=⟨324,[Eh],an,[],λs=>UF s⟩
theorem SV:Ko abu:=
 aw .o call324 func324 (aj CU al)
def ac9:aq:=⟨317,[LY],an,[],λs=>XN s⟩
theorem Wu:Ko ac9:=
 aw .o call317 func317 (aj SV al)
def pL:aq:=⟨318,[(.sli eO)],(.own eO 349 true),[],λs=>jz s⟩
def pI(s:(List Q7)):Option (List Q7):= vF s ( some []) ( aI (aH (List.length ([]:List Q7)+List.length s) 56)<| some (([]:List Q7)++s))
theorem nJ:Ko pL:=
 aX .o call318 func318 al al al λs=>(show _=pI s from by kernel_rfl).trans kf
def Wl:aq:=⟨325,[Eh,jG,jG],(.cC [Eh,an,.bool,an]),[],U3 K7⟩
theorem Nk:Ko Wl:=
 aw (.r [40000] .o) call325 func325 (aj IN (aj va (aj pH al)))
def L6:aq:=⟨319,[ag8,an,jG,jG],jG,[(true,0,agd)],λs=>rM s.2.1 s.2.2.1 s.2.2.2 s.1⟩
theorem sZ:Ko L6:=
 aw (.r [0] .o) call319 func319 (aj Nk al)
def vp:aq:=⟨326,[ag8,an,Mx],jG,[(true,0,agd)],λs=>yi s.2.1 s.2.2 s.1⟩
def ve:abV->abV:=λa s=>vd a s.1 s.2.1 s.2.2
theorem AN(a:abV)(b:ap5 a):(jd (ve a)).Ok X0.P X0.Γ:=
 aw (.c .o (.r [0] .o)) call326 func326 (aj b (aj vV (aj sZ al)))
theorem Ee:Ko vp:=(show vp=jd (az (ve) aB) by kernel_rfl)▸dL (X:=X0) (E:=jd) ⟨call326,λ_ _ h=>nomatch h⟩ (AN) aB
def Hq:aq:=⟨320,[ag8,Mx],jG,[(true,0,agd)],λs=>wM s.2 s.1⟩
theorem Cf:Ko Hq:=
 aw (.c (.r [0] .o) .o) call320 func320 (aj sZ (aj Ee al))
def YP:aq:=⟨311,[LY,gB,aS],(.cC [LY,.bool,an]),[],U3 OE⟩
theorem PE:Ko YP:=
 aw (.c .o (.c .o (.r [] (.c .o (.r [6,40000] .o))))) call311 func311 (aj eX (aj Gy (aj Wu (aj nJ (aj yk (aj Cf al))))))
def Gq:aq:=⟨305,[ln,kN,aS],MN,[],U3 vk⟩
theorem AG:Ko Gq:=
 aw .o call305 func305 (aj PE al)
def Py:aq:=⟨353,[iu],.bool,[],λs=>vW s⟩
theorem Jh:Ko Py:=
 aw .o call353 func353 al
def KN:aq:=⟨347,[iu,iu],an,[],U2 rF⟩
theorem sM:Ko KN:=
 aw .o call347 func347 (aj Jh al)
def adI:aq:=⟨346,[(.dat jP []),iu],an,[],U2 JM⟩
theorem WR:Ko adI:=
 aw .o call346 func346 (aj sM al)
def js:aq:=⟨345,[(.sli jP),iu,(.fn 346 [] [])],AP,[],U2 dm⟩
theorem dW:Ko js:=
 aw (.l ⟨[(false,9,an),(false,10,an)],[]⟩ .o) call345 func345 (aj WR al)
def ale:aq:=⟨341,[SL,an,iu],an,[],U3 aiE⟩
theorem adQ:Ko ale:=
 aw .o call341 func341 (aj dW al)
def aiX:aq:=⟨338,[SL,di],.bool,[],U2 wc⟩
theorem tx:Ko aiX:=
 aw (.l ⟨[(false,5,an),(false,12,an)],[]⟩ .o) call338 func338 (aj adQ al)
def afJ:aq:=⟨339,[SL],an,[],λs=>aas s⟩
theorem Ym:Ko afJ:=
 aw .o call339 func339 al
def rI:aq:=⟨342,[(.sli kq)],(.own kq 352 true),[],λs=>j2 s⟩
def rY(s:Q4):Option Q4:= vF s ( some []) ( aI (aH (List.length ([]:List (Q8×Int))+List.length s) 32)<| some (([]:List (Q8×Int))++s))
theorem pb:Ko rI:=
 aX .o call342 func342 al al al λs=>(show _=rY s from by kernel_rfl).trans kf
def ss:aq:=⟨359,[(.sli jP),(.sli jP)],.bool,[],U2 kj⟩
theorem oS:Ko ss:=
 aw (.c .o (.l ⟨[(false,13,an)],[]⟩ .o)) call359 func359 al
def UL:aq:=⟨354,[(.bx 457 0 false [an,(.own kq 352 false),an,an,G5,(.mp bd .bo false)]),(.sli jP)],AP,[],λs=>IS s.2.2.2.2.2.2 s.1 s.2.1 s.2.2.1 s.2.2.2.1 s.2.2.2.2.1 s.2.2.2.2.2.1⟩
theorem K2:Ko UL:=
 aw (.l ⟨[(false,14,an)],[]⟩ .o) call354 func354 (aj oS al)
def HB:aq:=⟨384,[G5],an,[],λs=>og s⟩
theorem ph:Ko HB:=
 aw .o call384 func384 al
def Ga:aq:=⟨386,[fq,an,an],ez,[(true,0,fq)],U3 jD⟩
theorem jr:Ko Ga:=
 aw (.r [0] .o) call386 func386 al
def Fu:aq:=⟨385,[G5,an,an],.bool,[],U3 jE⟩
theorem nX:Ko Fu:=
 aw .o call385 func385 al
def Gh:aq:=⟨362,[ED,an,an],.bool,[(true,0,ED)],λs=>vo s.2.1 s.2.2 s.1⟩
theorem Bb:Ko Gh:=
 aw (.l ⟨[(true,0,ED),(false,7,an)],[]⟩ (.c .o (.s (.j ⟨[(false,9,an)],[]⟩ .o .o)))) call362 func362 (aj nX (aj jr al))
def MX:aq:=⟨387,[ZC],Di,[(true,0,ZC)],λs=>C7 s⟩
theorem HW:Ko MX:=
 aw .o call387 func387 al
def G9:aq:=⟨360,[ED],Di,[(true,0,ED)],λs=>xn s⟩
theorem Co:Ko G9:=
 aw .o call360 func360 (aj ph (aj jr (aj Bb (aj HW al))))
def QT:aq:=⟨355,[al2],an,[(true,0,abb)],U6 Gs⟩
theorem Jg:Ko QT:=
 aw .o call355 func355 (aj Co al)
def SW:aq:=⟨348,[aj3,(.sli jP)],an,[(true,0,ajx)],λs=>xE s.2.2.2.2.2.2 s.1 s.2.1 s.2.2.1 s.2.2.2.1 s.2.2.2.2.1 s.2.2.2.2.2.1⟩
theorem JL:Ko SW:=
 aw (.c .o (.l ⟨[(true,0,(.bx 457 0 true [.same,(.own kq 352 true),.same,.same,.same,.same])),(false,35,an)],[]⟩ (.c (.r [0] .o) .o))) call348 func348 (aj K2 (aj Jg al))
def adD:aq:=⟨341,[(.dat vx [some 704,some 6]),an,iu],an,[],U3 W4⟩
theorem V6:Ko adD:=
 aw .o call341 func341 (aj dW al)
def Nl:aq:=⟨350,[(.dat jP []),iu],an,[],U2 tH⟩
theorem Hi:Ko Nl:=
 aw .o call350 func350 (aj sM al)
def iT:aq:=⟨345,[(.own jP 462 false),iu,(.fn 350 [] [])],AP,[],U2 eC⟩
theorem ig:Ko iT:=
 aw (.l ⟨[(false,9,an),(false,10,an)],[]⟩ .o) call345 func345 (aj Hi al)
def rE:aq:=⟨349,[(.sli jP)],(.own jP 462 true),[],λs=>j4 s⟩
def rD(s:Q8):Option Q8:= vF s ( some []) ( aI (aH (List.length ([]:List cu)+List.length s) 16)<| some (([]:List cu)++s))
theorem oW:Ko rE:=
 aX .o call349 func349 al al al λs=>(show _=rD s from by kernel_rfl).trans kf
def Gv:aq:=⟨343,[aj3,an,di],an,[(true,0,ajx)],λs=>Lb s.2.2.2.2.2.2.1 s.2.2.2.2.2.2.2 s.1 s.2.1 s.2.2.1 s.2.2.2.1 s.2.2.2.2.1 s.2.2.2.2.2.1⟩
def Fs:abr->abr:=λa s=>FY a s.1 s.2.1 s.2.2.1 s.2.2.2.1 s.2.2.2.2.1 s.2.2.2.2.2.1 s.2.2.2.2.2.2.1 s.2.2.2.2.2.2.2
theorem Jx(a:abr)(b:aqk a):(nE (Fs a)).Ok X0.P X0.Γ:=
 aw (.c .o (.s (.j ⟨[(false,7,(.own jP 462 true))],[]⟩ .o (.r [0,40000] (.s (.j ⟨[(false,7,(.own jP 462 true))],[8]⟩ .o .o)))))) call343 func343 (aj JL (aj V6 (aj b (aj ig (aj ad2 (aj oW al))))))
theorem Nc:Ko Gv:=(show Gv=nE (az (Fs) aB) by kernel_rfl)▸dL (X:=X0) (E:=nE) ⟨call343,λ_ _ h=>nomatch h⟩ (Jx) aB
def Ln:aq:=⟨388,[ZC,Di],ez,[(true,0,ZC)],λs=>Aw s.2 s.1⟩
theorem Gk:Ko Ln:=
 aw (.r [0] .o) call388 func388 al
def ER:aq:=⟨358,[ED,an],ez,[(true,0,ED)],λs=>uU s.2 s.1⟩
theorem Aa:Ko ER:=
 aw (.l ⟨[(true,0,ED),(false,1,an)],[]⟩ .o) call358 func358 (aj nX (aj jr al))
def GD:aq:=⟨352,[ED,Di],ez,[(true,0,ED)],λs=>vq s.2 s.1⟩
theorem By:Ko GD:=
 aw .o call352 func352 (aj Gk (aj ph (aj Aa al)))
def Ax:aq:=⟨344,[al2,an],ez,[(true,0,abb)],λs=>FI s.2.2.2.2.2.2 s.1 s.2.1 s.2.2.1 s.2.2.2.1 s.2.2.2.2.1 s.2.2.2.2.2.1⟩
def Ao:aaq->aaq:=λa s=>BY a s.1 s.2.1 s.2.2.1 s.2.2.2.1 s.2.2.2.2.1 s.2.2.2.2.2.1 s.2.2.2.2.2.2
theorem F0(a:aaq)(b:aqb a):(kQ (Ao a)).Ok X0.P X0.Γ:=
 aw (.c .o (.l ⟨[(true,0,abb),(false,42,an)],[]⟩ .o)) call344 func344 (aj b (aj By al))
theorem JA:Ko Ax:=(show Ax=kQ (az (Ao) aB) by kernel_rfl)▸dL (X:=X0) (E:=kQ) ⟨call344,λ_ _ h=>nomatch h⟩ (F0) aB
def abX:aq:=⟨340,[SL,di],(.cC [SL,.bool,an]),[],U2 uS⟩
theorem CR:Ko abX:=
 aw (.c .o (.c .o (.r [7] (.r [7] (.j ⟨[(true,7,abb)],[]⟩ .o .o))))) call340 func340 (aj tx (aj pb (aj dx (aj Nc (aj JA al)))))
def HK:aq:=⟨332,[ln,kN,aS],MN,[],U3 xl⟩
theorem Ce:Ko HK:=
 aw .o call332 func332 (aj dU (aj tx (aj Ym (aj CR al))))
def acE:aq:=⟨381,[di,ml,an,an],fq,[],U4 oV⟩
theorem kc:Ko acE:=
 aw (.l ⟨[(false,9,fq),(false,13,an)],[]⟩ .o) call381 func381 (aj xN (aj vS al))
def adz:aq:=⟨378,[uK,di,(.iO (.int .i64 0)),Vu],ez,[(true,3,Vu)],U3 XS⟩
theorem Vb:Ko adz:=
 aw (.l ⟨[(true,3,Vu),(false,19,an)],[]⟩ (.c (.r [3] .o) .o)) call378 func378 (aj kc al)
def agk:aq:=⟨375,[uK,di,(.iO (.int .i64 0))],.bool,[],U2 Z1⟩
theorem YW:Ko agk:=
 aw .o call375 func375 (aj Vb al)
def Yp:aq:=⟨376,[uK,di],.bool,[],U2 Ed⟩
theorem BV:Ko Yp:=
 aw .o call376 func376 (aj YW al)
def A1:aq:=⟨263,[di],fT,[],λs=>cY s⟩
def Bt(s:Q1):Option Q1:= vF s ( some []) ( aI (aH (List.length ([]:xb)+List.length s) 1)<| some (([]:xb)++s))
theorem dK:Ko A1:=
 aX .o call263 func263 al al al λs=>(show _=Bt s from by kernel_rfl).trans kf
def VW:aq:=⟨378,[(.dat E5 [some 11,none,none]),di,(.iO (.int .i64 0)),(.fn 380 [] [])],ez,[(true,0,(.agg [.same,.same,.same,fT,.same,.same]))],U2 Bk⟩
theorem yl:Ko VW:=
 aw (.l ⟨[(true,0,(.agg [.same,.same,.same,fT,.same,.same])),(false,19,an)],[]⟩ (.c (.r [4,0] .o) .o)) call378 func378 (aj kc al)
def agS:aq:=⟨377,[uK,di,(.iO (.int .i64 0))],(.dat E5 [some 11,none,none]),[],U2 abY⟩
theorem YF:Ko agS:=
 aw .o call377 func377 (aj dK (aj yl al))
def Yb:aq:=⟨372,[uK,di],(.cC [uK,.bool]),[],U2 N5⟩
theorem QE:Ko Yb:=
 aw .o call372 func372 (aj BV (aj YF al))
def HA:aq:=⟨366,[ln,kN,aS],MN,[],U3 wU⟩
theorem Cn:Ko HA:=
 aw (.r [40000] .o) call366 func366 (aj dU (aj QE al))
def VK:aq:=⟨64,[kN,aS],MN,[],U2 uu⟩
theorem yr:Ko VK:=
 aw (.c .o (.r [2,4] .o)) call64 func64 (aj eX (aj xK (aj B4 (aj BB (aj AG (aj Ce (aj Cn al)))))))
def aax:aq:=⟨99,[xJ,aS],(.fn 142 [] [(.bx 76 0 true [(.sli .s),gB,aS,(.sli .s),(.sli sq)]),Zq]),[],U2 Rj⟩
theorem UH:Ko aax:=
 aw .o call99 func99 al
def aa7:aq:=⟨198,[.bool],an,[],λs=>yF s⟩
theorem RL:Ko aa7:=
 aw .o call198 func198 al
def NZ:aq:=⟨162,[fG,aS],an,[],U2 lJ⟩
def Wb(s:Ex->Ex)(A:Sh->(R:Type)->Option R->Option R)(z:(Ex×Q1)->vy)(e:Ex)(q:Q1)(b:nF->vy):Int×Int×Int->vy:=λ⟨a,c,d⟩=> bif decide (d<(List.length (bB e.l 0 (min (List.length e.l:Int) 2)):Int)) then (idx (bB e.l 0 (min (List.length e.l:Int) 2)) d).bind λu=> (z ((s u),q)).bind λk=> bif d==0 then b (k,c,(i64.wrap (d+1))) else bif d==1 then b (a,k,(i64.wrap (d+1))) else none else ai (λ(j:Int×Int×Bool)=>LZ j.1 j.2.1 j.2.2) λp=> ai (λ(i:Int×Int×Bool)=>LQ i.1 i.2.1 i.2.2) λo=> ai (λ(h:Int×Int×Bool)=>J6 h.1 h.2.1 h.2.2) λg=> bif e.op==1 then some e.n else bif e.op==2 then ai (decide (e.n<0)) λx=> ai (decide ((q.length:Int)<=e.n)) λw=> ai (x||w) λv=> bif v then ( some 0) else ( (idx q e.n).bind λt=> some t) else bif e.op==3 then some (i64.wrap (a+c)) else bif e.op==5 then some (i64.wrap (a*c)) else bif e.op==6 then some (i64.wrap (0-a)) else bif e.op==4 then some (i64.wrap (a-c)) else bif e.op==8 then g (a,c,true) else ai (λ(y:Unit)=>LV e a c p o) λm=> ai (λ(r:Bool)=>LK a c g m r) λf=> bif e.op==7 then f (e.op==7) else f (e.op==19)
def xG(a:Ex->Ex)(d:Sh->(R:Type)->Option R->Option R)(c:(Ex×Q1)->vy)(e:Ex)(b:Q1):vy:= aI (dn 0 (min (List.length e.l:Int) 2) (List.length e.l))<| az (Wb a d c e b) aB (0,0,0)
def O1:acy->acy:=λa s=>OU a s.1 s.2
theorem PM(a:acy)(b:ap1 a):(uy (O1 a)).Ok X0.P X0.Γ:=
 aX (.l ⟨[(true,5,(.bx 319 0 true [an,an])),(false,19,an)],[]⟩ (.c .o (.r [] (.s (.s (.s (.s (.s (.s (.s (.s (.j ⟨[(false,8,an),(false,9,an),(false,10,.bool)],[2]⟩ (.s (.j ⟨[(false,8,an),(false,9,an),(false,10,.bool)],[2]⟩ (.s (.j ⟨[(false,8,an),(false,9,an),(false,10,.bool)],[2]⟩ (.c .o (.c .o (.c .o (.c .o (.c .o (.c .o (.c .o (.j ⟨[],[]⟩ (.j ⟨[(false,50,.bool)],[]⟩ .o .o) .o)))))))) .o)) .o)) .o)))))))))))) call162 func162 (aj b (aj RL al)) al al λs=>(show _=xG bk aM a s.1 s.2 from by kernel_rfl).trans ((congrArg (λd=>xG d aM a s.1 s.2) aJ).trans ((congrArg (λe=>xG id e a s.1 s.2) aN).trans (by kernel_rfl)))
theorem o9:Ko NZ:=(show NZ=uy (az (O1) aB) by kernel_rfl)▸dL (X:=X0) (E:=uy) ⟨call162,λ_ _ h=>nomatch h⟩ (PM) aB
def WZ:aq:=⟨143,[xJ,aS],fq,[],U2 Kj⟩
def M5(f:Ex->Ex)(h:Sh->(R:Type)->Option R->Option R)(m:sJ)(d:Q1)(a:fA->Option Q1):Q1×Int->Option Q1:=λ⟨b,c⟩=> bif decide (c<(m.2.2.2.2.length:Int)) then (idx m.2.2.2.2 c).bind λg=> (lJ (f g.2.1) d).bind λe=> bif e==1 then aI (aH (List.length b+List.length ([c]:xb)) 8)<| a ((b++([c]:xb)),(i64.wrap (c+1))) else a (b,(i64.wrap (c+1))) else some b
def wh(b:Ex->Ex)(c:Sh->(R:Type)->Option R->Option R)(m:sJ)(a:Q1):Option Q1:= az (M5 b c m a) aB ([],0)
theorem M8:Ko WZ:=
 aX (.l ⟨[(false,5,fq),(false,11,an)],[]⟩ .o) call143 func143 (aj o9 al) al al λs=>(show _=wh bk aM s.1 s.2 from by kernel_rfl).trans ((congrArg (λa=>wh a aM s.1 s.2) aJ).trans ((congrArg (λb=>wh id b s.1 s.2) aN).trans (by kernel_rfl)))
def UZ:aq:=⟨97,[gB,G5],an,[],U2 Bz⟩
theorem Na:Ko UZ:=
 aw (.c .o (.l ⟨[(false,14,an)],[]⟩ .o)) call97 func97 (aj mg al)
def adb:aq:=⟨144,[xJ,aS,an],(.cC [fq,an]),[],U3 Xk⟩
def Wa(i:Ex->Ex)(k:Sh->(R:Type)->Option R->Option R)(m:sJ)(f:Q1)(e:Q64)(a:fA->Option fA):Q1×Int->Option fA:=λ⟨b,c⟩=> bif decide (c<(e.2.2.length:Int)) then (idx e.2.2 c).bind λd=> (lJ (i d.2) f).bind λh=> (idx b d.1).bind λj=> a ((List.set b (Int.toNat d.1) h),(i64.wrap (c+1))) else (Bz m.2.1 b).bind λg=> bif g != 0 then some ([],6) else some (b,0)
def DU(c:Ex->Ex)(g:Sh->(R:Type)->Option R->Option R)(m:sJ)(a:Q1)(k:Int):Option fA:= ai (decide (k<0)) λh=> ai (decide ((m.2.2.2.2.length:Int)<=k)) λf=> ai (h||f) λe=> bif e then ( some ([],10)) else ( (cW a).bind λb=> (idx m.2.2.2.2 k).bind λd=> az (Wa c g m a d) aB (b,0))
theorem UU:Ko adb:=
 aX (.c .o (.l ⟨[(true,8,fq),(false,29,an)],[]⟩ (.c (.r [8] .o) .o))) call144 func144 (aj dx (aj o9 (aj Na al))) al al λs=>(show _=DU bk aM s.1 s.2.1 s.2.2 from by kernel_rfl).trans ((congrArg (λa=>DU a aM s.1 s.2.1 s.2.2) aJ).trans ((congrArg (λb=>DU id b s.1 s.2.1 s.2.2) aN).trans (by kernel_rfl)))
def wR:aq:=⟨30,[(.bx 56 0 true [.sfp,(.own aP 5 false)])],ez,[(true,0,(.bx 56 0 true [.sfp,.same]))],U2 iZ⟩
theorem jX:Ko wR:=
 aw .o call30 func30 al
def u5:aq:=⟨21,[Ec,.str],(.cC [an,(.iO (.raw .nilIface))]),[(true,0,Ec)],λs=>cM s.2.2 s.1 s.2.1⟩
theorem jl:Ko u5:=
 aw .o call21 func21 (aj jX al)
def wL:aq:=⟨189,[Ec,iu],(.iO (.raw .nilIface)),[(true,0,Ec)],λs=>nA s.2.2 s.1 s.2.1⟩
theorem uF:Ko wL:=
 aw .o call189 func189 (aj jX al)
def Bm:aq:=⟨23,[Ec],.str,[],U2 kE⟩
theorem lM:Ko Bm:=
 aw (.r [0] .o) call23 func23 al
def aef:aq:=⟨145,[aS],.str,[],λs=>Xw s⟩
theorem WM:Ko aef:=
 aw (.l ⟨[(true,3,Ec),(false,8,an)],[]⟩ .o) call145 func145 (aj XD (aj jl (aj uF (aj lM al))))
def R7:aq:=⟨100,[ahf,aS],ez,[(true,0,ahf)],λs=>rz s.2.2 s.1 s.2.1⟩
theorem JP:Ko R7:=
 aw (.j ⟨[(true,0,(.bx 217 0 true [.same,(.mp .s .bo true)]))],[]⟩ .o .o) call100 func100 (aj WM al)
def adS:aq:=⟨65,[xJ,aS],(.cC [ia,an]),[],U2 C9⟩
theorem ajp:(⟨142,Tryz.f142⟩:jH).Ok X0.P:=⟨call142,func142⟩
theorem vQ:Ko adS:=
 aX (.c (.c (.l ⟨[(false,10,an),(true,10004,(.bx 24 0 true [.same])),(true,10005,(.bx 22 0 true [an])),(true,10006,ahf)],[]⟩ .o) .o) (.r [70000,4,5,6] .o)) call65 func65 (aj UH (aj M8 (aj UU (aj JP (aj dx al))))) al (aj ajp al) λ_=>by kernel_rfl
def Y6:aq:=⟨45,[xJ,wu],(.cC [an,aS]),[],U2 NY⟩
theorem QU:Ko Y6:=
 aw (.c .o (.l ⟨[(true,6,aow),(false,10,an),(false,11,ia)],[]⟩ (.c (.r [] (.c .o (.l ⟨[(true,6,aow),(false,10,an),(false,11,ia),(false,61,an)],[]⟩ .o))) .o))) call45 func45 (aj vL (aj yr (aj vQ al)))
def Fm:aq:=⟨36,[agt],.bool,[(true,0,af4)],λs=>vt s.1 s.2.1 s.2.2.1 s.2.2.2.1 s.2.2.2.2.1 s.2.2.2.2.2.1 s.2.2.2.2.2.2.1 s.2.2.2.2.2.2.2.1 s.2.2.2.2.2.2.2.2.1 (d8 s).2.1 (d8 s).2.2.1 (d8 s).2.2.2.1 (d8 s).2.2.2.2.1 (d8 s).2.2.2.2.2.1 (d8 s).2.2.2.2.2.2.1 (d8 s).2.2.2.2.2.2.2.1 (d8 (d8 s)).1 (d8 (d8 s)).2.1 (d8 (d8 s)).2.2.1 (d8 (d8 s)).2.2.2.1 (d8 (d8 s)).2.2.2.2.1 (d8 (d8 s)).2.2.2.2.2.1 (d8 (d8 s)).2.2.2.2.2.2⟩
theorem AK:Ko Fm:=
 aw .o call36 func36 (aj QU (aj hU al))
def ic(a:Pp):aq:=⟨197,[(.sli .ex),(.sli .ex),(.fn 155 [] [])],.bool,[],λs=>dQ a s.1 s.2⟩
def gI(b:Ex->Ex)(j:Sh->(R:Type)->Option R->Option R)(h:(Ex×Ex)->vb)(f:(List Ex))(g:(List Ex))(a:Int->vb)(c:Int):vb:= bif decide (c<(f.length:Int)) then (idx f c).bind λi=> (idx g c).bind λe=> (h ((b i),(b e))).bind λd=> bif !d then some false else a (i64.wrap (c+1)) else some true
def cL(a:Ex->Ex)(e:Sh->(R:Type)->Option R->Option R)(d:(Ex×Ex)->vb)(c:(List Ex))(b:(List Ex)):vb:= bif (c.length:Int) != (b.length:Int) then some false else az (gI a e d c b) aB 0
theorem gJ(a:Pp)(b:aor a):Ko (ic a):=
 aX (.c .o (.l ⟨[(false,17,an)],[]⟩ .o)) call197 func197 (aj b al) al al λs=>(show _=cL bk aM a s.1 s.2 from by kernel_rfl).trans ((congrArg (λd=>cL d aM a s.1 s.2) aJ).trans ((congrArg (λe=>cL id e a s.1 s.2) aN).trans (by kernel_rfl)))
def OW:aq:=⟨155,[fG,fG],.bool,[],U2 xg⟩
def Of:Pp->Pp:=λa s=>OQ a s.1 s.2
theorem PH(a:Pp)(b:aor a):(tZ (Of a)).Ok X0.P X0.Γ:=
 aw .o call155 func155 (aj (gJ a b) al)
theorem FK:Ko OW:=(show OW=tZ (az (Of) aB) by kernel_rfl)▸dL (X:=X0) (E:=tZ) ⟨call155,λ_ _ h=>nomatch h⟩ (PH) aB
def NF:aq:=⟨109,[GV,fG],ml,[(true,0,GV)],λs=>fV s.2 s.1⟩
def Iq(c:Ex->Ex)(i:Sh->(R:Type)->Option R->Option R)(e:Ex)(l:(List Ex))(d:Int->Option Q66)(a:Int):Option Q66:= bif decide (a<(l.length:Int)) then (idx l a).bind λg=> (xg (c g) (c e)).bind λf=> bif f then ( aI (decide (0<=a))<| some ((bW .u64 1 a),l)) else ( d (i64.wrap (a+1))) else aI (aH (List.length l+List.length ([(Ex.mk 0 0 0 [])]:List Ex)) 48)<| (idx (l++([(Ex.mk 0 0 0 [])]:List Ex)) (l.length:Int)).bind λh=> i (.b .l .l) _ ( aI (decide (0<=(i64.wrap ((List.length (List.set (l++([(Ex.mk 0 0 0 [])]:List Ex)) (Int.toNat (l.length:Int)) (c e)):Int)-1))))<| some ((bW .u64 1 (i64.wrap ((List.length (List.set (l++([(Ex.mk 0 0 0 [])]:List Ex)) (Int.toNat (l.length:Int)) (c e)):Int)-1))),(List.set (l++([(Ex.mk 0 0 0 [])]:List Ex)) (Int.toNat (l.length:Int)) (c e))))
def pQ(a:Ex->Ex)(b:Sh->(R:Type)->Option R->Option R)(e:Ex)(l:(List Ex)):Option Q66:= az (Iq a b e l) aB 0
theorem tT:Ko NF:=
 aX (.l ⟨[(true,0,(.bx 234 0 true [.same])),(false,12,an)],[]⟩ (.c .o (.r [0] .o))) call109 func109 (aj FK al) al al λs=>(show _=pQ bk aM s.2 s.1 from by kernel_rfl).trans ((congrArg (λa=>pQ a aM s.2 s.1) aJ).trans ((congrArg (λb=>pQ id b s.2 s.1) aN).trans (by kernel_rfl)))
def rq:aq:=⟨156,[ml,(.dat uO []),ZH,LF,(.bx 232 0 true [GV]),ama],ez,[(true,2,ZH),(true,3,LF),(true,4,(.bx 232 0 true [.same])),(true,1005,GV),(true,5,(.bx 283 0 true [.same]))],U5 tf⟩
def yL(t:Ex->Ex)(y:Sh->(R:Type)->Option R->Option R)(o:Q43->Option IL)(b:Int)(n:cu)(x:Xo)(e:Q8)(l:(List Ex))(m:Int->Option IL)(a:Int):Option IL:= aI (decide (0<=a))<| bif (pW .u64 (bI .u64 b n.1) (bW .u64 1 a))==0 then m (i64.wrap (a+1)) else (idx l a).bind λd=> aI (decide (0<=a))<| (oX (t d)).bind λu=> bif u then ( (o ((bI .u64 (bI .u64 b n.1) (bW .u64 1 a)),((dP .u64 n.1 (bW .u64 1 a)),n.2),x,e,l)).bind λs=> some (s.1,s.2.1,s.2.2)) else ( (idx d.l 0).bind λw=> (fV (t w) l).bind λf=> bif d.op==20 then (o ((bI .u64 (bI .u64 b n.1) (bW .u64 1 a)),((dP .u64 n.1 (bW .u64 1 a)),(dP .u64 n.2 f.1)),x,e,f.2)).bind λr=> some (r.1,r.2.1,r.2.2) else (idx d.l 1).bind λv=> (fV (t v) f.2).bind λc=> bif d.op==16 then (o ((dP .u64 (dP .u64 (bI .u64 (bI .u64 b n.1) (bW .u64 1 a)) f.1) c.1),((dP .u64 n.1 (bW .u64 1 a)),n.2),x,e,c.2)).bind λq=> some (q.1,q.2.1,q.2.2) else bif d.op==17 then (o ((dP .u64 (bI .u64 (bI .u64 b n.1) (bW .u64 1 a)) f.1),((dP .u64 n.1 (bW .u64 1 a)),n.2),x,e,c.2)).bind λp=> (o ((dP .u64 (bI .u64 (bI .u64 b n.1) (bW .u64 1 a)) c.1),((dP .u64 n.1 (bW .u64 1 a)),n.2),p.1,p.2.1,p.2.2)).bind λk=> some (k.1,k.2.1,k.2.2) else bif d.op==23 then (o ((dP .u64 (bI .u64 (bI .u64 b n.1) (bW .u64 1 a)) c.1),((dP .u64 n.1 (bW .u64 1 a)),n.2),x,e,c.2)).bind λj=> (o ((dP .u64 (bI .u64 (bI .u64 b n.1) (bW .u64 1 a)) f.1),((dP .u64 n.1 (bW .u64 1 a)),(dP .u64 n.2 (bW .u64 1 a))),j.1,j.2.1,j.2.2)).bind λi=> some (i.1,i.2.1,i.2.2) else bif d.op==24 then (o ((dP .u64 (dP .u64 (bI .u64 (bI .u64 b n.1) (bW .u64 1 a)) f.1) c.1),((dP .u64 n.1 (bW .u64 1 a)),n.2),x,e,c.2)).bind λh=> (o ((dP .u64 (bI .u64 (bI .u64 b n.1) (bW .u64 1 a)) c.1),((dP .u64 n.1 (bW .u64 1 a)),(dP .u64 n.2 (bW .u64 1 a))),h.1,h.2.1,h.2.2)).bind λg=> some (g.1,g.2.1,g.2.2) else some (x,e,c.2))
def jA(d:Ex->Ex)(e:Sh->(R:Type)->Option R->Option R)(f:Q43->Option IL)(b:Int)(n:cu)(x:Xo)(a:Q8)(l:(List Ex)):Option IL:= bif (bI .u64 b n.1)==0 then bif !(kX x n false) then (x).bind λc=> aI (aH (List.length a+List.length ([n]:List cu)) 16)<| some ((some (lu c n true)),(a++([n]:List cu)),l) else some (x,a,l) else az (yL d e f b n x a l) aB 0
def p6:aa6->aa6:=λa s=>rb a s.1 s.2.1 s.2.2.1 s.2.2.2.1 s.2.2.2.2
theorem w6(a:aa6)(b:aqj a):(gE (p6 a)).Ok X0.P X0.Γ:=
 aX (.c .o (.l ⟨[(true,7,(.bx 239 0 true [.same,.same])),(false,8,an)],[]⟩ (.c .o (.r [40000] (.c .o (.r [4,40000] (.c .o (.r [4,40000] .o)))))))) call156 func156 (aj BI (aj b (aj tT al))) al al λs=>(show _=jA bk aM a s.1 s.2.1 s.2.2.1 s.2.2.2.1 s.2.2.2.2 from by kernel_rfl).trans ((congrArg (λd=>jA d aM a s.1 s.2.1 s.2.2.1 s.2.2.2.1 s.2.2.2.2) aJ).trans ((congrArg (λe=>jA id e a s.1 s.2.1 s.2.2.1 s.2.2.2.1 s.2.2.2.2) aN).trans (by kernel_rfl)))
theorem yT:Ko rq:=(show rq=gE (az (p6) aB) by kernel_rfl)▸dL (X:=X0) (E:=gE) ⟨call156,λ_ _ h=>nomatch h⟩ (w6) aB
def JD:aq:=⟨111,[GV,ml],(.own uO 239 true),[(true,0,GV)],λs=>iL s.2 s.1⟩
theorem Er:Ko JD:=
 aw .o call111 func111 (aj yT al)
def adf:aq:=⟨110,[(.sli uO),ZK,LF],fq,[(true,1,ZK),(true,2,LF)],U3 xd⟩
theorem V1:Ko adf:=
 aw (.l ⟨[(true,1,ZK),(true,2,LF),(false,5,fq),(false,12,an)],[]⟩ .o) call110 func110 al
def G6:aq:=⟨109,[(.bx 234 0 false [(.sli .ex)]),fG],ml,[],λs=>oh s.2 s.1⟩
def Cu(c:Ex->Ex)(g:Sh->(R:Type)->Option R->Option R)(e:Ex)(l:(List Ex))(a:Int->vy)(b:Int):vy:= bif decide (b<(l.length:Int)) then (idx l b).bind λf=> (xg (c f) (c e)).bind λd=> bif d then ( aI (decide (0<=b))<| some (bW .u64 1 b)) else ( a (i64.wrap (b+1))) else none
def ma(a:Ex->Ex)(b:Sh->(R:Type)->Option R->Option R)(e:Ex)(l:(List Ex)):vy:= az (Cu a b e l) aB 0
theorem Cp:Ko G6:=
 aX (.l ⟨[(false,12,an)],[]⟩ .o) call109 func109 (aj FK al) al al λs=>(show _=ma bk aM s.2 s.1 from by kernel_rfl).trans ((congrArg (λa=>ma a aM s.2 s.1) aJ).trans ((congrArg (λb=>ma id b s.2 s.1) aN).trans (by kernel_rfl)))
def akE:aq:=⟨70,[fG],afL,[],λs=>aaA s⟩
def adN(g:Ex->Ex)(n:Sh->(R:Type)->Option R->Option R)(j:(List Ex))(i:ka)(l:Int)(e:(ka×Int)->Option dj)(m:cu)(b:((List Ex)×Int)->Option dj):(List Ex)×Int->Option dj:=λ⟨c,a⟩=> bif decide (a<(j.length:Int)) then (idx j a).bind λd=> aI (decide (0<=a))<| ai ((pW .u64 m.1 (bW .u64 1 a)) != 0) λf=> bD f default (oX (g d)) λh=> ai (f&&h) λk=> bif k then ( aI (aH (List.length c+List.length ([(g d)]:List Ex)) 48)<| b ((c++([(g d)]:List Ex)),(i64.wrap (a+1)))) else ( b (c,(i64.wrap (a+1)))) else aI (aH (List.length i+List.length ([c]:List (List Ex))) 24)<| e ((i++([c]:List (List Ex))),(i64.wrap (l+1)))
def adW(h:Ex->Ex)(q:Sh->(R:Type)->Option R->Option R)(m:SM)(e:(List Ex))(o:(List Q1))(p:Q8)(n:ka)(a:gQ->Option dj):(List Q1)×Int->Option dj:=λ⟨c,b⟩=> bif decide (b<(e.length:Int)) then (idx e b).bind λd=> (oX (h d)).bind λg=> ai (d.op != 23) λk=> ai (g||k) λj=> bif j then ( a (c,(i64.wrap (b+1)))) else ( (idx d.l 1).bind λi=> (oh (h i) e).bind λf=> az (XO p c b a f) aB (([]:xb),0)) else some (n,o,m.1,c)
def ad9(e:Ex->Ex)(j:Sh->(R:Type)->Option R->Option R)(g:SM)(f:(List Ex))(h:(List Q1))(c:Q8)(a:(ka×Int)->Option dj):ka×Int->Option dj:=λ⟨d,b⟩=> bif decide (b<(c.length:Int)) then (idx c b).bind λi=> az (adN e j f d b a i) aB ([],0) else az (adW e j g f h c d) aB ([],0)
def adX(j:Ex->Ex)(l:Sh->(R:Type)->Option R->Option R)(h:SM)(a:((List Ex)×(List Q1)×Q8×OK×Int)->Option dj):(List Ex)×(List Q1)×Q8×OK×Int->Option dj:=λ⟨g,d,c,i,e⟩=> bif decide (e<(c.length:Int)) then (idx c e).bind λk=> (iL k.2 g).bind λf=> (xd f.1 i c).bind λb=> aI (aH (List.length d+List.length ([b.1]:List Q1)) 24)<| a (f.2,(d++([b.1]:List Q1)),b.2.2,b.2.1,(i64.wrap (e+1))) else az (ad9 j l h g d c) aB ([],0)
def Qo(d:Ex->Ex)(f:Sh->(R:Type)->Option R->Option R)(e:Ex):Option dj:= (fV (d e) []).bind λc=> (iL c.1 c.2).bind λb=> (xd b.1 (some []:OK) []).bind λa=> az (adX d f a) aB (b.2,[],a.2.2,a.2.1,0)
theorem adi:Ko akE:=
 aX (.l ⟨[(true,3,GV),(true,5,(.bx 122 0 true [.same,ia,.same,.same])),(true,6,LF),(true,8,(.fn 110 [] [ZK,.same])),(false,9,an)],[]⟩ (.c (.r [8,3,5,40000] .o) (.l ⟨[(true,5,(.bx 122 0 true [(.own (.l .ex) 77 true),.same,.same,.same])),(false,56,an)],[]⟩ (.c (.l ⟨[(true,5,VI),(false,12,(.own .ex 79 true)),(false,65,an)],[]⟩ (.c (.r [40000] .o) .o)) (.r [30000,20003] (.l ⟨[(true,2,VI),(true,5,(.bx 122 0 true [.same,.same,.same,ia])),(false,97,an)],[]⟩ (.c (.c .o (.l ⟨[(true,5,VI),(false,18,fq),(false,118,an)],[]⟩ (.c (.r [40000] .o) .o))) .o))))))) call70 func70 (aj tT (aj Er (aj V1 (aj BI (aj Cp al))))) al al λs=>(show _=Qo bk aM s from by kernel_rfl).trans ((congrArg (λa=>Qo a aM s) aJ).trans ((congrArg (λb=>Qo id b s) aN).trans (by kernel_rfl)))
def GJ:aq:=⟨107,[(.dat dC []),an],an,[],U2 j7⟩
theorem CA:Ko GJ:=
 aw .o call107 func107 al
def Eu:aq:=⟨154,[aS,an],an,[],U2 uP⟩
theorem yG:Ko Eu:=
 aw (.l ⟨[(false,8,an)],[]⟩ .o) call154 func154 al
def yE:aq:=⟨108,[aS,an],.bool,[],U2 gC⟩
theorem lv:Ko yE:=
 aw .o call108 func108 (aj yG al)
def ags:aq:=⟨69,[La],afL,[],λs=>Pe s⟩
theorem YE:Ko ags:=
 aw (.s (.s (.s (.j ⟨[(false,4,wv)],[]⟩ (.c (.l ⟨[(true,5,fq),(false,31,an)],[]⟩ .o) .o) (.l ⟨[(true,9,amw),(false,44,an)],[]⟩ (.c (.l ⟨[(true,9,amw),(false,48,an)],[]⟩ (.c (.s (.s (.s (.j ⟨[(false,12,an)],[]⟩ .o (.l ⟨[(true,9,VI),(false,13,fq),(false,69,an)],[]⟩ (.c .o (.r [9] .o))))))) .o)) (.l ⟨[(true,9,(.bx 122 0 true [.same,.same,fq,.same])),(false,104,an)],[]⟩ (.c (.r [9] .o) (.l ⟨[(true,2,VI),(true,9,VI),(false,18,fq),(false,121,an)],[]⟩ .o))))))))) call69 func69 (aj CA (aj lv al))
def MZ:aq:=⟨47,[fG],afL,[],λs=>DB s⟩
def pD(a:Ex->Ex)(f:Sh->(R:Type)->Option R->Option R)(e:Ex):Option dj:= (Gz (a e)).bind λd=> (aaA (a d.1)).bind λc=> (Pe c).bind λb=> some b
theorem Iw:Ko MZ:=
 aX .o call47 func47 (aj JJ (aj adi (aj YE al))) al al λs=>(show _=pD bk aM s from by kernel_rfl).trans ((congrArg (λa=>pD a aM s) aJ).trans ((congrArg (λb=>pD id b s) aN).trans (by kernel_rfl)))
def YG:aq:=⟨66,[xJ,La],(.cC [Hl,an]),[],U2 OY⟩
theorem PN:Ko YG:=
 aw (.c .o (.r [40000] .o)) call66 func66 (aj yf (aj gO al))
def aea:aq:=⟨146,[La,aS,aS],(.fn 190 [] [Zq,(.bx 122 0 true [(.sli (.l .ex)),wv,aS,wv]),Zq]),[],U3 Km⟩
theorem Gn:Ko aea:=
 aw .o call146 func146 al
def YR:aq:=⟨208,[fG,J9],.bool,[],U2 El⟩
def xw(a:Ex->Ex)(c:Sh->(R:Type)->Option R->Option R)(e:Ex)(x:Q1):vb:= (lJ (a e) x).bind λb=> some (b != 1)
theorem QG:Ko YR:=
 aX .o call208 func208 (aj o9 al) al al λs=>(show _=xw bk aM s.1 s.2 from by kernel_rfl).trans ((congrArg (λa=>xw a aM s.1 s.2) aJ).trans ((congrArg (λb=>xw id b s.1 s.2) aN).trans (by kernel_rfl)))
def oL:aq:=⟨216,[(.sli .ex),(.fn 208 [] [J9])],an,[],U2 iM⟩
def mQ(e:Ex->Ex)(g:Sh->(R:Type)->Option R->Option R)(s:(List Ex))(c:Q1)(a:Int->vy)(b:Int):vy:= bif decide (b<(s.length:Int)) then (idx s b).bind λf=> (El (e f) c).bind λd=> bif d then ( some b) else ( a (i64.wrap (b+1))) else some (-1)
def eS(a:Ex->Ex)(b:Sh->(R:Type)->Option R->Option R)(s:(List Ex))(c:Q1):vy:= az (mQ a b s c) aB 0
theorem mE:Ko oL:=
 aX (.l ⟨[(false,8,an)],[]⟩ .o) call216 func216 (aj QG al) al al λs=>(show _=eS bk aM s.1 s.2 from by kernel_rfl).trans ((congrArg (λa=>eS a aM s.1 s.2) aJ).trans ((congrArg (λb=>eS id b s.1 s.2) aN).trans (by kernel_rfl)))
def mM:aq:=⟨207,[(.sli .ex),(.fn 208 [] [J9])],.bool,[],U2 gP⟩
theorem ll:Ko mM:=
 aw .o call207 func207 (aj mE al)
def afD:aq:=⟨191,[La,an,aS],.bool,[],U3 PG⟩
theorem IE:Ko afD:=
 aw .o call191 func191 (aj ll al)
def s6:aq:=⟨209,[fT,an,an],fT,[],U3 kO⟩
theorem pU:Ko s6:=
 aw (.s (.s (.j ⟨[(false,0,fT),(false,7,ml)],[]⟩ .o .o))) call209 func209 (aj ahT al)
def D7:aq:=⟨192,[fT,an,an],fT,[],U3 tG⟩
theorem yZ:Ko D7:=
 aw .o call192 func192 (aj pU al)
def Wv:aq:=⟨147,[abN,aS],ez,[(true,0,abN)],λs=>AO s.2.2 s.1 s.2.1⟩
theorem yp:Ko Wv:=
 aw (.j ⟨[(true,0,(.bx 270 0 true [.same,(.mp .s .bo true)]))],[]⟩ .o (.l ⟨[(true,0,(.bx 270 0 true [.same,.same])),(false,4,fT),(false,18,an)],[]⟩ (.c .o (.r [] (.c (.r [0] .o) .o))))) call147 func147 (aj yZ al)
def adl:aq:=⟨102,[xJ,La],ia,[],U2 Xe⟩
theorem W8:(⟨190,Tryz.f190⟩:jH).Ok X0.P:=⟨call190,func190⟩
theorem WT:Ko adl:=
 aX (.c (.c (.l ⟨[(false,9,an),(true,10005,abN)],[]⟩ (.c (.n 4 (.c .o .o)) .o)) .o) (.r [70000,5] .o)) call102 func102 (aj Gn (aj IE (aj dx (aj yp al)))) al (aj W8 al) λ_=>by kernel_rfl
def IY:bH:=⟨103,[MA,aS],P9,none,false,false,.bool,[(true,0,Ho)],λs=>kV (d8 (d8 (d8 (d8 (d8 s))))).2.2.2.2.2 s.1 s.2.1 s.2.2.1 s.2.2.2.1 s.2.2.2.2.1 s.2.2.2.2.2.1 s.2.2.2.2.2.2.1 s.2.2.2.2.2.2.2.1 s.2.2.2.2.2.2.2.2.1 (d8 s).2.1 (d8 s).2.2.1 (d8 s).2.2.2.1 (d8 s).2.2.2.2.1 (d8 s).2.2.2.2.2.1 (d8 s).2.2.2.2.2.2.1 (d8 s).2.2.2.2.2.2.2.1 (d8 (d8 s)).1 (d8 (d8 s)).2.1 (d8 (d8 s)).2.2.1 (d8 (d8 s)).2.2.2.1 (d8 (d8 s)).2.2.2.2.1 (d8 (d8 s)).2.2.2.2.2.1 (d8 (d8 s)).2.2.2.2.2.2.1 (d8 (d8 s)).2.2.2.2.2.2.2.1 (d8 (d8 (d8 s))).1 (d8 (d8 (d8 s))).2.1 (d8 (d8 (d8 s))).2.2.1 (d8 (d8 (d8 s))).2.2.2.1 (d8 (d8 (d8 s))).2.2.2.2.1 (d8 (d8 (d8 s))).2.2.2.2.2.1 (d8 (d8 (d8 s))).2.2.2.2.2.2.1 (d8 (d8 (d8 s))).2.2.2.2.2.2.2.1 (d8 (d8 (d8 (d8 s)))).1 (d8 (d8 (d8 (d8 s)))).2.1 (d8 (d8 (d8 (d8 s)))).2.2.1 (d8 (d8 (d8 (d8 s)))).2.2.2.1 (d8 (d8 (d8 (d8 s)))).2.2.2.2.1 (d8 (d8 (d8 (d8 s)))).2.2.2.2.2.1 (d8 (d8 (d8 (d8 s)))).2.2.2.2.2.2.1 (d8 (d8 (d8 (d8 s)))).2.2.2.2.2.2.2.1 (d8 (d8 (d8 (d8 (d8 s))))).1 (d8 (d8 (d8 (d8 (d8 s))))).2.1 (d8 (d8 (d8 (d8 (d8 s))))).2.2.1 (d8 (d8 (d8 (d8 (d8 s))))).2.2.2.1 (d8 (d8 (d8 (d8 (d8 s))))).2.2.2.2.1⟩
theorem kL:po IY:=
 acN (.s (.s (.j ⟨[],[]⟩ .o .o))) call103 func103 (aj yr al)
def acZ:aq:=⟨194,[aS],(.cC [aS,an]),[],λs=>HM s⟩
theorem CY:Ko acZ:=
 aw .o call194 func194 al
def adZ:aq:=⟨193,[xJ,La,aS],(.cC [ia,an]),[],U3 XU⟩
theorem VR:Ko adZ:=
 aX (.c .o (.l ⟨[(true,12,abN),(false,32,an)],[]⟩ (.c (.r [] (.c (.c (.l ⟨[(false,9,an),(true,10012,abN)],[]⟩ (.c (.n 4 (.c .o .o)) .o)) .o) (.r [70000,12] .o))) .o))) call193 func193 (aj CY (aj vQ (aj Gn (aj IE (aj dx (aj yp al)))))) al (aj W8 al) λ_=>by kernel_rfl
def F7:bH:=⟨148,[(.bx 169 0 false QL6),(.own xU 277 true),aS],P9,none,false,false,(.own xU 277 true),[],λs=>gH (d8 (d8 (d8 (d8 (d8 s))))).2.2.2.2.2.1 (d8 (d8 (d8 (d8 (d8 s))))).2.2.2.2.2.2 s.1 s.2.1 s.2.2.1 s.2.2.2.1 s.2.2.2.2.1 s.2.2.2.2.2.1 s.2.2.2.2.2.2.1 s.2.2.2.2.2.2.2.1 s.2.2.2.2.2.2.2.2.1 (d8 s).2.1 (d8 s).2.2.1 (d8 s).2.2.2.1 (d8 s).2.2.2.2.1 (d8 s).2.2.2.2.2.1 (d8 s).2.2.2.2.2.2.1 (d8 s).2.2.2.2.2.2.2.1 (d8 (d8 s)).1 (d8 (d8 s)).2.1 (d8 (d8 s)).2.2.1 (d8 (d8 s)).2.2.2.1 (d8 (d8 s)).2.2.2.2.1 (d8 (d8 s)).2.2.2.2.2.1 (d8 (d8 s)).2.2.2.2.2.2.1 (d8 (d8 s)).2.2.2.2.2.2.2.1 (d8 (d8 (d8 s))).1 (d8 (d8 (d8 s))).2.1 (d8 (d8 (d8 s))).2.2.1 (d8 (d8 (d8 s))).2.2.2.1 (d8 (d8 (d8 s))).2.2.2.2.1 (d8 (d8 (d8 s))).2.2.2.2.2.1 (d8 (d8 (d8 s))).2.2.2.2.2.2.1 (d8 (d8 (d8 s))).2.2.2.2.2.2.2.1 (d8 (d8 (d8 (d8 s)))).1 (d8 (d8 (d8 (d8 s)))).2.1 (d8 (d8 (d8 (d8 s)))).2.2.1 (d8 (d8 (d8 (d8 s)))).2.2.2.1 (d8 (d8 (d8 (d8 s)))).2.2.2.2.1 (d8 (d8 (d8 (d8 s)))).2.2.2.2.2.1 (d8 (d8 (d8 (d8 s)))).2.2.2.2.2.2.1 (d8 (d8 (d8 (d8 s)))).2.2.2.2.2.2.2.1 (d8 (d8 (d8 (d8 (d8 s))))).1 (d8 (d8 (d8 (d8 (d8 s))))).2.1 (d8 (d8 (d8 (d8 (d8 s))))).2.2.1 (d8 (d8 (d8 (d8 (d8 s))))).2.2.2.1 (d8 (d8 (d8 (d8 (d8 s))))).2.2.2.2.1⟩
theorem nR:po F7:=
 acN (.s (.j ⟨[],[]⟩ .o (.r [] (.j ⟨[],[]⟩ .o .o)))) call148 func148 (aj VR al)
def abF:aq:=⟨149,[La,aS],.bool,[],U2 Ru⟩
theorem RW:Ko abF:=
 aw .o call149 func149 (aj CY (aj lv al))
def yH:aq:=⟨153,[MP],ez,[],λs=>pj s⟩
theorem vG:Ko yH:=
 aw .o call153 func153 al
def EY:aq:=⟨116,[aS,aS],.bool,[],U2 iX⟩
theorem iU:Ko EY:=
 aw (.c .o (.l ⟨[(false,13,an)],[]⟩ .o)) call116 func116 al
def Zi:aq:=⟨151,[(.sli xU)],ia,[],λs=>EH s⟩
theorem Qe:Ko Zi:=
 aw (.l ⟨[(false,3,ia),(false,8,an)],[]⟩ .o) call151 func151 al
def yM:bH:=⟨150,[MP,aS,J9,(.bx 225 0 false [MP])],aci,none,false,true,ez,[],U4 pr⟩
theorem vN:po yM:=
 acN (.c (.r [80000] .o) .o) call150 func150 (aj iU (aj Qe al))
def agU:aq:=⟨264,[an],iu,[],λs=>QQ s⟩
theorem IX:Ko agU:=
 aw .o call264 func264 al
def Zd:aq:=⟨258,[an,iu,afC,Zz],ez,[(true,3,Zz)],U7 NV⟩
theorem Qn:Ko Zd:=
 aw .o call258 func258 al
def aio:aq:=⟨257,[PO,di,an,(.fn 258 [] [afC,Zz])],an,[(true,3,(.fn 258 [] [.same,Zz]))],U8 aeY⟩
theorem ab7:Ko aio:=
 aw .o call257 func257 (aj IX (aj kl (aj Qn al)))
def ahh:aq:=⟨252,[PO,di,an],EW,[],U3 abf⟩
theorem Yk:Ko ahh:=
 aw .o call252 func252 (aj ab7 al)
def No:aq:=⟨246,[ln,kN,aS,an],EW,[],U4 Dc⟩
theorem Hb:Ko No:=
 aw (.r [5] .o) call246 func246 (aj dU (aj Yk al))
def ah4:aq:=⟨295,[KV,gB,aS,an],(.cC [an,an]),[],U4 WX⟩
theorem Ld:Ko ah4:=
 aw .o call295 func295 (aj eX (aj E8 al))
def agL:aq:=⟨292,[KV,gB,aS,an],EW,[],U4 ZN⟩
theorem Ya:Ko agL:=
 aw .o call292 func292 (aj Ld al)
def Kv:aq:=⟨286,[ln,kN,aS,an],EW,[],U4 BE⟩
theorem F2:Ko Kv:=
 aw .o call286 func286 (aj Ya al)
def aiI:aq:=⟨315,[LY,gB,aS,an],(.cC [an,an]),[],U4 Vk⟩
theorem Lk:Ko aiI:=
 aw .o call315 func315 (aj eX (aj Gy al))
def afy:aq:=⟨310,[LY,gB,aS,an],EW,[],U4 acv⟩
theorem YM:Ko afy:=
 aw .o call310 func310 (aj Lk al)
def LB:aq:=⟨304,[ln,kN,aS,an],EW,[],U4 BS⟩
theorem F8:Ko LB:=
 aw .o call304 func304 (aj YM al)
def Se:aq:=⟨337,[kN,aS,an],an,[],U3 x7⟩
theorem xh:Ko Se:=
 aw (.c .o (.r [3] .o)) call337 func337 (aj dU (aj tx al))
def Np:aq:=⟨331,[ln,kN,aS,an],EW,[],U4 C3⟩
theorem HJ:Ko Np:=
 aw (.c .o (.r [5] .o)) call331 func331 (aj xh (aj dU (aj tx al)))
def age:aq:=⟨374,[uK,di,an],an,[],U3 Qb⟩
theorem IA:Ko age:=
 aw .o call374 func374 (aj BV al)
def WN:aq:=⟨378,[uK,di,an,Vu],ez,[(true,3,Vu)],U4 JY⟩
theorem M6:Ko WN:=
 aw (.l ⟨[(true,3,Vu),(false,19,an)],[]⟩ (.c (.r [3] .o) .o)) call378 func378 (aj kc al)
def YI:aq:=⟨375,[uK,di,an],.bool,[],U3 O7⟩
theorem Pa:Ko YI:=
 aw .o call375 func375 (aj M6 al)
def afU:aq:=⟨371,[uK,di,an],EW,[],U3 acz⟩
theorem YL:Ko afU:=
 aw .o call371 func371 (aj IA (aj Pa al))
def Ns:aq:=⟨365,[ln,kN,aS,an],EW,[],U4 Df⟩
theorem H4:Ko Ns:=
 aw (.r [5] .o) call365 func365 (aj dU (aj YL al))
def aek:aq:=⟨195,[kN,aS,an],EW,[],U3 W9⟩
theorem VG:Ko aek:=
 aw (.c .o (.r [3] .o)) call195 func195 (aj eX (aj xK (aj Hb (aj F2 (aj F8 (aj HJ (aj H4 al)))))))
def Yr:aq:=⟨262,[an,iu,afC,agn],ez,[(true,3,(.bx 98 0 true [.same,.same,.same,di]))],λs=>OC s.1 s.2.1 s.2.2.1 s.2.2.2.1 s.2.2.2.2.1 s.2.2.2.2.2.1 s.2.2.2.2.2.2.1 s.2.2.2.2.2.2.2.1 s.2.2.2.2.2.2.2.2.1 (d8 s).2⟩
theorem Qf:Ko Yr:=
 aw .o call262 func262 (aj dK al)
def abJ:aq:=⟨257,[PO,di,an,(.fn 262 [] [afC,agn])],an,[(true,3,(.fn 262 [] [.same,agn]))],λs=>Uz s.1 s.2.1 s.2.2.1 s.2.2.2.1 s.2.2.2.2.1 s.2.2.2.2.2.1 s.2.2.2.2.2.2.1 s.2.2.2.2.2.2.2.1 s.2.2.2.2.2.2.2.2.1 (d8 s).2.1 (d8 s).2.2⟩
theorem RV:Ko abJ:=
 aw .o call257 func257 (aj IX (aj kl (aj Qf al)))
def ahj:aq:=⟨255,[PO,di,an],(.cC [PO,an]),[],U3 aaT⟩
theorem Yn:Ko ahj:=
 aw .o call255 func255 (aj RV al)
def NK:aq:=⟨250,[ln,kN,aS,an],y7,[],U4 Db⟩
theorem Ha:Ko NK:=
 aw (.r [40000] .o) call250 func250 (aj dU (aj Yn al))
def aga:aq:=⟨294,[KV,gB,aS,an],(.cC [KV,an]),[],U4 ZT⟩
theorem Y3:Ko aga:=
 aw (.c .o (.r [4] .o)) call294 func294 (aj Ld (aj dK al))
def J3:aq:=⟨290,[ln,kN,aS,an],y7,[],U4 BQ⟩
theorem GF:Ko J3:=
 aw .o call290 func290 (aj Y3 al)
def agp:aq:=⟨312,[LY,gB,aS,an],(.cC [LY,an]),[],U4 acT⟩
theorem Ye:Ko agp:=
 aw (.c .o (.r [4] .o)) call312 func312 (aj Lk (aj dK al))
def JU:aq:=⟨308,[ln,kN,aS,an],y7,[],U4 Bq⟩
theorem Gw:Ko JU:=
 aw .o call308 func308 (aj Ye al)
def Nd:aq:=⟨335,[ln,kN,aS,an],y7,[],U4 Dt⟩
theorem HQ:Ko Nd:=
 aw (.c .o (.r [5] .o)) call335 func335 (aj xh (aj dU (aj CR al)))
def Wn:aq:=⟨378,[(.dat E5 [none,some 11,none]),di,(.iO (.int .i64 1)),(.fn 380 [] [])],ez,[(true,0,(.agg [.same,.same,.same,.same,fT,.same]))],U2 Ks⟩
theorem NJ:Ko Wn:=
 aw (.l ⟨[(true,0,(.agg [.same,.same,.same,.same,fT,.same])),(false,19,an)],[]⟩ (.c (.r [4,0] .o) .o)) call378 func378 (aj kc al)
def VD:aq:=⟨378,[(.dat E5 [none,none,some 11]),di,(.iO (.int .i64 2)),(.fn 380 [] [])],ez,[(true,0,(.agg [.same,.same,.same,.same,.same,fT]))],U2 Kw⟩
theorem Nq:Ko VD:=
 aw (.l ⟨[(true,0,(.agg [.same,.same,.same,.same,.same,fT])),(false,19,an)],[]⟩ (.c (.r [4,0] .o) .o)) call378 func378 (aj kc al)
def Zb:aq:=⟨377,[uK,di,an],uK,[],U3 O0⟩
theorem QZ:Ko Zb:=
 aw (.r [60000,2,0,0,1,2] (.c .o (.c .o (.c .o (.n 77777 .o))))) call377 func377 (aj dK (aj yl (aj NJ (aj Nq al))))
def af0:aq:=⟨373,[uK,di,an],(.cC [uK,an]),[],U3 abw⟩
theorem Yd:Ko af0:=
 aw .o call373 func373 (aj IA (aj QZ al))
def NC:aq:=⟨369,[ln,kN,aS,an],y7,[],U4 C6⟩
theorem GX:Ko NC:=
 aw (.r [40000] .o) call369 func369 (aj dU (aj Yd al))
def ads:aq:=⟨196,[kN,aS,an],y7,[],U3 Xm⟩
theorem VU:Ko ads:=
 aw (.c .o (.r [3,6] .o)) call196 func196 (aj eX (aj xK (aj Ha (aj GF (aj Gw (aj HQ (aj GX al)))))))
def Jk:bH:=⟨152,[MA,aS],P9,none,false,false,.bool,[(true,0,Ho)],λs=>yy (d8 (d8 (d8 (d8 (d8 s))))).2.2.2.2.2 s.1 s.2.1 s.2.2.1 s.2.2.2.1 s.2.2.2.2.1 s.2.2.2.2.2.1 s.2.2.2.2.2.2.1 s.2.2.2.2.2.2.2.1 s.2.2.2.2.2.2.2.2.1 (d8 s).2.1 (d8 s).2.2.1 (d8 s).2.2.2.1 (d8 s).2.2.2.2.1 (d8 s).2.2.2.2.2.1 (d8 s).2.2.2.2.2.2.1 (d8 s).2.2.2.2.2.2.2.1 (d8 (d8 s)).1 (d8 (d8 s)).2.1 (d8 (d8 s)).2.2.1 (d8 (d8 s)).2.2.2.1 (d8 (d8 s)).2.2.2.2.1 (d8 (d8 s)).2.2.2.2.2.1 (d8 (d8 s)).2.2.2.2.2.2.1 (d8 (d8 s)).2.2.2.2.2.2.2.1 (d8 (d8 (d8 s))).1 (d8 (d8 (d8 s))).2.1 (d8 (d8 (d8 s))).2.2.1 (d8 (d8 (d8 s))).2.2.2.1 (d8 (d8 (d8 s))).2.2.2.2.1 (d8 (d8 (d8 s))).2.2.2.2.2.1 (d8 (d8 (d8 s))).2.2.2.2.2.2.1 (d8 (d8 (d8 s))).2.2.2.2.2.2.2.1 (d8 (d8 (d8 (d8 s)))).1 (d8 (d8 (d8 (d8 s)))).2.1 (d8 (d8 (d8 (d8 s)))).2.2.1 (d8 (d8 (d8 (d8 s)))).2.2.2.1 (d8 (d8 (d8 (d8 s)))).2.2.2.2.1 (d8 (d8 (d8 (d8 s)))).2.2.2.2.2.1 (d8 (d8 (d8 (d8 s)))).2.2.2.2.2.2.1 (d8 (d8 (d8 (d8 s)))).2.2.2.2.2.2.2.1 (d8 (d8 (d8 (d8 (d8 s))))).1 (d8 (d8 (d8 (d8 (d8 s))))).2.1 (d8 (d8 (d8 (d8 (d8 s))))).2.2.1 (d8 (d8 (d8 (d8 (d8 s))))).2.2.2.1 (d8 (d8 (d8 (d8 (d8 s))))).2.2.2.2.1⟩
theorem EN:po Jk:=
 oE .o call152 func152 (aj VG (aj VU al)) (aj kL al) al λ_=>by kernel_rfl
def Fe:bH:=⟨104,[MA,aS,(.fn 152 [(.ptr 0 0)] []),(.fn 150 [] [J9,(.bx 225 0 false [MP])]),(.fn 153 [] [])],P9,some aci,false,true,ez,[(true,0,Ho)],λs=>vm (d8 (d8 (d8 (d8 (d8 s))))).2.2.2.2.2.1 s.1 s.2.1 s.2.2.1 s.2.2.2.1 s.2.2.2.2.1 s.2.2.2.2.2.1 s.2.2.2.2.2.2.1 s.2.2.2.2.2.2.2.1 s.2.2.2.2.2.2.2.2.1 (d8 s).2.1 (d8 s).2.2.1 (d8 s).2.2.2.1 (d8 s).2.2.2.2.1 (d8 s).2.2.2.2.2.1 (d8 s).2.2.2.2.2.2.1 (d8 s).2.2.2.2.2.2.2.1 (d8 (d8 s)).1 (d8 (d8 s)).2.1 (d8 (d8 s)).2.2.1 (d8 (d8 s)).2.2.2.1 (d8 (d8 s)).2.2.2.2.1 (d8 (d8 s)).2.2.2.2.2.1 (d8 (d8 s)).2.2.2.2.2.2.1 (d8 (d8 s)).2.2.2.2.2.2.2.1 (d8 (d8 (d8 s))).1 (d8 (d8 (d8 s))).2.1 (d8 (d8 (d8 s))).2.2.1 (d8 (d8 (d8 s))).2.2.2.1 (d8 (d8 (d8 s))).2.2.2.2.1 (d8 (d8 (d8 s))).2.2.2.2.2.1 (d8 (d8 (d8 s))).2.2.2.2.2.2.1 (d8 (d8 (d8 s))).2.2.2.2.2.2.2.1 (d8 (d8 (d8 (d8 s)))).1 (d8 (d8 (d8 (d8 s)))).2.1 (d8 (d8 (d8 (d8 s)))).2.2.1 (d8 (d8 (d8 (d8 s)))).2.2.2.1 (d8 (d8 (d8 (d8 s)))).2.2.2.2.1 (d8 (d8 (d8 (d8 s)))).2.2.2.2.2.1 (d8 (d8 (d8 (d8 s)))).2.2.2.2.2.2.1 (d8 (d8 (d8 (d8 s)))).2.2.2.2.2.2.2.1 (d8 (d8 (d8 (d8 (d8 s))))).1 (d8 (d8 (d8 (d8 (d8 s))))).2.1 (d8 (d8 (d8 (d8 (d8 s))))).2.2.1 (d8 (d8 (d8 (d8 (d8 s))))).2.2.2.1 (d8 (d8 (d8 (d8 (d8 s))))).2.2.2.2.1 (d8 (d8 (d8 (d8 (d8 s))))).2.2.2.2.2.2.1 (d8 (d8 (d8 (d8 (d8 s))))).2.2.2.2.2.2.2⟩
theorem Bs:po Fe:=
 oE (.l ⟨[(true,0,Ho),(false,11,(.own xU 277 true))],[]⟩ .o) call104 func104 (aj vG al) (aj nR (aj vN (aj EN al))) al λ_=>by kernel_rfl
def DH:bH:=⟨106,[MA,MP],P9,some aci,false,true,ez,[(true,0,Ho)],λs=>tI (d8 (d8 (d8 (d8 (d8 s))))).2.2.2.2.2 s.1 s.2.1 s.2.2.1 s.2.2.2.1 s.2.2.2.2.1 s.2.2.2.2.2.1 s.2.2.2.2.2.2.1 s.2.2.2.2.2.2.2.1 s.2.2.2.2.2.2.2.2.1 (d8 s).2.1 (d8 s).2.2.1 (d8 s).2.2.2.1 (d8 s).2.2.2.2.1 (d8 s).2.2.2.2.2.1 (d8 s).2.2.2.2.2.2.1 (d8 s).2.2.2.2.2.2.2.1 (d8 (d8 s)).1 (d8 (d8 s)).2.1 (d8 (d8 s)).2.2.1 (d8 (d8 s)).2.2.2.1 (d8 (d8 s)).2.2.2.2.1 (d8 (d8 s)).2.2.2.2.2.1 (d8 (d8 s)).2.2.2.2.2.2.1 (d8 (d8 s)).2.2.2.2.2.2.2.1 (d8 (d8 (d8 s))).1 (d8 (d8 (d8 s))).2.1 (d8 (d8 (d8 s))).2.2.1 (d8 (d8 (d8 s))).2.2.2.1 (d8 (d8 (d8 s))).2.2.2.2.1 (d8 (d8 (d8 s))).2.2.2.2.2.1 (d8 (d8 (d8 s))).2.2.2.2.2.2.1 (d8 (d8 (d8 s))).2.2.2.2.2.2.2.1 (d8 (d8 (d8 (d8 s)))).1 (d8 (d8 (d8 (d8 s)))).2.1 (d8 (d8 (d8 (d8 s)))).2.2.1 (d8 (d8 (d8 (d8 s)))).2.2.2.1 (d8 (d8 (d8 (d8 s)))).2.2.2.2.1 (d8 (d8 (d8 (d8 s)))).2.2.2.2.2.1 (d8 (d8 (d8 (d8 s)))).2.2.2.2.2.2.1 (d8 (d8 (d8 (d8 s)))).2.2.2.2.2.2.2.1 (d8 (d8 (d8 (d8 (d8 s))))).1 (d8 (d8 (d8 (d8 (d8 s))))).2.1 (d8 (d8 (d8 (d8 (d8 s))))).2.2.1 (d8 (d8 (d8 (d8 (d8 s))))).2.2.2.1 (d8 (d8 (d8 (d8 (d8 s))))).2.2.2.2.1⟩
theorem Af:po DH:=
 oE .o call106 func106 (aj RW al) (aj Bs al) al λ_=>by kernel_rfl
def yW:aq:=⟨105,[MP,aS],ez,[],U2 pn⟩
theorem we:Ko yW:=
 aw .o call105 func105 al
def JO:bH:=⟨104,[MA,aS,(.fn 103 [(.ptr 0 0)] []),(.fn 105 [] []),(.fn 106 [(.ptr 0 0)] [])],P9,some aci,false,false,ez,[(true,0,Ho)],λs=>Au (d8 (d8 (d8 (d8 (d8 s))))).2.2.2.2.2 s.1 s.2.1 s.2.2.1 s.2.2.2.1 s.2.2.2.2.1 s.2.2.2.2.2.1 s.2.2.2.2.2.2.1 s.2.2.2.2.2.2.2.1 s.2.2.2.2.2.2.2.2.1 (d8 s).2.1 (d8 s).2.2.1 (d8 s).2.2.2.1 (d8 s).2.2.2.2.1 (d8 s).2.2.2.2.2.1 (d8 s).2.2.2.2.2.2.1 (d8 s).2.2.2.2.2.2.2.1 (d8 (d8 s)).1 (d8 (d8 s)).2.1 (d8 (d8 s)).2.2.1 (d8 (d8 s)).2.2.2.1 (d8 (d8 s)).2.2.2.2.1 (d8 (d8 s)).2.2.2.2.2.1 (d8 (d8 s)).2.2.2.2.2.2.1 (d8 (d8 s)).2.2.2.2.2.2.2.1 (d8 (d8 (d8 s))).1 (d8 (d8 (d8 s))).2.1 (d8 (d8 (d8 s))).2.2.1 (d8 (d8 (d8 s))).2.2.2.1 (d8 (d8 (d8 s))).2.2.2.2.1 (d8 (d8 (d8 s))).2.2.2.2.2.1 (d8 (d8 (d8 s))).2.2.2.2.2.2.1 (d8 (d8 (d8 s))).2.2.2.2.2.2.2.1 (d8 (d8 (d8 (d8 s)))).1 (d8 (d8 (d8 (d8 s)))).2.1 (d8 (d8 (d8 (d8 s)))).2.2.1 (d8 (d8 (d8 (d8 s)))).2.2.2.1 (d8 (d8 (d8 (d8 s)))).2.2.2.2.1 (d8 (d8 (d8 (d8 s)))).2.2.2.2.2.1 (d8 (d8 (d8 (d8 s)))).2.2.2.2.2.2.1 (d8 (d8 (d8 (d8 s)))).2.2.2.2.2.2.2.1 (d8 (d8 (d8 (d8 (d8 s))))).1 (d8 (d8 (d8 (d8 (d8 s))))).2.1 (d8 (d8 (d8 (d8 (d8 s))))).2.2.1 (d8 (d8 (d8 (d8 (d8 s))))).2.2.2.1 (d8 (d8 (d8 (d8 (d8 s))))).2.2.2.2.1⟩
theorem E7:po JO:=
 oE (.l ⟨[(true,0,Ho),(false,11,(.own xU 277 true))],[]⟩ .o) call104 func104 (aj we al) (aj nR (aj Af (aj kL al))) al λ_=>by kernel_rfl
def Ja:bH:=⟨68,[MA],P9,some aci,false,false,ez,[(true,0,Ho)],λs=>yd s.1 s.2.1 s.2.2.1 s.2.2.2.1 s.2.2.2.2.1 s.2.2.2.2.2.1 s.2.2.2.2.2.2.1 s.2.2.2.2.2.2.2.1 s.2.2.2.2.2.2.2.2.1 (d8 s).2.1 (d8 s).2.2.1 (d8 s).2.2.2.1 (d8 s).2.2.2.2.1 (d8 s).2.2.2.2.2.1 (d8 s).2.2.2.2.2.2.1 (d8 s).2.2.2.2.2.2.2.1 (d8 (d8 s)).1 (d8 (d8 s)).2.1 (d8 (d8 s)).2.2.1 (d8 (d8 s)).2.2.2.1 (d8 (d8 s)).2.2.2.2.1 (d8 (d8 s)).2.2.2.2.2.1 (d8 (d8 s)).2.2.2.2.2.2.1 (d8 (d8 s)).2.2.2.2.2.2.2.1 (d8 (d8 (d8 s))).1 (d8 (d8 (d8 s))).2.1 (d8 (d8 (d8 s))).2.2.1 (d8 (d8 (d8 s))).2.2.2.1 (d8 (d8 (d8 s))).2.2.2.2.1 (d8 (d8 (d8 s))).2.2.2.2.2.1 (d8 (d8 (d8 s))).2.2.2.2.2.2.1 (d8 (d8 (d8 s))).2.2.2.2.2.2.2.1 (d8 (d8 (d8 (d8 s)))).1 (d8 (d8 (d8 (d8 s)))).2.1 (d8 (d8 (d8 (d8 s)))).2.2.1 (d8 (d8 (d8 (d8 s)))).2.2.2.1 (d8 (d8 (d8 (d8 s)))).2.2.2.2.1 (d8 (d8 (d8 (d8 s)))).2.2.2.2.2.1 (d8 (d8 (d8 (d8 s)))).2.2.2.2.2.2.1 (d8 (d8 (d8 (d8 s)))).2.2.2.2.2.2.2.1 (d8 (d8 (d8 (d8 (d8 s))))).1 (d8 (d8 (d8 (d8 (d8 s))))).2.1 (d8 (d8 (d8 (d8 (d8 s))))).2.2.1 (d8 (d8 (d8 (d8 (d8 s))))).2.2.2.1 (d8 (d8 (d8 (d8 (d8 s))))).2.2.2.2⟩
theorem E3:po Ja:=
 oE (.r [] (.l ⟨[(true,0,Ho),(false,14,an)],[]⟩ .o)) call68 func68 (aj WT al) (aj kL (aj E7 al)) al λ_=>by kernel_rfl
def adt:aq:=⟨46,[xJ,La,wu],(.cC [.bool,V9,an,aS]),[],U3 Xc⟩
theorem alk:(⟨67,Tryz.f67⟩:jH).Ok X0.P:=⟨call67,func67⟩
theorem VV:Ko adt:=
 aX (.c (.r [6,7,8,9] .o) .o) call46 func46 (aj PN (aj vL al)) (aj E3 al) (aj alk al) λ_=>by kernel_rfl
def YH:aq:=⟨71,[aS],aS,[],λs=>OL s⟩
theorem Ql:Ko YH:=
 aw .o call71 func71 al
def Il:aq:=⟨72,[wv,(.fn 71 [] [])],ia,[],λs=>n8 s⟩
theorem Ck:Ko Il:=
 aw (.l ⟨[(false,5,ia),(false,10,an)],[]⟩ .o) call72 func72 (aj Ql al)
def agF:aq:=⟨48,[V9],V9,[],λs=>abM s⟩
theorem Zm:Ko agF:=
 aw (.r [2] .o) call48 func48 (aj Ck al)
def Ct:aq:=⟨113,[(.sli pE)],ia,[],λs=>lE s⟩
theorem mL:Ko Ct:=
 aw (.l ⟨[(false,3,an),(false,11,an)],[]⟩ (.c .o (.l ⟨[(false,6,ia),(false,27,an)],[]⟩ .o))) call113 func113 (aj ahQ al)
def UX:aq:=⟨115,[aS,agC],.bool,[],U6 L0⟩
theorem MV:Ko UX:=
 aw .o call115 func115 (aj eX al)
def FN:aq:=⟨114,[wv,(.fn 115 [] [agC])],dO,[],U6 vg⟩
theorem Bd:Ko FN:=
 aw (.l ⟨[(false,5,dO),(false,10,an)],[]⟩ .o) call114 func114 (aj MV al)
def MY:aq:=⟨120,[aS,J9],.bool,[],U2 CL⟩
theorem Hg:Ko MY:=
 aw .o call120 func120 (aj iU al)
def xD:aq:=⟨158,[wv,(.fn 120 [] [J9])],an,[],U2 oa⟩
theorem uZ:Ko xD:=
 aw (.l ⟨[(false,8,an)],[]⟩ .o) call158 func158 (aj Hg al)
def u4:aq:=⟨119,[wv,(.fn 120 [] [J9])],.bool,[],U2 lK⟩
theorem rK:Ko u4:=
 aw .o call119 func119 (aj uZ al)
def WS:aq:=⟨118,[aS,aS,agC],.bool,[],U7 Lj⟩
theorem NR:Ko WS:=
 aw .o call118 func118 (aj vQ (aj rK al))
def PV:aq:=⟨117,[wv,(.fn 118 [] [agC])],.bool,[],U6 Gc⟩
theorem Jd:Ko PV:=
 aw (.l ⟨[(false,5,an)],[]⟩ (.c (.r [1] .o) .o)) call117 func117 (aj NR al)
def ac6:aq:=⟨73,[xJ,V9],.bool,[],U2 K5⟩
theorem Vj:Ko ac6:=
 aw (.c .o (.r [] (.r [6] .o))) call73 func73 (aj mL (aj Bd (aj fY (aj iU (aj Jd al)))))
def abq:aq:=⟨75,[V9],(.dat (.p pE bd) [some 47]),[],λs=>H5 s⟩
theorem UQ:Ko abq:=
 aw (.r [2] .o) call75 func75 (aj mL al)
def ahR:aq:=⟨159,[fG],.bool,[],λs=>Wi s⟩
def LD(a:Ex->Ex)(g:Sh->(R:Type)->Option R->Option R)(e:Ex):vb:= (km (a e)).bind λd=> ai (d.2.1==0) λf=> ai (d.1==2) λc=> ai (f&&c) λb=> some b
theorem abn:Ko ahR:=
 aX .o call159 func159 (aj pg al) al al λs=>(show _=LD bk aM s from by kernel_rfl).trans ((congrArg (λa=>LD a aM s) aJ).trans ((congrArg (λb=>LD id b s) aN).trans (by kernel_rfl)))
def acQ:aq:=⟨161,[an,VA,Md],.bool,[],U7 R6⟩
theorem UM:Ko acQ:=
 aw .o call161 func161 (aj o9 al)
def afO:aq:=⟨160,[an,(.fn 161 [] [VA,Md])],dO,[],U7 PB⟩
theorem Zc:Ko afO:=
 aw (.l ⟨[(true,5,dO),(false,11,an)],[]⟩ .o) call160 func160 (aj UM al)
def ZZ:aq:=⟨165,[an,jc],.bool,[],U2 R3⟩
theorem SZ:Ko ZZ:=
 aw .o call165 func165 al
def Za:aq:=⟨160,[an,(.fn 165 [] [jc])],dO,[],U2 N6⟩
theorem Pf:Ko Za:=
 aw (.l ⟨[(true,5,dO),(false,11,an)],[]⟩ .o) call160 func160 (aj SZ al)
def aaU:aq:=⟨166,[an,jc,jc],.bool,[],U3 Sd⟩
theorem Sq:Ko aaU:=
 aw .o call166 func166 al
def Zk:aq:=⟨160,[an,(.fn 166 [] [jc,jc])],dO,[],U3 OB⟩
theorem PK:Ko Zk:=
 aw (.l ⟨[(true,5,dO),(false,11,an)],[]⟩ .o) call160 func160 (aj Sq al)
def acR:aq:=⟨167,[an,jc,jc],.bool,[],U3 UD⟩
theorem SA:Ko acR:=
 aw .o call167 func167 al
def Yu:aq:=⟨160,[an,(.fn 167 [] [jc,jc])],dO,[],U3 O4⟩
theorem PZ:Ko Yu:=
 aw (.l ⟨[(true,5,dO),(false,11,an)],[]⟩ .o) call160 func160 (aj SA al)
def ZQ:aq:=⟨168,[an,jc,jc],.bool,[],U3 Uu⟩
theorem SE:Ko ZQ:=
 aw .o call168 func168 al
def YV:aq:=⟨160,[an,(.fn 168 [] [jc,jc])],dO,[],U3 N7⟩
theorem Ps:Ko YV:=
 aw (.l ⟨[(true,5,dO),(false,11,an)],[]⟩ .o) call160 func160 (aj SE al)
def abB:aq:=⟨169,[an,jc,jc],.bool,[],U3 RZ⟩
theorem UC:Ko abB:=
 aw .o call169 func169 al
def Y8:aq:=⟨160,[an,(.fn 169 [] [jc,jc])],dO,[],U3 Og⟩
theorem PY:Ko Y8:=
 aw (.l ⟨[(true,5,dO),(false,11,an)],[]⟩ .o) call160 func160 (aj UC al)
def afN:aq:=⟨171,[LW,an],an,[],U2 HH⟩
theorem xS:Ko afN:=
 aw .o call171 func171 al
def aae:aq:=⟨170,[an,jc,Md],.bool,[],U4 Rt⟩
theorem SS:Ko aae:=
 aw .o call170 func170 (aj xS al)
def YB:aq:=⟨160,[an,(.fn 170 [] [jc,Md])],dO,[],U4 OI⟩
theorem P0:Ko YB:=
 aw (.l ⟨[(true,5,dO),(false,11,an)],[]⟩ .o) call160 func160 (aj SS al)
def SH:aq:=⟨164,[an,MS],.bool,[],U2 IF⟩
theorem Kh:Ko SH:=
 aw .o call164 func164 al
def Y7:aq:=⟨160,[an,(.fn 164 [] [MS])],dO,[],U2 Ow⟩
theorem Rc:Ko Y7:=
 aw (.l ⟨[(true,5,dO),(false,11,an)],[]⟩ .o) call160 func160 (aj Kh al)
def aby:aq:=⟨163,[.bool,(.bx 3 0 false [an])],dO,[],U2 Im⟩
theorem S1:Ko aby:=
 aw .o call163 func163 (aj Rc al)
def Vz:aq:=⟨210,[an,MS],.bool,[],U2 Kd⟩
theorem NA:Ko Vz:=
 aw .o call210 func210 al
def YK:aq:=⟨160,[an,(.fn 210 [] [MS])],dO,[],U2 DG⟩
theorem Bj:Ko YK:=
 aw (.l ⟨[(true,5,dO),(false,11,an)],[]⟩ .o) call160 func160 (aj NA al)
def NT:aq:=⟨200,[an,(.own .bo 4 false),Lo,Lo,Md],.bool,[],U6 CJ⟩
theorem HX:Ko NT:=
 aw .o call200 func200 (aj xS al)
def VC:aq:=⟨211,[an,(.bx 321 0 false [afF]),jc],.bool,[],λs=>K6 s.1 s.2.2.2.2.2 s.2.1 s.2.2.1 s.2.2.2.1 s.2.2.2.2.1⟩
theorem NP:Ko VC:=
 aw .o call211 func211 (aj HX al)
def Wf:aq:=⟨160,[an,(.fn 211 [] [(.bx 321 0 false [afF]),jc])],dO,[],λs=>L9 s.1 s.2.2.2.2.2 s.2.1 s.2.2.1 s.2.2.2.1 s.2.2.2.2.1⟩
theorem M4:Ko Wf:=
 aw (.l ⟨[(true,5,dO),(false,11,an)],[]⟩ .o) call160 func160 (aj NP al)
def uf:aq:=⟨212,[(.own .bo 4 false),(.own .bo 4 false)],.bool,[],U2 gM⟩
theorem jf:Ko uf:=
 aw (.c .o (.l ⟨[(false,13,an)],[]⟩ .o)) call212 func212 al
def adP:aq:=⟨199,[LW,.bool,afF],dO,[],U6 XV⟩
theorem WJ:Ko adP:=
 aw (.n 0 (.j ⟨[(true,7,(.bx 287 0 true [dO]))],[]⟩ .o .o)) call199 func199 (aj Bj (aj M4 (aj jf al)))
def adv:aq:=⟨172,[LW,(.sli .bo),(.sli .bo)],dO,[],U3 Ki⟩
theorem Wm:Ko adv:=
 aw .o call172 func172 (aj WJ al)
def Jy:aq:=⟨201,[an,(.own .bo 4 false),Lo,Lo,Md],.bool,[],U6 yj⟩
theorem D8:Ko Jy:=
 aw .o call201 func201 (aj xS al)
def Nh:aq:=⟨211,[an,(.bx 321 0 false [agx]),jc],.bool,[],λs=>Du s.1 s.2.2.2.2.2 s.2.1 s.2.2.1 s.2.2.2.1 s.2.2.2.2.1⟩
theorem Io:Ko Nh:=
 aw .o call211 func211 (aj D8 al)
def Wy:aq:=⟨160,[an,(.fn 211 [] [(.bx 321 0 false [agx]),jc])],dO,[],λs=>Kz s.1 s.2.2.2.2.2 s.2.1 s.2.2.1 s.2.2.2.1 s.2.2.2.2.1⟩
theorem Nf:Ko Wy:=
 aw (.l ⟨[(true,5,dO),(false,11,an)],[]⟩ .o) call160 func160 (aj Io al)
def Vf:aq:=⟨199,[LW,.bool,agx],dO,[],U6 KU⟩
theorem NN:Ko Vf:=
 aw (.n 0 (.j ⟨[(true,7,(.bx 287 0 true [dO]))],[]⟩ .o .o)) call199 func199 (aj Bj (aj Nf (aj jf al)))
def YA:aq:=⟨173,[LW,(.sli .bo),(.sli .bo)],dO,[],U3 Ef⟩
theorem Qc:Ko YA:=
 aw .o call173 func173 (aj NN al)
def W5:aq:=⟨121,[fG,LW],dO,[],U2 WV⟩
def Ew(b:Ex->Ex)(o:Sh->(R:Type)->Option R->Option R)(m:(Ex×gQ)->Option aU)(e:Ex)(c:gQ):Option aU:= (Wi (b e)).bind λj=> bif j then ( (PB (c.1.length:Int) e.op e.n e.at_ e.l c.1 c.2).bind λi=> some i) else ( (idx e.l 0).bind λk=> (m ((b k),c)).bind λh=> ai (λ(d:aU)=>Rr e c h d) λa=> bif decide (1<(List.length e.l:Int)) then (idx e.l 1).bind λg=> (m ((b g),c)).bind λf=> a f else a [])
def Xu:aca->aca:=λa s=>XC a s.1 s.2
theorem Vd(a:aca)(b:ap8 a):(Ae (Xu a)).Ok X0.P X0.Γ:=
 aX (.c .o (.r [40000] (.s (.j ⟨[(true,7,(.bx 287 0 true [dO]))],[]⟩ (.c (.r [7] .o) .o) (.c .o (.c .o (.c .o (.c .o (.c .o (.c .o (.c (.r [6,8] .o) (.c (.r [6,8] .o) .o)))))))))))) call121 func121 (aj abn (aj Zc (aj b (aj Pf (aj PK (aj PZ (aj Ps (aj PY (aj P0 (aj S1 (aj Wm (aj Qc al)))))))))))) al al λs=>(show _=Ew bk aM a s.1 s.2 from by kernel_rfl).trans ((congrArg (λd=>Ew d aM a s.1 s.2) aJ).trans ((congrArg (λe=>Ew id e a s.1 s.2) aN).trans (by kernel_rfl)))
theorem ab9:Ko W5:=(show W5=Ae (az (Xu) aB) by kernel_rfl)▸dL (X:=X0) (E:=Ae) ⟨call121,λ_ _ h=>nomatch h⟩ (Vd) aB
def adk:aq:=⟨74,[fG,LW],.bool,[],U2 Kq⟩
def DY(a:Ex->Ex)(f:Sh->(R:Type)->Option R->Option R)(e:Ex)(c:gQ):vb:= (WV (a e) c).bind λd=> (idx d 0).bind λb=> some b
theorem Wk:Ko adk:=
 aX .o call74 func74 (aj ab9 al) al al λs=>(show _=DY bk aM s.1 s.2 from by kernel_rfl).trans ((congrArg (λa=>DY a aM s.1 s.2) aJ).trans ((congrArg (λb=>DY id b s.1 s.2) aN).trans (by kernel_rfl)))
def Y5:aq:=⟨49,[xJ,fG,V9],.bool,[],U3 OS⟩
def xH(d:Ex->Ex)(h:Sh->(R:Type)->Option R->Option R)(m:sJ)(e:Ex)(l:tW):vb:= (K5 m l).bind λa=> bD a default (H5 l) λc=> bD a default (Kq (d e) c) λb=> ai (!b) λg=> ai (a&&g) λf=> some f
theorem Qi:Ko Y5:=
 aX .o call49 func49 (aj Vj (aj UQ (aj Wk al))) al al λs=>(show _=xH bk aM s.1 s.2.1 s.2.2 from by kernel_rfl).trans ((congrArg (λa=>xH a aM s.1 s.2.1 s.2.2) aJ).trans ((congrArg (λb=>xH id b s.1 s.2.1 s.2.2) aN).trans (by kernel_rfl)))
def Jo:aq:=⟨37,[agt],.bool,[(true,0,(.bx 81 0 true [.same,.same,.same,.same,.same,.same,.same,.same,.same,.same,.same,.same,.same,.same,.same,.same,.same,an,an,an,aS,wv,wv]))],λs=>yw s.1 s.2.1 s.2.2.1 s.2.2.2.1 s.2.2.2.2.1 s.2.2.2.2.2.1 s.2.2.2.2.2.2.1 s.2.2.2.2.2.2.2.1 s.2.2.2.2.2.2.2.2.1 (d8 s).2.1 (d8 s).2.2.1 (d8 s).2.2.2.1 (d8 s).2.2.2.2.1 (d8 s).2.2.2.2.2.1 (d8 s).2.2.2.2.2.2.1 (d8 s).2.2.2.2.2.2.2.1 (d8 (d8 s)).1 (d8 (d8 s)).2.1 (d8 (d8 s)).2.2.1 (d8 (d8 s)).2.2.2.1 (d8 (d8 s)).2.2.2.2.1 (d8 (d8 s)).2.2.2.2.2.1 (d8 (d8 s)).2.2.2.2.2.2⟩
theorem D9:Ko Jo:=
 aw (.r [40000] (.c .o (.r [40000] .o))) call37 func37 (aj Iw (aj VV (aj hU (aj Zm (aj Qi al)))))
def Zj:aq:=⟨27,[.str,.str,wu],(.dat Qj [none,none,none]),[],U3 O5⟩
theorem alL:(⟨33,Tryz.f33⟩:jH).Ok X0.P:=⟨call33,func33⟩
theorem Rd:Ko Zj:=
 aX (.n 50 .o) call27 func27 (aj HS (aj Ei (aj AK (aj D9 al)))) al (aj alL al) λ_=>by kernel_rfl
def ad5:aq:=⟨11,[(.dat Qj [none,none,none])],.str,[],λs=>JF s⟩
theorem FU:Ko ad5:=
 aw (.s (.s (.j ⟨[(true,3,Ec)],[]⟩ .o (.l ⟨[(true,3,Ec),(false,35,an)],[]⟩ (.c .o (.l ⟨[(true,3,Ec),(false,47,an)],[]⟩ (.c .o (.j ⟨[(true,3,Ec)],[1]⟩ .o .o)))))))) call11 func11 (aj IM (aj jl (aj lM al)))
def ahz:aq:=⟨16,[.str],.str,[],λs=>QF s⟩
theorem Yx:Ko ahz:=
 aw .o call16 func16 (aj alm (aj pR (aj IM (aj Rd (aj FU al)))))
def sS:aq:=⟨7,[],.bool,[],λ_=>jB⟩
theorem Ay:Ko sS:=
 aw .o call7 func7 (aj Yx (aj pR (aj FU al)))
def rm:aq:=⟨25,[ml],.str,[],λs=>iW s⟩
def rf:aaF->aaF:=λa s=>dv a s
theorem wJ(a:aaF)(b:ap3 a):(gD (rf a)).Ok X0.P X0.Γ:=
 aw .o call25 func25 (aj b al)
theorem y9:Ko rm:=(show rm=gD (az (rf) aB) by kernel_rfl)▸dL (X:=X0) (E:=gD) ⟨call25,λ_ _ h=>nomatch h⟩ (wJ) aB
def vw:aq:=⟨13,[an],.str,[],λs=>dX s⟩
theorem Ez:Ko vw:=
 aw .o call13 func13 (aj y9 al)
end
end Go.Proofs.YtkedhpmpejhekaaGreatDoor
