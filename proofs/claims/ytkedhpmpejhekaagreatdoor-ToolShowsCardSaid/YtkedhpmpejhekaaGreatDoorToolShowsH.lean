/- Own texts for ToolShows, cut and joined by a program. -/
import Derived.Test.YtkedhpmpejhekaaGreatDoorToolShowsG
set_option linter.all false
namespace Go.Proofs.YtkedhpmpejhekaaGreatDoor
open IntKind (i32 i64)
open Go.Proofs
noncomputable section
set_option maxRecDepth 100000
abbrev UI:Ty:=(.p (.i .i64) (.p (.l (.p (.i .i64) (.i .i64))) (.p (.i .i64) (.p (.p (.p (.i .i64) (.p (.l (.l (.i .u8))) (.l (.i .i64)))) (.l (.i .u8))) (.p (.p (.l (.p (.i .i64) (.p (.l (.l (.i .u8))) (.l (.i .i64))))) (.p (.p (.i .i64) (.p (.l (.l (.i .u8))) (.l (.i .i64)))) (.l (.i .u8)))) (.p (.p (.l (.p (.i .i64) (.p (.l (.l (.i .u8))) (.l (.i .i64))))) (.l (.i .u8))) (.p (.p (.p (.i .i64) (.p (.l (.p (.l (.p (.i .u8) (.i .i64))) (.i .i64))) (.p (.i .i64) (.p (.i .i64) (.l (.i .i64)))))) (.p (.p (.i .i64) (.p (.l (.p (.l (.p (.i .u8) (.i .i64))) (.i .i64))) (.p (.i .i64) (.p (.i .i64) (.l (.i .i64)))))) (.p (.i .i64) (.p (.l (.p (.l (.p (.i .u8) (.i .i64))) (.i .i64))) (.p (.i .i64) (.p (.i .i64) (.l (.i .i64)))))))) (.p (.i .i64) (.p (.i .i64) (.p (.i .u64) (.p (.l (.i .u8)) (.p (.l (.i .u8)) (.l (.i .u8))))))))))))))
abbrev aY:Ty:=(.i .i64)
abbrev an:Pt:=(.int .i64)
abbrev QL4:List Pt:=(.same:: .same:: .same:: .same:: .same:: .same:: .same:: .same:: .same::an::(.sli (.p aY aY))::an::an::(.sli (.l (.i .u8)))::(.sli aY)::(.sli (.i .u8))::(.sli (.p aY (.p (.l (.l (.i .u8))) (.l aY))))::an::(.sli (.l (.i .u8)))::(.sli aY)::(.sli (.i .u8))::(.sli (.p aY (.p (.l (.l (.i .u8))) (.l aY))))::(.sli (.i .u8))::an::(.sli (.p (.l (.p (.i .u8) aY)) aY))::an::an::(.sli aY)::an::(.sli (.p (.l (.p (.i .u8) aY)) aY))::an::an::(.sli aY)::an::(.sli (.p (.l (.p (.i .u8) aY)) aY))::an::an::(.sli aY)::an::an::(.int .u64)::(.sli (.i .u8))::(.sli (.i .u8))::(.sli (.i .u8)):: .same::[])
abbrev kY:Pt:=(.dat UI [none,none,none,none,none,none,none,none,none,none,none,none,none,none,none,none,none,none,none])
abbrev QL6:List Pt:=((.sli .s)::(.sli (.p aY aY))::(.sli aY)::(.sli .s)::(.sli (.p aY (.p .ex (.l (.p aY .ex)))))::(.sli (.l .ex))::(.sli (.l aY))::(.sli aY)::(.sli (.l aY))::an::(.sli (.p aY aY))::an::an::(.sli (.l (.i .u8)))::(.sli aY)::(.sli (.i .u8))::(.sli (.p aY (.p (.l (.l (.i .u8))) (.l aY))))::an::(.sli (.l (.i .u8)))::(.sli aY)::(.sli (.i .u8))::(.sli (.p aY (.p (.l (.l (.i .u8))) (.l aY))))::(.sli (.i .u8))::an::(.sli (.p (.l (.p (.i .u8) aY)) aY))::an::an::(.sli aY)::an::(.sli (.p (.l (.p (.i .u8) aY)) aY))::an::an::(.sli aY)::an::(.sli (.p (.l (.p (.i .u8) aY)) aY))::an::an::(.sli aY)::an::an::(.int .u64)::(.sli (.i .u8))::(.sli (.i .u8))::(.sli (.i .u8))::an::[])
abbrev eP:Ty:=(.p aY (.p (.l (.l (.i .u8))) (.l aY)))
abbrev cD:Pt:=(.bx 196 0 true [.same,an,.same,an,an,an])
abbrev iC:Pt:=(.bx 196 0 true [(.own (.p aY (.p .s (.p aY aY))) 142 false),an,(.own .s 9 false),an,an,an])
abbrev aP:Ty:=(.i .u8)
abbrev eN:Pt:=(.bx 196 0 true [(.sli (.p aY (.p .s (.p aY aY)))),an,(.sli .s),an,an,an])
abbrev Mx:Ty:=(.p (.l .s) (.p (.l (.p aY aY)) (.p (.l aY) (.p (.l .s) (.l (.p aY (.p .ex (.l (.p aY .ex)))))))))
abbrev aht:Ty:=(.p aP (.p aP (.p aP (.p aP (.p aP (.p aP (.p aP (.p aP (.p aP (.p aP (.p aP (.p aP (.p aP (.p aP (.p aP (.p aP (.p aP (.p aP (.p aP (.p aP (.p aP (.p aP (.p aP (.p aP (.p aP (.p aP (.p aP (.p aP (.p aP (.p aP (.p aP (.p aP (.p aP (.p aP (.p aP (.p aP (.p aP (.p aP (.p aP (.p aP (.p aP (.p aP (.p aP (.p aP (.p aP (.p aP (.p aP (.p aP (.p aP (.p aP (.p aP (.p aP (.p aP (.p aP (.p aP (.p aP (.p aP (.p aP (.p aP (.p aP (.p aP (.p aP (.p aP aP)))))))))))))))))))))))))))))))))))))))))))))))))))))))))))))))
abbrev EL:Ty:=(.p aY (.p aY (.p (.i .u64) (.p (.l aP) (.p (.l aP) (.l aP))))))
abbrev bG:Pt:=(.dat .ex [some 159])
abbrev dE:Ty:=(.p aY aY)
abbrev kU:Ty:=(.p (.l (.p aP aY)) aY)
abbrev lx:Ty:=(.l (.l aY))
abbrev sM:Ty:=(.p aY (.p .ex (.l (.p aY .ex))))
abbrev aS:Pt:=(.sli aY)
abbrev gR:Pt:=(.own (.l aY) 23 true)
abbrev ji:Pt:=(.bx 287 0 false [(.own .bo 4 false)])
abbrev RX:Ty:=(.p (.l (.l .ex)) (.p lx (.p (.l aY) lx)))
abbrev wy:Ty:=(.p aY (.p (.l kU) (.p aY (.p aY (.l aY)))))
abbrev Xm:Ty:=(.p aY (.p aY (.p aY (.p (.i .u64) dE))))
abbrev fp:Pt:=(.own aY 3 true)
abbrev amg:Ty:=(.p aP (.p aP (.p aP (.p aP (.p aP (.p aP (.p aP (.p aP (.p aP (.p aP (.p aP (.p aP (.p aP (.p aP (.p aP (.p aP (.p aP (.p aP (.p aP (.p aP (.p aP (.p aP (.p aP aP)))))))))))))))))))))))
abbrev abK:Pt:=(.bx 138 0 true [(.own (.p aY (.p .s dE)) 142 false),an,(.own .s 9 false),(.own dE 156 false),(.own aY 3 false),(.own .s 9 false),(.own sM 299 false)])
abbrev nE:Ty:=(.p aY (.p .s dE))
abbrev gr:Pt:=(.own aP 5 true)
abbrev tL:Ty:=(.p (.i .u64) (.i .u64))
abbrev ahE:Pt:=(.bx 81 0 true [.str,.str,an,an,an,(.int .u64),an,an,(.sli .s),(.sli dE),aS,(.sli .s),(.sli sM),an,an,an,(.sli .ex),an,an,an,aS,gR,gR])
abbrev XI:Ty:=(.p aY (.p aY (.p aY (.p (.l aY) (.p lx lx)))))
abbrev agU:Pt:=(.bx 81 0 true [.same,.same,.same,.same,.same,.same,.same,.same,.same,.same,.same,.same,.same,.same,.same,.same,.same,an,an,an,aS,gR,gR])
abbrev dT:Pt:=(.own .bo 4 true)
abbrev agB:Pt:=(.bx 138 0 false [(.own nE 142 false),an,(.own .s 9 false),(.own dE 156 false),(.own aY 3 false),(.own .s 9 false),(.own sM 299 false)])
abbrev LP:Pt:=(.dat (.p (.l eP) (.p eP (.l aP))) [none,none,none,none])
abbrev yh:Pt:=(.dat Mx [none,none,none,none,none])
abbrev Mj:Pt:=(.bx 176 0 false [(.sli (.l aY)),an])
abbrev dm:Pt:=(.sli aP)
abbrev fF:Pt:=(.dat .ex [none])
abbrev Kr:Pt:=(.bx 287 0 false [(.sli .bo)])
abbrev RV:Pt:=(.bx 138 0 true [.same,an,.same,.same,.same,.same,.same])
abbrev Wd:Ty:=(.p aP (.p aP (.p aP (.p aP (.p aP (.p aP (.p aP aP)))))))
abbrev gH:Ty:=(.l aP)
abbrev tO:Pt:=(.dat EL [none,none,none])
abbrev L4:Pt:=(.bx 79 0 true [an,an,an,(.own .ex 79 true)])
abbrev Hi:Pt:=(.bx 79 0 true [.same,.same,.same,.same])
abbrev adC:Pt:=(.bx 457 0 true [.same,(.own kU 352 true),.same,.same,fp,.same])
abbrev apS:Ty:=(.p (.i .u64) (.p (.i .u64) (.p (.i .u64) (.p (.i .u64) (.p (.i .u64) (.p (.i .u64) (.p (.i .u64) (.p (.i .u64) (.p (.i .u64) (.p (.i .u64) (.p (.i .u64) (.p (.i .u64) (.p (.i .u64) (.p (.i .u64) (.p (.i .u64) (.p (.i .u64) (.p (.i .u64) (.p (.i .u64) tL))))))))))))))))))
abbrev EE:Pt:=(.ifc 470 (.bx 468 0 true [fp]))
abbrev apJ:Pt:=(.bx 113 0 true [an,(.sli dE),an,an,(.sli gH),aS,dm,(.sli eP),an,(.sli gH),aS,dm,(.sli eP),dm,an,(.sli kU),an,an,aS,an,(.sli kU),an,an,aS,an,(.sli kU),an,an,aS,an,an,(.int .u64),dm,dm,dm])
abbrev Hj:Pt:=(.bx 234 0 true [(.own .ex 79 true)])
abbrev Mf:Pt:=(.bx 236 0 true [(.own tL 239 true)])
abbrev Lt:Pt:=(.dat (.p (.l eP) gH) [none,none])
abbrev yi:Ty:=(.p (.l aY) lx)
abbrev LU:Pt:=(.dat RX [none,none,none,none])
abbrev Fy:Pt:=(.ifc 134 (.agg [an,an]))
abbrev Fa:Pt:=(.bx 56 0 true [.sfp,gr])
abbrev gE:Pt:=(.sli dE)
abbrev RR:Pt:=(.dat (.p eP gH) [none,none,none])
abbrev xO:Pt:=(.sli (.l aY))
abbrev V0:Pt:=(.bx 122 0 true [.same,.same,.same,.same])
abbrev W4:Pt:=(.bx 79 0 false [an,an,an,(.sli .ex)])
abbrev sG:Pt:=(.own .s 9 true)
abbrev ap1:Ty:=(.p .s (.p .s (.p .s (.p .s (.p .s (.p .s (.p .s (.p .s (.p .s (.p .s (.p .s (.p .s (.p .s (.p .s (.p .s (.p .s (.p .s (.p .s (.p .s (.p .s (.p .s (.p .s (.p .s (.p .s .s))))))))))))))))))))))))
abbrev j2:Ty:=(.p aP aY)
abbrev ahX:Pt:=(.bx 433 0 true [(.own eP 349 true),(.fn 319 [(.ptr 0 0)] [])])
abbrev agP:Pt:=(.bx 101 0 true [(.own eP 96 true),.same,.same,.same,.same])
abbrev QL:Pt:=(.dat (.p lx lx) [none,none])
abbrev agq:Pt:=(.bx 76 0 false [(.sli .s),gE,aS,(.sli .s),(.sli sM)])
abbrev ez:Pt:=(.cG [])
abbrev lM:Pt:=(.dat .un [])
abbrev Fs:Pt:=(.dat eP [none,none])
abbrev mK:Pt:=(.int .u64)
abbrev V1:Pt:=(.fn 379 [] [(.bx 4 0 true [.bool])])
abbrev amG:Pt:=(.bx 457 0 true [.same,(.own kU 352 true),.same,.same,fp,(.mp aY .bo true)])
abbrev Kf:Pt:=(.dat (.p lx aY) [none])
abbrev Bo:Pt:=(.bx 3 0 true [an])
abbrev agR:Pt:=(.bx 433 0 false [(.sli eP),(.fn 323 [(.ptr 0 0)] [])])
abbrev amD:Pt:=(.bx 457 0 true [an,(.own kU 352 true),an,an,fp,(.mp aY .bo false)])
abbrev al5:Pt:=(.bx 457 0 true [an,(.own kU 352 true),an,an,fp,(.mp aY .bo true)])
abbrev adJ:Pt:=(.bx 270 0 true [gR,(.mp .s .bo true)])
abbrev BC:Pt:=(.cG [an,.bool])
abbrev iz:Pt:=(.int .u8)
abbrev Rs:Pt:=(.ifc 164 (.agg [an,aS]))
abbrev ahy:Ty:=(.p (.i .u32) (.p (.i .u32) (.p aP (.p aP .bo))))
abbrev agV:Pt:=(.bx 101 0 true [.same,.same,.same,.same,.same])
abbrev ain:Ty:=(.p (.l nE) (.p aY (.p (.l .s) (.p aY dE))))
abbrev ahA:Ty:=(.p .s (.p .s (.p Xm (.p Mx (.p .ex XI)))))
abbrev Eh:Pt:=(.cG [.bool,an])
abbrev KT:Pt:=(.bx 23 0 false [aS])
abbrev AU:Pt:=(.own .s 9 false)
abbrev ahQ:Pt:=(.bx 98 0 false [an,(.sli gH),aS,dm])
abbrev Qv:Pt:=(.own sM 299 true)
abbrev IE:Pt:=(.bx 169 0 true QL4)
abbrev sD:Ty:=(.p gH aY)
abbrev ahj:Pt:=(.bx 433 0 true [(.own eP 349 true),.same])
abbrev nG:Pt:=(.int .u32)
abbrev H7:Pt:=(.own dE 156 true)
abbrev Na:Ty:=(.p .s (.p .s (.p .s .s)))
abbrev IS:Pt:=(.bx 31 0 true [mK])
abbrev y8:Pt:=(.cG [kY,an])
abbrev VB:Pt:=(.ifc 166 (.agg [xO,xO]))
abbrev aav:Pt:=(.bx 282 0 true [(.mp tL .bo true)])
abbrev Hr:Pt:=(.own nE 142 false)
abbrev aat:Pt:=(.bx 237 0 true [(.mp tL aY true)])
abbrev Ni:Pt:=(.cG [kY,.bool,an])
abbrev Ns:Pt:=(.bx 4 0 false [.bool])
abbrev Vl:Ty:=(.p (.l eP) (.p eP gH))
abbrev wL:Pt:=(.dat Xm [])
abbrev rR:Ty:=(.p aY .ex)
abbrev agw:Pt:=(.dat RX [some 155,some 47,some 7,some 47])
abbrev Nc:Pt:=(.own dE 156 false)
abbrev MN:Pt:=(.own yi 277 false)
abbrev aae:Ty:=(.p Mx (.p RX (.p UI aY)))
abbrev Hv:Pt:=(.own aY 3 false)
abbrev ah7:Pt:=(.bx 98 0 true [an,(.sli gH),aS,dm])
abbrev aar:Ty:=(.p aY (.p aY (.p .bo aP)))
abbrev anj:Ty:=(.p aP (.p aP (.p aP (.p aP (.p aP (.p aP (.p aP (.p aP amg))))))))
abbrev UX:Pt:=(.dat wy [none,none])
abbrev MW:Pt:=(.bx 169 0 true QL6)
abbrev amZ:Pt:=(.bx 283 0 true [(.fn 156 [] [(.ptr 0 0),(.ptr 2 0),(.ptr 4 0),(.ptr 7 0)])])
abbrev ahd:Pt:=(.bx 217 0 true [gR,(.mp .s .bo true)])
abbrev aai:Ty:=(.p (.l nE) (.p aY Mx))
abbrev aas:Pt:=(.bx 395 0 true [gr,an])
abbrev DI:Ty:=(.p lx lx)
abbrev Nv:Pt:=(.sli (.i .u32))
abbrev aap:Pt:=(.bx 261 0 true [.same])
abbrev anB:Pt:=(.bx 138 0 true [.same,an,.same,.same,.same,.same,Qv])
abbrev ans:Pt:=(.bx 196 0 false [(.sli nE),an,(.sli .s),an,an,an])
abbrev am5:Pt:=(.bx 122 0 true [(.own (.l .ex) 77 true),gR,.same,.same])
abbrev aao:Pt:=(.bx 468 0 true [fp])
abbrev R7:Ty:=(.p (.l eP) gH)
abbrev DJ:Pt:=(.ifc 3 an)
abbrev ank:Pt:=(.bx 138 0 true [.same,an,sG,H7,fp,sG,Qv])
abbrev MZ:Pt:=(.fn 227 [] [])
abbrev MY:Pt:=(.fn 221 [] [])
abbrev Nq:Pt:=(.fn 219 [] [])
abbrev Np:Pt:=(.fn 184 [] [])
abbrev aad:Pt:=(.bx 23 0 true [aS])
abbrev aag:Pt:=(.bx 4 0 true [.bool])
abbrev ahg:Pt:=(.fn 200 [] [Kr,Kr,Mj])
abbrev ahY:Pt:=(.fn 201 [] [Kr,Kr,Mj])
abbrev ahI:Pt:=(.dat XI [none,none,none])
open Tryz
theorem ajX:ala Tryz.prog 38:=λv w=>by rw [run_callFunc_extern func38 (by kernel_rfl) (by kernel_rfl) (by kernel_rfl) (e:=Extern.AbiNoEscape.same) (by kernel_rfl)];rfl
noncomputable def Yf:Cx:=⟨Tryz.prog,[(2,aY),(3,aY),(4,.bo),(5,aP),(6,aP),(7,aar),(8,aar),(9,.s),(10,.s),(11,.s),(12,(.i .u64)),(13,(.p .s (.i .u64))),(14,(.p .s (.i .u64))),(21,(.i .i32)),(22,aY),(23,(.l aY)),(24,lx),(25,DI),(26,DI),(27,XI),(28,XI),(31,(.i .u64)),(32,Xm),(33,Xm),(38,(.i .u32)),(39,ahy),(40,ahy),(43,(.l .s)),(49,(.p .s Na)),(50,(.p aY (.p aY (.p aY dE)))),(54,gH),(62,Na),(73,(.l dE)),(74,(.l sM)),(75,Mx),(76,Mx),(77,(.l .ex)),(78,(.p aY (.p aY (.p aY (.l .ex))))),(79,.ex),(80,ahA),(81,ahA),(83,(.l dE)),(84,dE),(85,dE),(94,(.l gH)),(95,eP),(96,eP),(97,(.p eP gH)),(98,(.p eP gH)),(99,(.l eP)),(100,Vl),(101,Vl),(102,(.l eP)),(103,R7),(104,R7),(105,(.l kU)),(106,wy),(107,wy),(108,(.p wy (.p wy wy))),(109,(.p gH (.p gH gH))),(110,EL),(111,EL),(112,UI),(113,UI),(120,(.l (.l .ex))),(121,RX),(122,RX),(129,(.i .u64)),(130,(.l nE)),(133,dE),(134,dE),(137,aai),(138,aai),(141,nE),(142,nE),(148,(.l .n)),(153,.n),(155,dE),(156,dE),(163,(.p aY (.l aY))),(164,(.p aY (.l aY))),(165,DI),(166,DI),(168,aae),(169,aae),(175,(.p lx aY)),(176,(.p lx aY)),(178,amg),(195,ain),(196,ain),(202,(.l .bo)),(205,dE),(206,.un),(207,.un),(208,.un),(209,.un),(210,.un),(211,.un),(225,(.l yi)),(229,dE),(230,dE),(233,(.l .ex)),(234,(.l .ex)),(236,(.l tL)),(238,tL),(239,tL),(250,apS),(251,(.p aP aht)),(276,yi),(277,yi),(284,(.l lx)),(287,(.l .bo)),(297,(.l rR)),(298,sM),(299,sM),(300,rR),(301,rR),(319,dE),(322,anj),(323,aht),(325,(.p .s (.p .s (.p .s (.p .s (.p .s Na)))))),(328,ap1),(338,.un),(339,.un),(340,.un),(341,aP),(342,aP),(344,(.i .i32)),(345,(.i .i32)),(348,eP),(349,eP),(350,(.l j2)),(351,kU),(352,kU),(373,sD),(374,sD),(381,eP),(382,eP),(383,eP),(384,eP),(392,sD),(393,sD),(394,sD),(395,sD),(435,(.l (.i .u32))),(442,Wd),(443,Wd),(461,j2),(462,j2),(468,(.l aY))],[],[38],(List.forall_mem_cons.2 ⟨ajX,(λ_ h=>nomatch h)⟩),az,[207,208,209,210,211],[],(λ_ h=>nomatch h),[(25,21),(66,40),(83,44)]⟩
noncomputable def X0:Cx:=⟨Tryz.prog,[(2,aY),(3,aY),(4,.bo),(5,aP),(6,aP),(7,aar),(8,aar),(9,.s),(10,.s),(11,.s),(12,(.i .u64)),(13,(.p .s (.i .u64))),(14,(.p .s (.i .u64))),(21,(.i .i32)),(22,aY),(23,(.l aY)),(24,lx),(25,DI),(26,DI),(27,XI),(28,XI),(31,(.i .u64)),(32,Xm),(33,Xm),(38,(.i .u32)),(39,ahy),(40,ahy),(43,(.l .s)),(49,(.p .s Na)),(50,(.p aY (.p aY (.p aY dE)))),(54,gH),(62,Na),(73,(.l dE)),(74,(.l sM)),(75,Mx),(76,Mx),(77,(.l .ex)),(78,(.p aY (.p aY (.p aY (.l .ex))))),(79,.ex),(80,ahA),(81,ahA),(83,(.l dE)),(84,dE),(85,dE),(94,(.l gH)),(95,eP),(96,eP),(97,(.p eP gH)),(98,(.p eP gH)),(99,(.l eP)),(100,Vl),(101,Vl),(102,(.l eP)),(103,R7),(104,R7),(105,(.l kU)),(106,wy),(107,wy),(108,(.p wy (.p wy wy))),(109,(.p gH (.p gH gH))),(110,EL),(111,EL),(112,UI),(113,UI),(120,(.l (.l .ex))),(121,RX),(122,RX),(129,(.i .u64)),(130,(.l nE)),(133,dE),(134,dE),(137,aai),(138,aai),(141,nE),(142,nE),(148,(.l .n)),(153,.n),(155,dE),(156,dE),(163,(.p aY (.l aY))),(164,(.p aY (.l aY))),(165,DI),(166,DI),(168,aae),(169,aae),(175,(.p lx aY)),(176,(.p lx aY)),(178,amg),(195,ain),(196,ain),(202,(.l .bo)),(205,dE),(206,.un),(207,.un),(208,.un),(209,.un),(210,.un),(211,.un),(225,(.l yi)),(229,dE),(230,dE),(233,(.l .ex)),(234,(.l .ex)),(236,(.l tL)),(238,tL),(239,tL),(250,apS),(251,(.p aP aht)),(276,yi),(277,yi),(284,(.l lx)),(287,(.l .bo)),(297,(.l rR)),(298,sM),(299,sM),(300,rR),(301,rR),(319,dE),(322,anj),(323,aht),(325,(.p .s (.p .s (.p .s (.p .s (.p .s Na)))))),(328,ap1),(338,.un),(339,.un),(340,.un),(341,aP),(342,aP),(344,(.i .i32)),(345,(.i .i32)),(348,eP),(349,eP),(350,(.l j2)),(351,kU),(352,kU),(373,sD),(374,sD),(381,eP),(382,eP),(383,eP),(384,eP),(392,sD),(393,sD),(394,sD),(395,sD),(435,(.l (.i .u32))),(442,Wd),(443,Wd),(461,j2),(462,j2),(468,(.l aY))],[(0,0,⟨.l .s,lN⟩),(1,0,⟨.l .s,kc⟩),(2,0,⟨.un,()⟩),(3,0,⟨.l (.i .u64),rH⟩),(6,0,⟨.l .s,I9⟩),(7,0,⟨.l .s,xw⟩)],[38],(List.forall_mem_cons.2 ⟨ajX,(λ_ h=>nomatch h)⟩),az,[207,208,209,210,211],[⟨270,λargs H st K=>Rw Yf Tryz.f270 args H st K⟩,⟨261,λargs H st K=>Rw Yf Tryz.f261 args H st K⟩,⟨379,λargs H st K=>Rw Yf Tryz.f379 args H st K⟩,⟨380,λargs H st K=>Rw Yf Tryz.f380 args H st K⟩],(List.forall_mem_cons.2 ⟨Vi (X:=Yf) call270 func270 rfl,(List.forall_mem_cons.2 ⟨Vi (X:=Yf) call261 func261 rfl,(List.forall_mem_cons.2 ⟨Vi (X:=Yf) call379 func379 rfl,(List.forall_mem_cons.2 ⟨Vi (X:=Yf) call380 func380 rfl,(λ_ h=>nomatch h)⟩)⟩)⟩)⟩),[(25,21),(66,40),(83,44)]⟩
abbrev Ko(e:aq):=e.Ok X0.P X0.Γ
abbrev pG(e:bI):=e.Ok X0.P X0.Γ
theorem ax{X:Cx}{tb:List aq}{fn:Func}{e:aq}(h:HT)(c:Enters X.P e.f)(b:X.P.funcs[e.f]? =some fn)(a:∀e∈tb,e.Ok X.P X.Γ)(eq:∀s,adA X tb [] [] h fn e s=e.m s:=by intro _;kernel_rfl):e.Ok X.P X.Γ:=aX h c b a al al eq
theorem aaP{X:Cx}{tb:List aq}{fn:Func}{e:bI}(h:HT)(c:Enters X.P e.f)(b:X.P.funcs[e.f]? =some fn)(a:∀e∈tb,e.Ok X.P X.Γ)(eq:∀s,alf X tb [] [] h fn e s=e.m s:=by intro _;kernel_rfl):e.Ok X.P X.Γ:=oC h c b a al al eq
abbrev U2{a z r:Type}(F:a->z->r)(s:a×z):r:=F s.1 s.2
abbrev U3{a b z r:Type}(F:a->b->z->r)(s:a×b×z):r:=F s.1 s.2.1 s.2.2
abbrev U4{a b c z r:Type}(F:a->b->c->z->r)(s:a×b×c×z):r:=F s.1 s.2.1 s.2.2.1 s.2.2.2
abbrev U5{a b c d z r:Type}(F:a->b->c->d->z->r)(s:a×b×c×d×z):r:=F s.1 s.2.1 s.2.2.1 s.2.2.2.1 s.2.2.2.2
abbrev U6{a b c d e z r:Type}(F:a->b->c->d->e->z->r)(s:a×b×c×d×e×z):r:=F s.1 s.2.1 s.2.2.1 s.2.2.2.1 s.2.2.2.2.1 s.2.2.2.2.2
abbrev U7{a b c d e f z r:Type}(F:a->b->c->d->e->f->z->r)(s:a×b×c×d×e×f×z):r:=F s.1 s.2.1 s.2.2.1 s.2.2.2.1 s.2.2.2.2.1 s.2.2.2.2.2.1 s.2.2.2.2.2.2
abbrev U8{a b c d e f g z r:Type}(F:a->b->c->d->e->f->g->z->r)(s:a×b×c×d×e×f×g×z):r:=F s.1 s.2.1 s.2.2.1 s.2.2.2.1 s.2.2.2.2.1 s.2.2.2.2.2.1 s.2.2.2.2.2.2.1 s.2.2.2.2.2.2.2
abbrev U9{a b c d e f g h z r:Type}(F:a->b->c->d->e->f->g->h->z->r)(s:a×b×c×d×e×f×g×h×z):r:=F s.1 s.2.1 s.2.2.1 s.2.2.2.1 s.2.2.2.2.1 s.2.2.2.2.2.1 s.2.2.2.2.2.2.1 s.2.2.2.2.2.2.2.1 s.2.2.2.2.2.2.2.2
def bl(x:Ex):Ex:=Ex.mk x.op x.n x.at_ x.l
theorem aJ:bl=id:=funext λx=>by cases x;rfl
def apd:aq:=⟨31,[.int .i64],.str,[],λs=>Nb s⟩
theorem Ym:Ko apd:=amO (ρ:=Tryz.Mt) Tryz.ama call31 (G:=3) (tab:=rH) (by kernel_rfl) (show gl 3 (rH.map (Value.int .u64))∈X0.Γ by first|exact bj ..|exact (.tail _ (bj ..))|exact (.tail _ (.tail _ (bj ..)))|exact (.tail _ (.tail _ (.tail _ (bj ..))))|exact (.tail _ (.tail _ (.tail _ (.tail _ (bj ..)))))|exact (.tail _ (.tail _ (.tail _ (.tail _ (.tail _ (bj ..))))))) (by decide+kernel) Nb λn r h=>by obtain ⟨b,a⟩:=ek h;cases a;exact ⟨b,rfl⟩
def ao9:aq:=⟨217,[.own aP 5 true,.int .u64,.int .i64],.own aP 5 true,[],U3 ahG⟩
theorem aiN:Ko ao9:=akK (ρ:=Tryz.ON) Tryz.aou call217 (G:=3) (tab:=rH) (by kernel_rfl) (show gl 3 (rH.map (Value.int .u64))∈X0.Γ by first|exact bj ..|exact (.tail _ (bj ..))|exact (.tail _ (.tail _ (bj ..)))|exact (.tail _ (.tail _ (.tail _ (bj ..))))|exact (.tail _ (.tail _ (.tail _ (.tail _ (bj ..)))))|exact (.tail _ (.tail _ (.tail _ (.tail _ (.tail _ (bj ..))))))) (by decide+kernel) ahG λl u b r h=>by obtain ⟨a,c⟩:=ek h;simp only [ae,kX,n5] at a;cases c;exact ⟨a.1.1,a.1.2.1,a.1.2.2,a.2,rfl⟩
def apb:aq:=⟨157,[.iU (.raw (.slice none 0 0)),.int .i64],.own (.l aY) 23 true,[],λs=>agy s⟩
theorem ai3:Ko apb:=akA (ρ:=Tryz.X8) Tryz.aqB call157 (z:= .slice none 0 0) (bytes:=24) (t:= .l aY) (by unfold TI;kernel_rfl) rfl rfl (by decide) agy λn r h=>by obtain ⟨a,b⟩:=ek h;simp only [ae,n5] at a;cases b;exact ⟨a.1,a.2,rfl⟩
def aqy:aq:=⟨26,[.str,.str],.cG [.str,.str,.bool],[],U2 ahn⟩
theorem alT:Ko aqy:=aoJ (ρ:=Tryz.PD) Tryz.afE call26 (show glx 2∈X0.Γ by repeat (first|exact bj ..|refine aW _ ?_)) ahn λs t r h=>by obtain ⟨b,a⟩:=ek h;cases a;exact ⟨qe b,rfl⟩
theorem adP(W:World)(x:Nat):FnGives X0.P 29 #[] #[.int .i32 x] (.bool (x==32)) W:=by
 refine Calls.mono (iv (S:=λv w'=>v= .bool (x==32)/\w'=W) (Sp:=λ_ _=>False) func29 rfl Tryz.ntmps29 rfl ?_) (λe w' h=>?_)
 .refine bn<|bh<|aK (cJ ar.c) rfl rfl rfl rfl<|bT<|bd<|bn<|bh<|aK (aL (ar.t rfl)) rfl rfl rfl rfl<|aK (py (ar.t rfl) ar.c) rfl rfl rfl rfl<|aK (cJ (ar.t rfl)) rfl rfl rfl rfl<|bT<|bd<|uN ?_
  repeat refine nn ?_
  refine MQ rfl (jh.t rfl) ?_;exact ⟨by congr 1;rw [qN,kX,kX];omega,rfl⟩
 .cases e with
  |returned v=>obtain ⟨rfl,rfl⟩:=h;exact ⟨rfl,0,rfl⟩
  |panicked c=>exact h.elim
  |outgrown=>exact h.elim
def aqx:aq:=⟨28,[.str,.fn 29 [] []],.sli .s,[],λs=>aij s⟩
theorem alL:Ko aqx:=aoh (ρ:=Tryz.OK) Tryz.aoI call28 call29 adP aij λs r h=>by obtain ⟨b,a⟩:=ek h;cases a;exact ⟨qe b,rfl⟩
theorem ake{α:Type}{b:Nat}{s y r:List α}{k:Int}(h:abv b s k y=some r):y≠[]/\QE k s.length=true/\aG (s.length+y.length) b=true/\r=lX s k y:=by
 unfold abv at h;split at h
 .cases h
 .obtain ⟨a,c⟩:=ek h;simp only [ae] at a;cases c;exact ⟨by simp,a.1,a.2,rfl⟩
def akL:aq:=⟨351,[.own j2 462 true,.int .i64,.own j2 462 true],.own j2 462 true,[],λs=>abv 16 s.1 s.2.1 s.2.2⟩
theorem aeW:Ko akL:=aoA (t:=j2) (bytes:=16) call351 (λa d c b=>I351.abu a d c b) (abv 16) (λ_ _ _ _ h=>ake h)
abbrev SY:=Q2->Option Q3
def ij(k:SY):aq:=⟨91,[iC,MZ],bG,[(true,0,cD)],λs=>k (s.1,s.2.1,s.2.2.1,s.2.2.2.1,s.2.2.2.2.1,s.2.2.2.2.2)⟩
abbrev OK0(k:SY):Prop:=Ko (ij k)
abbrev Uj:=Q2->Option Q3
def ie(k:Uj):aq:=⟨91,[iC,MY],bG,[(true,0,cD)],λs=>k (s.1,s.2.1,s.2.2.1,s.2.2.2.1,s.2.2.2.2.1,s.2.2.2.2.2)⟩
abbrev OK1(k:Uj):Prop:=Ko (ie k)
abbrev SG:=Q2->Option Q3
def ik(k:SG):aq:=⟨91,[iC,Nq],bG,[(true,0,cD)],λs=>k (s.1,s.2.1,s.2.2.1,s.2.2.2.1,s.2.2.2.2.1,s.2.2.2.2.2)⟩
abbrev OK2(k:SG):Prop:=Ko (ik k)
abbrev Sk:=Q2->Option Q3
def ig(k:Sk):aq:=⟨91,[iC,Np],bG,[(true,0,cD)],λs=>k (s.1,s.2.1,s.2.2.1,s.2.2.2.1,s.2.2.2.2.1,s.2.2.2.2.2)⟩
abbrev OK3(k:Sk):Prop:=Ko (ig k)
abbrev cQ:=Q2->Option Q3
def im(k:cQ):aq:=⟨91,[iC,(.fn 92 [] [])],bG,[(true,0,cD)],λs=>k (s.1,s.2.1,s.2.2.1,s.2.2.2.1,s.2.2.2.2.1,s.2.2.2.2.2)⟩
abbrev jd(k:cQ):Prop:=Ko (im k)
abbrev TK5:=Ex->Option nU
def uf(k:TK5):aq:=⟨59,[fF],(.cG [an,an,an]),[],λs=>k s⟩
abbrev OK5(k:TK5):Prop:=Ko (uf k)
abbrev UU:=Q2->Option Q3
def iI(k:UU):aq:=⟨91,[eN,MZ],bG,[(true,0,cD)],λs=>k (s.1,s.2.1,s.2.2.1,s.2.2.2.1,s.2.2.2.2.1,s.2.2.2.2.2)⟩
abbrev OK6(k:UU):Prop:=Ko (iI k)
abbrev Ua:=Q2->Option Q3
def iM(k:Ua):aq:=⟨91,[eN,MY],bG,[(true,0,cD)],λs=>k (s.1,s.2.1,s.2.2.1,s.2.2.2.1,s.2.2.2.2.1,s.2.2.2.2.2)⟩
abbrev OK7(k:Ua):Prop:=Ko (iM k)
abbrev Sc:=Q2->Option Q3
def iF(k:Sc):aq:=⟨91,[eN,Nq],bG,[(true,0,cD)],λs=>k (s.1,s.2.1,s.2.2.1,s.2.2.2.1,s.2.2.2.2.1,s.2.2.2.2.2)⟩
abbrev OK8(k:Sc):Prop:=Ko (iF k)
abbrev Vx:=Q2->Option Q3
def iL(k:Vx):aq:=⟨91,[eN,Np],bG,[(true,0,cD)],λs=>k (s.1,s.2.1,s.2.2.1,s.2.2.2.1,s.2.2.2.2.1,s.2.2.2.2.2)⟩
abbrev OK9(k:Vx):Prop:=Ko (iL k)
abbrev bR:=Q2->Option Q3
def kC(k:bR):aq:=⟨91,[eN,(.fn 92 [] [])],bG,[(true,0,cD)],λs=>k (s.1,s.2.1,s.2.2.1,s.2.2.2.1,s.2.2.2.2.1,s.2.2.2.2.2)⟩
abbrev fc(k:bR):Prop:=Ko (kC k)
abbrev IA:=Pc->Option jf
def wX(k:IA):aq:=⟨139,[fF,.bool,Bo],fF,[(true,2,Bo)],λs=>k (s.1,s.2.1,s.2.2)⟩
abbrev amA(k:IA):Prop:=Ko (wX k)
abbrev acu:=Int->xa
def uT(k:acu):aq:=⟨314,[an],an,[],λs=>k s⟩
abbrev arb(k:acu):Prop:=Ko (uT k)
abbrev acY:=Q55->Option (Except Int Int)
def lq(k:acY):bI:=⟨326,[agR,an,Nv],DJ,none,false,false,nG,[],λs=>k (s.2.1,s.2.2,s.1)⟩
abbrev aq8(k:acY):Prop:=pG (lq k)
abbrev aaQ:=Q55->Option Q64
def jk(k:aaQ):aq:=⟨326,[ahX,an,Nv],nG,[(true,0,ahj)],λs=>k (s.2.1,s.2.2,s.1)⟩
abbrev arq(k:aaQ):Prop:=Ko (jk k)
abbrev ach:=Q48->Option Ji
def nR(k:ach):aq:=⟨343,[al5,an,dm],an,[(true,0,amG)],λs=>k (s.2.2.2.2.2.2.1,s.2.2.2.2.2.2.2,s.1,s.2.1,s.2.2.1,s.2.2.2.1,s.2.2.2.2.1,s.2.2.2.2.2.1)⟩
abbrev aq5(k:ach):Prop:=Ko (nR k)
abbrev abY:=Q51->Option (Q4×Q1)
def lf(k:abY):aq:=⟨344,[amD,an],ez,[(true,0,adC)],λs=>k (s.2.2.2.2.2.2,s.1,s.2.1,s.2.2.1,s.2.2.2.1,s.2.2.2.2.1,s.2.2.2.2.2.1)⟩
abbrev aq7(k:abY):Prop:=Ko (lf k)
abbrev abS:=(Ex×Q1)->xa
def tS(k:abS):aq:=⟨162,[fF,aS],an,[],λs=>k (s.1,s.2)⟩
abbrev aq4(k:abS):Prop:=Ko (tS k)
abbrev RM:=(Ex×Ex)->w4
def tH(k:RM):aq:=⟨155,[fF,fF],.bool,[],λs=>k (s.1,s.2)⟩
abbrev apg(k:RM):Prop:=Ko (tH k)
abbrev acW:=Q43->Option Jd
def gL(k:acW):aq:=⟨156,[mK,(.dat tL []),aav,Mf,(.bx 232 0 true [Hj]),amZ],ez,[(true,2,aav),(true,3,Mf),(true,4,(.bx 232 0 true [.same])),(true,1005,Hj),(true,5,(.bx 283 0 true [.same]))],λs=>k (s.1,s.2.1,s.2.2.1,s.2.2.2.1,s.2.2.2.2)⟩
abbrev ark(k:acW):Prop:=Ko (gL k)
abbrev aaY:=(Ex×gW)->Option aU
def yW(k:aaY):aq:=⟨121,[fF,Kf],dT,[],λs=>k (s.1,s.2)⟩
abbrev arn(k:aaY):Prop:=Ko (yW k)
abbrev aaN:=Int->Option aE
def gI(k:aaN):aq:=⟨25,[mK],.str,[],λs=>k s⟩
abbrev arl(k:aaN):Prop:=Ko (gI k)
def abe:aq:=⟨17,[.str],(.sli .s),[],λs=>Ar s⟩
theorem S8:Ko abe:=
 ax .o call17 func17 (aj alL al)
def vX:aq:=⟨18,[(.sli .s),.str],an,[],U2 cS⟩
theorem fV:Ko vX:=
 ax (.l ⟨[(false,8,an)],[]⟩ .o) call18 func18 al
def ZJ:aq:=⟨19,[.str],BC,[],λs=>wU s⟩
theorem Qe:Ko ZJ:=
 ax (.c .o (.l ⟨[(false,4,an),(false,16,an)],[]⟩ .o)) call19 func19 al
def VY:aq:=⟨9,[.str],(.cG [wL,.bool]),[],λs=>ga s⟩
theorem yM:Ko VY:=
 ax (.c .o (.r [] (.s (.j ⟨[(false,6,an)],[]⟩ .o (.c .o (.l ⟨[(true,2,(.bx 33 0 true [.same,.same,.same,.same,.same,.same])),(true,7,(.bx 50 0 true [an,an,an,an,an])),(false,37,an)],[]⟩ .o)))))) call9 func9 (aj S8 (aj fV (aj Qe al)))
def ah4:aq:=⟨22,[.str,aS],.str,[],U2 kT⟩
theorem Jx:Ko ah4:=
 ax (.l ⟨[(false,0,.str),(false,9,an)],[]⟩ .o) call22 func22 (aj Ym al)
def aej:aq:=⟨82,[iz],.bool,[],λs=>Yr s⟩
theorem WA:Ko aej:=
 ax .o call82 func82 al
def Uq:aq:=⟨84,[iz],.bool,[],λs=>Jw s⟩
theorem Mq:Ko Uq:=
 ax .o call84 func84 al
def ai0:aq:=⟨83,[.str,(.fn 84 [] [])],.str,[],λs=>agc s⟩
theorem adh:Ko ai0:=
 ax (.l ⟨[(false,8,an)],[]⟩ .o) call83 func83 (aj Mq al)
def aay:aq:=⟨127,[iz],.bool,[],λs=>H6 s⟩
theorem DM:Ko aay:=
 ax .o call127 func127 al
def ad8:aq:=⟨129,[iz],.bool,[],λs=>De s⟩
theorem wm:Ko ad8:=
 ax .o call129 func129 al
def aa2:aq:=⟨128,[iz],.bool,[],λs=>Vu s⟩
theorem R9:Ko aa2:=
 ax .o call128 func128 (aj DM (aj wm al))
def abl:aq:=⟨83,[.str,(.fn 128 [] [])],.str,[],λs=>VI s⟩
theorem Ul:Ko abl:=
 ax (.l ⟨[(false,8,an)],[]⟩ .o) call83 func83 (aj R9 al)
def adx:aq:=⟨83,[.str,(.fn 129 [] [])],.str,[],λs=>SM s⟩
theorem SR:Ko adx:=
 ax (.l ⟨[(false,8,an)],[]⟩ .o) call83 func83 (aj wm al)
def aem:aq:=⟨130,[.str],BC,[],λs=>YQ s⟩
def wu(a:(Int×aE×Nat)->Option kh):Int×aE×Nat->Option kh:=λ⟨c,s,b⟩=> bif decide (b<List.length s) then ( bif decide (1073741824<(i64.wrap ((i64.wrap (10*c))+(i64.wrap (i32.wrap ((BV s b)-48)))))) then some (0,false) else a ((i64.wrap ((i64.wrap (10*c))+(i64.wrap (i32.wrap ((BV s b)-48))))),s,(nj s b))) else ( some (c,true))
theorem OO(s:aE):∀(N:Nat) (n:Int) (p:Nat),aw wu N (n,s,p)=aw (BW s) N (n,p)
 |0,_,_=>rfl
 |N+1,n,p=>by rw [Yv,Yv];simp only [wu,BW,OO s N]
theorem Ww:Ko aem:=
 aX (.l ⟨[(false,4,an),(true,8,.it)],[]⟩ .o) call130 func130 al al al λs=>(show _=aw wu az (0,s,0) from by kernel_rfl).trans (OO s az 0 0)
def aeE:aq:=⟨176,[],sG,[],λ_=>X7⟩
theorem VO:Ko aeE:=
 ax .o call176 func176 al
def sH:aq:=⟨202,[.str,.str],.bool,[],U2 km⟩
theorem pk:Ko sH:=
 ax .o call202 func202 al
def JN:aq:=⟨177,[.str,.str],.bool,[],U2 yw⟩
theorem Ez:Ko JN:=
 ax .o call177 func177 (aj pk al)
def ahW:aq:=⟨131,[.str],.str,[],λs=>adL s⟩
theorem YU:Ko ahW:=
 ax (.l ⟨[(false,7,an)],[]⟩ .o) call131 func131 (aj VO (aj Ez al))
def aef:aq:=⟨85,[.str],(.cG [(.dat nE []),an]),[],λs=>XN s⟩
theorem Wg:Ko aef:=
 ax .o call85 func85 (aj DM (aj Ul (aj wm (aj SR (aj Ww (aj YU al))))))
def aby:aq:=⟨55,[.str],(.cG [(.own nE 142 true),an,an]),[],λs=>Aq s⟩
theorem Dk:Ko aby:=
 ax (.n 0 (.j ⟨[(false,5,(.own nE 142 true)),(false,6,an)],[]⟩ .o .o)) call55 func55 (aj WA (aj adh (aj Wg al)))
def Ow:aq:=⟨88,[agB],(.dat nE []),[],U7 dG⟩
theorem dP:Ko Ow:=
 ax (.r [2] .o) call88 func88 al
def VA:aq:=⟨89,[agB,an,.str],.bool,[],λs=>gD s.2.2.2.2.2.2.2.1 s.2.2.2.2.2.2.2.2 s.1 s.2.1 s.2.2.1 s.2.2.2.1 s.2.2.2.2.1 s.2.2.2.2.2.1 s.2.2.2.2.2.2.1⟩
theorem iB:Ko VA:=
 ax .o call89 func89 (aj dP al)
def NM:bI:=⟨90,[agB,an],Fy,none,true,false,ez,[],λs=>cH s.2.2.2.2.2.2.2 s.1 s.2.1 s.2.2.1 s.2.2.2.1 s.2.2.2.2.1 s.2.2.2.2.2.1 s.2.2.2.2.2.2.1⟩
theorem eY:pG NM:=
 aaP .o call90 func90 (aj dP al)
def tx:aq:=⟨203,[(.sli .s),.str],.bool,[],U2 kZ⟩
theorem ra:Ko tx:=
 ax .o call203 func203 (aj fV al)
def ahV:aq:=⟨178,[.str],.bool,[],λs=>ph s⟩
theorem mY:Ko ahV:=
 ax .o call178 func178 (aj ra al)
def tw:aq:=⟨18,[AU,.str],an,[],U2 cW⟩
theorem fg:Ko tw:=
 ax (.l ⟨[(false,8,an)],[]⟩ .o) call18 func18 al
def pW:aq:=⟨203,[AU,.str],.bool,[],U2 fD⟩
theorem oa:Ko pW:=
 ax .o call203 func203 (aj fg al)
def LD:aq:=⟨179,[agB,.str],.bool,[],λs=>A1 s.2.2.2.2.2.2.2 s.1 s.2.1 s.2.2.1 s.2.2.2.1 s.2.2.2.2.1 s.2.2.2.2.2.1 s.2.2.2.2.2.2.1⟩
theorem Gr:Ko LD:=
 ax .o call179 func179 (aj oa al)
def ND:bI:=⟨132,[abK,.bool],Fy,none,false,false,.str,[(true,0,RV)],λs=>u4 s.2.2.2.2.2.2.2 s.1 s.2.1 s.2.2.1 s.2.2.2.1 s.2.2.2.2.1 s.2.2.2.2.2.1 s.2.2.2.2.2.2.1⟩
theorem uj:pG ND:=
 oC (.s (.s (.j ⟨[],[]⟩ .o .o))) call132 func132 (aj dP (aj mY (aj Gr al))) (aj eY al) al λ_=>by kernel_rfl
def JQ:bI:=⟨133,[abK],Fy,none,false,false,an,[(true,0,RV)],U7 lg⟩
theorem EW:pG JQ:=
 oC (.s (.s (.j ⟨[(true,0,RV)],[]⟩ .o (.s (.j ⟨[],[]⟩ .o .o))))) call133 func133 (aj iB (aj dP al)) (aj eY al) al λ_=>by kernel_rfl
def Nx:bI:=⟨134,[abK,.str],Fy,none,false,false,ez,[(true,0,RV)],λs=>er s.2.2.2.2.2.2.2 s.1 s.2.1 s.2.2.1 s.2.2.2.1 s.2.2.2.2.1 s.2.2.2.2.2.1 s.2.2.2.2.2.2.1⟩
theorem jj:pG Nx:=
 oC (.j ⟨[],[]⟩ .o .o) call134 func134 (aj iB al) (aj eY al) al λ_=>by kernel_rfl
def NS:aq:=⟨96,[(.dat dE [])],.bool,[],λs=>tT s⟩
theorem uF:Ko NS:=
 ax .o call96 func96 al
def FI:aq:=⟨95,[Nc,(.fn 96 [] [])],dT,[],λs=>vu s⟩
theorem Ca:Ko FI:=
 ax (.l ⟨[(true,5,dT),(false,13,an)],[]⟩ .o) call95 func95 (aj uF al)
def Bg:aq:=⟨140,[(.sli .bo),.bool],an,[],U2 ru⟩
theorem xp:Ko Bg:=
 ax (.l ⟨[(false,8,an)],[]⟩ .o) call140 func140 al
def xr:aq:=⟨94,[(.sli .bo),.bool],.bool,[],U2 fR⟩
theorem gf:Ko xr:=
 ax .o call94 func94 (aj xp al)
def Og:aq:=⟨61,[Nc],.bool,[],λs=>C1 s⟩
theorem IW:Ko Og:=
 ax .o call61 func61 (aj Ca (aj gf al))
def N8:aq:=⟨141,[(.dat dE []),an],.bool,[],U2 nQ⟩
theorem lY:Ko N8:=
 ax .o call141 func141 al
def Wy:aq:=⟨97,[Nc,aS],an,[],U2 Ln⟩
theorem NP:Ko Wy:=
 ax (.c .o (.l ⟨[(false,14,an)],[]⟩ .o)) call97 func97 (aj lY al)
def FA:bI:=⟨86,[(.bx 138 0 true [Hr,an,sG,H7,fp,AU,(.own sM 299 false)])],Fy,none,false,false,ez,[(true,0,(.bx 138 0 true [.same,an,sG,H7,fp,.same,.same]))],U7 vE⟩
theorem BB:pG FA:=
 oC (.s (.s (.s (.s (.s (.j ⟨[],[]⟩ .o (.r [0] .o))))))) call86 func86 (aj dP (aj IW (aj NP al))) (aj uj (aj EW (aj jj al))) al λ_=>by kernel_rfl
def J3:aq:=⟨136,[iC,an],bG,[(true,0,(.bx 196 0 true [.same,.same,.same,.same,an,an]))],λs=>bH s.2.2.2.2.2.2 s.1 s.2.1 s.2.2.1 s.2.2.2.1 s.2.2.2.2.1 s.2.2.2.2.2.1⟩
theorem dW:Ko J3:=
 ax (.c (.r [0] .o) .o) call136 func136 al
def JD:aq:=⟨183,[(.bx 196 0 false [Hr,an,AU,an,an,an])],(.dat nE []),[],U6 aQ⟩
theorem bO:Ko JD:=
 ax (.r [2] .o) call183 func183 al
def NK:aq:=⟨182,[(.bx 196 0 false [Hr,an,AU,an,an,an]),aS],BC,[],λs=>bp s.2.2.2.2.2.2 s.1 s.2.1 s.2.2.1 s.2.2.2.1 s.2.2.2.2.1 s.2.2.2.2.2.1⟩
theorem cn:Ko NK:=
 ax (.c .o (.l ⟨[(false,27,an)],[]⟩ .o)) call182 func182 (aj bO (aj mY al))
def KB(a:cQ):aq:=⟨228,[iC],bG,[(true,0,cD)],λs=>rV a s.1 s.2.1 s.2.2.1 s.2.2.2.1 s.2.2.2.2.1 s.2.2.2.2.2⟩
def od(h:Ex->Ex)(C:Sh->(R:Type)->Option R->Option R)(B:Q2->Option Q3)(l:Q6)(at_:Int)(c:aD)(d:Int)(f:Int)(b:Int):Option Q3:= bif f != 0 then some ((Ex.mk 0 0 0 []),at_,d,f,b) else (aQ l at_ c d f b).bind λe=> (bp ([13,14]:x6) l at_ c d f b).bind λn=> bif n.2 then ( some ((Ex.mk n.1 0 e.2.2.2 []),(i64.wrap (at_+1)),d,f,b)) else ( bif e.1==2 then some ((Ex.mk 1 e.2.2.1 e.2.2.2 []),(i64.wrap (at_+1)),d,f,b) else ai (e.1==1) λp=> bz p default (ph e.2.1) λs=> ai (!s) λA=> ai (p&&A) λz=> bif z then ( (cW c e.2.1).bind λm=> bif decide (m<0) then (bH 3 l at_ c d f b).bind λj=> some ((h j.1),at_,d,j.2.1,j.2.2) else some ((Ex.mk 2 m e.2.2.2 []),(i64.wrap (at_+1)),d,f,b)) else ( ai (e.1==3) λy=> ai (e.2.1==[40]) λx=> ai (y&&x) λw=> bif w then ( (B (l,(i64.wrap (at_+1)),c,d,f,b)).bind λa=> ai (a.2.2.2.1==0) λk=> bz k default (aQ l a.2.1 c a.2.2.1 a.2.2.2.1 a.2.2.2.2) λr=> ai (r.1 != 3) λo=> bz (k&& !o) default (aQ l a.2.1 c a.2.2.1 a.2.2.2.1 a.2.2.2.2) λq=> ai (q.2.1 != [41]) λv=> ai (o||v) λu=> ai (k&&u) λt=> bif t then ( (bH 2 l a.2.1 c a.2.2.1 a.2.2.2.1 a.2.2.2.2).bind λi=> some ((h i.1),a.2.1,a.2.2.1,i.2.1,i.2.2)) else ( bif a.2.2.2.1==0 then some ((h a.1),(i64.wrap (a.2.1+1)),a.2.2.1,a.2.2.2.1,a.2.2.2.2) else some ((h a.1),a.2.1,a.2.2.1,a.2.2.2.1,a.2.2.2.2))) else ( (bH 2 l at_ c d f b).bind λg=> some ((h g.1),at_,d,g.2.1,g.2.2))))
theorem FH(a:cQ)(d:jd a):Ko (KB a):=
 aX (.c .o (.c .o (.c .o (.c (.r [0] .o) .o)))) call228 func228 (aj bO (aj cn (aj mY (aj fg (aj dW (aj d al)))))) al al λs=>(show _=od bl aM a s.1 s.2.1 s.2.2.1 s.2.2.2.1 s.2.2.2.2.1 s.2.2.2.2.2 from by kernel_rfl).trans ((congrArg (λb=>od b aM a s.1 s.2.1 s.2.2.1 s.2.2.2.1 s.2.2.2.2.1 s.2.2.2.2.2) aJ).trans ((congrArg (λe=>od id e a s.1 s.2.1 s.2.2.1 s.2.2.2.1 s.2.2.2.2.1 s.2.2.2.2.2) aN).trans (by kernel_rfl)))
def FL(a:cQ)(b:SY):aq:=⟨222,[iC,MZ,(.fn 228 [] []),aS],bG,[(true,0,cD)],λs=>nK a b s.2.2.2.2.2.2 s.1 s.2.1 s.2.2.1 s.2.2.2.1 s.2.2.2.2.1 s.2.2.2.2.2.1⟩
def lS(h:Ex->Ex)(m:Sh->(R:Type)->Option R->Option R)(k:Q2->Option Q3)(j:Q2->Option Q3)(ops:Q1)(l:Q6)(at_:Int)(b:aD)(c:Int)(f:Int)(a:Int):Option Q3:= (bp ops l at_ b c f a).bind λg=> bif !g.2 then (rV k l at_ b c f a).bind λe=> some ((h e.1),e.2.1,e.2.2.1,e.2.2.2.1,e.2.2.2.2) else (aQ l at_ b c f a).bind λi=> (j (l,(i64.wrap (at_+1)),b,c,f,a)).bind λd=> some ((Ex.mk g.1 0 i.2.2.2 ([(h d.1)]:List Ex)),d.2.1,d.2.2.1,d.2.2.2.1,d.2.2.2.2)
theorem Bk(a:cQ)(e:jd a)(b:SY)(f:OK0 b):Ko (FL a b):=
 aX (.c .o (.r [0,8] .o)) call222 func222 (aj cn (aj (FH a e) (aj bO (aj f al)))) al al λs=>(show _=lS bl aM a b s.2.2.2.2.2.2 s.1 s.2.1 s.2.2.1 s.2.2.2.1 s.2.2.2.2.1 s.2.2.2.2.2.1 from by kernel_rfl).trans ((congrArg (λd=>lS d aM a b s.2.2.2.2.2.2 s.1 s.2.1 s.2.2.1 s.2.2.2.1 s.2.2.2.2.1 s.2.2.2.2.2.1) aJ).trans ((congrArg (λg=>lS id g a b s.2.2.2.2.2.2 s.1 s.2.1 s.2.2.1 s.2.2.2.1 s.2.2.2.2.1 s.2.2.2.2.2.1) aN).trans (by kernel_rfl)))
def LN(a:cQ)(b:SY):aq:=⟨227,[iC],bG,[(true,0,cD)],λs=>sy a b s.1 s.2.1 s.2.2.1 s.2.2.2.1 s.2.2.2.2.1 s.2.2.2.2.2⟩
def oq(e:Ex->Ex)(i:Sh->(R:Type)->Option R->Option R)(h:Q2->Option Q3)(g:Q2->Option Q3)(l:Q6)(at_:Int)(c:aD)(d:Int)(f:Int)(b:Int):Option Q3:= (nK h g ([6]:x6) l at_ c d f b).bind λa=> some ((e a.1),a.2.1,a.2.2.1,a.2.2.2.1,a.2.2.2.2)
theorem Gb(a:cQ)(d:jd a)(b:SY)(e:OK0 b):Ko (LN a b):=
 aX .o call227 func227 (aj (Bk a d b e) al) al al λs=>(show _=oq bl aM a b s.1 s.2.1 s.2.2.1 s.2.2.2.1 s.2.2.2.2.1 s.2.2.2.2.2 from by kernel_rfl).trans ((congrArg (λc=>oq c aM a b s.1 s.2.1 s.2.2.1 s.2.2.2.1 s.2.2.2.2.1 s.2.2.2.2.2) aJ).trans ((congrArg (λf=>oq id f a b s.1 s.2.1 s.2.2.1 s.2.2.2.1 s.2.2.2.2.1 s.2.2.2.2.2) aN).trans (by kernel_rfl)))
def sY(a:cQ):aq:=⟨91,[iC,MZ],bG,[(true,0,cD)],λs=>nH a s.1 s.2.1 s.2.2.1 s.2.2.2.1 s.2.2.2.2.1 s.2.2.2.2.2⟩
def jW(f:Ex->Ex)(j:Sh->(R:Type)->Option R->Option R)(i:Q2->Option Q3)(h:Q2->Option Q3)(l:Q6)(at_:Int)(d:aD)(a:Int)(g:Int)(c:Int):Option Q3:= bif decide (320<=a) then (bH 9 l at_ d a g c).bind λe=> some ((f e.1),at_,a,e.2.1,e.2.2) else (sy i h l at_ d (i64.wrap (a+1)) g c).bind λb=> some ((f b.1),b.2.1,(i64.wrap (b.2.2.1-1)),b.2.2.2.1,b.2.2.2.2)
def tr(a:cQ):SY->SY:=λb s=>tu a b s.1 s.2.1 s.2.2.1 s.2.2.2.1 s.2.2.2.2.1 s.2.2.2.2.2
theorem xP(a:cQ)(d:jd a)(b:SY)(e:OK0 b):(ij (tr a b)).Ok X0.P X0.Γ:=
 aX .o call91 func91 (aj dW (aj (Gb a d b e) al)) al al λs=>(show _=jW bl aM a b s.1 s.2.1 s.2.2.1 s.2.2.2.1 s.2.2.2.2.1 s.2.2.2.2.2 from by kernel_rfl).trans ((congrArg (λc=>jW c aM a b s.1 s.2.1 s.2.2.1 s.2.2.2.1 s.2.2.2.2.1 s.2.2.2.2.2) aJ).trans ((congrArg (λf=>jW id f a b s.1 s.2.1 s.2.2.1 s.2.2.2.1 s.2.2.2.2.1 s.2.2.2.2.2) aN).trans (by kernel_rfl)))
theorem A5(a:cQ)(b:jd a):Ko (sY a):=(show sY a=ij (aw (tr a) az) by kernel_rfl)▸dN (X:=X0) (E:=ij) ⟨call91,λ_ _ h=>nomatch h⟩ (xP a b) az
def Ej(a:cQ):aq:=⟨226,[iC],bG,[(true,0,cD)],λs=>gh a s.1 s.2.1 s.2.2.1 s.2.2.2.1 s.2.2.2.2.1 s.2.2.2.2.2⟩
def kG(e:Ex->Ex)(h:Sh->(R:Type)->Option R->Option R)(g:Q2->Option Q3)(l:Q6)(at_:Int)(c:aD)(d:Int)(f:Int)(b:Int):Option Q3:= (nH g l at_ c d f b).bind λa=> some ((e a.1),a.2.1,a.2.2.1,a.2.2.2.1,a.2.2.2.2)
theorem yS(a:cQ)(c:jd a):Ko (Ej a):=
 aX .o call226 func226 (aj (A5 a c) al) al al λs=>(show _=kG bl aM a s.1 s.2.1 s.2.2.1 s.2.2.2.1 s.2.2.2.2.1 s.2.2.2.2.2 from by kernel_rfl).trans ((congrArg (λb=>kG b aM a s.1 s.2.1 s.2.2.1 s.2.2.2.1 s.2.2.2.2.1 s.2.2.2.2.2) aJ).trans ((congrArg (λd=>kG id d a s.1 s.2.1 s.2.2.1 s.2.2.2.1 s.2.2.2.2.1 s.2.2.2.2.2) aN).trans (by kernel_rfl)))
def H5(a:cQ):aq:=⟨214,[iC,(.fn 226 [] []),aS],bG,[(true,0,cD)],λs=>oX a s.2.2.2.2.2.2 s.1 s.2.1 s.2.2.1 s.2.2.2.1 s.2.2.2.2.1 s.2.2.2.2.2.1⟩
def CN(o:Ex->Ex)(q:Sh->(R:Type)->Option R->Option R)(p:Q2->Option Q3)(ops:Q1)(l:Q6)(a:aD)(g:yx->Option Q3):Int×Int×Int×Int×Int×Int×Int×(List Ex)->Option Q3:=λ⟨f,e,b,d,k,j,i,h⟩=> bif b==0 then (bp ops l f a e b d).bind λm=> bif !m.2 then some ((Ex.mk k j i h),f,e,b,d) else (aQ l f a e b d).bind λn=> (gh p l (i64.wrap (f+1)) a e b d).bind λc=> g (c.2.1,c.2.2.1,c.2.2.2.1,c.2.2.2.2,m.1,0,n.2.2.2,([(Ex.mk k j i h),(o c.1)]:List Ex)) else some ((Ex.mk k j i h),f,e,b,d)
def mO(e:Ex->Ex)(h:Sh->(R:Type)->Option R->Option R)(g:Q2->Option Q3)(ops:Q1)(l:Q6)(at_:Int)(b:aD)(d:Int)(f:Int)(c:Int):Option Q3:= (gh g l at_ b d f c).bind λa=> aw (CN e h g ops l b) az (a.2.1,a.2.2.1,a.2.2.2.1,a.2.2.2.2,a.1.op,a.1.n,a.1.at_,a.1.l)
theorem CM(a:cQ)(c:jd a):Ko (H5 a):=
 aX (.l ⟨[(true,0,cD),(true,6,Hi),(true,7,L4)],[]⟩ .o) call214 func214 (aj (yS a c) (aj cn (aj bO al))) al al λs=>(show _=mO bl aM a s.2.2.2.2.2.2 s.1 s.2.1 s.2.2.1 s.2.2.2.1 s.2.2.2.2.1 s.2.2.2.2.2.1 from by kernel_rfl).trans ((congrArg (λb=>mO b aM a s.2.2.2.2.2.2 s.1 s.2.1 s.2.2.1 s.2.2.2.1 s.2.2.2.2.1 s.2.2.2.2.2.1) aJ).trans ((congrArg (λd=>mO id d a s.2.2.2.2.2.2 s.1 s.2.1 s.2.2.1 s.2.2.2.1 s.2.2.2.2.1 s.2.2.2.2.2.1) aN).trans (by kernel_rfl)))
def JP(a:cQ):aq:=⟨225,[iC],bG,[(true,0,cD)],λs=>iX a s.1 s.2.1 s.2.2.1 s.2.2.2.1 s.2.2.2.2.1 s.2.2.2.2.2⟩
def nw(e:Ex->Ex)(h:Sh->(R:Type)->Option R->Option R)(g:Q2->Option Q3)(l:Q6)(at_:Int)(c:aD)(d:Int)(f:Int)(b:Int):Option Q3:= (oX g ([5]:x6) l at_ c d f b).bind λa=> some ((e a.1),a.2.1,a.2.2.1,a.2.2.2.1,a.2.2.2.2)
theorem Fu(a:cQ)(c:jd a):Ko (JP a):=
 aX .o call225 func225 (aj (CM a c) al) al al λs=>(show _=nw bl aM a s.1 s.2.1 s.2.2.1 s.2.2.2.1 s.2.2.2.2.1 s.2.2.2.2.2 from by kernel_rfl).trans ((congrArg (λb=>nw b aM a s.1 s.2.1 s.2.2.1 s.2.2.2.1 s.2.2.2.2.1 s.2.2.2.2.2) aJ).trans ((congrArg (λd=>nw id d a s.1 s.2.1 s.2.2.1 s.2.2.2.1 s.2.2.2.2.1 s.2.2.2.2.2) aN).trans (by kernel_rfl)))
def HC(a:cQ):aq:=⟨214,[iC,(.fn 225 [] []),aS],bG,[(true,0,cD)],λs=>o9 a s.2.2.2.2.2.2 s.1 s.2.1 s.2.2.1 s.2.2.2.1 s.2.2.2.2.1 s.2.2.2.2.2.1⟩
def Cz(o:Ex->Ex)(q:Sh->(R:Type)->Option R->Option R)(p:Q2->Option Q3)(ops:Q1)(l:Q6)(a:aD)(g:yx->Option Q3):Int×Int×Int×Int×Int×Int×Int×(List Ex)->Option Q3:=λ⟨f,e,b,d,k,j,i,h⟩=> bif b==0 then (bp ops l f a e b d).bind λm=> bif !m.2 then some ((Ex.mk k j i h),f,e,b,d) else (aQ l f a e b d).bind λn=> (iX p l (i64.wrap (f+1)) a e b d).bind λc=> g (c.2.1,c.2.2.1,c.2.2.2.1,c.2.2.2.2,m.1,0,n.2.2.2,([(Ex.mk k j i h),(o c.1)]:List Ex)) else some ((Ex.mk k j i h),f,e,b,d)
def mh(e:Ex->Ex)(h:Sh->(R:Type)->Option R->Option R)(g:Q2->Option Q3)(ops:Q1)(l:Q6)(at_:Int)(b:aD)(d:Int)(f:Int)(c:Int):Option Q3:= (iX g l at_ b d f c).bind λa=> aw (Cz e h g ops l b) az (a.2.1,a.2.2.1,a.2.2.2.1,a.2.2.2.2,a.1.op,a.1.n,a.1.at_,a.1.l)
theorem Cm(a:cQ)(c:jd a):Ko (HC a):=
 aX (.l ⟨[(true,0,cD),(true,6,Hi),(true,7,L4)],[]⟩ .o) call214 func214 (aj (Fu a c) (aj cn (aj bO al))) al al λs=>(show _=mh bl aM a s.2.2.2.2.2.2 s.1 s.2.1 s.2.2.1 s.2.2.2.1 s.2.2.2.2.1 s.2.2.2.2.2.1 from by kernel_rfl).trans ((congrArg (λb=>mh b aM a s.2.2.2.2.2.2 s.1 s.2.1 s.2.2.1 s.2.2.2.1 s.2.2.2.2.1 s.2.2.2.2.2.1) aJ).trans ((congrArg (λd=>mh id d a s.2.2.2.2.2.2 s.1 s.2.1 s.2.2.1 s.2.2.2.1 s.2.2.2.2.1 s.2.2.2.2.2.1) aN).trans (by kernel_rfl)))
def Lf(a:cQ):aq:=⟨224,[iC],bG,[(true,0,cD)],λs=>jE a s.1 s.2.1 s.2.2.1 s.2.2.2.1 s.2.2.2.2.1 s.2.2.2.2.2⟩
def oK(e:Ex->Ex)(h:Sh->(R:Type)->Option R->Option R)(g:Q2->Option Q3)(l:Q6)(at_:Int)(c:aD)(d:Int)(f:Int)(b:Int):Option Q3:= (o9 g ([3,4]:x6) l at_ c d f b).bind λa=> some ((e a.1),a.2.1,a.2.2.1,a.2.2.2.1,a.2.2.2.2)
theorem G3(a:cQ)(c:jd a):Ko (Lf a):=
 aX .o call224 func224 (aj (Cm a c) al) al al λs=>(show _=oK bl aM a s.1 s.2.1 s.2.2.1 s.2.2.2.1 s.2.2.2.2.1 s.2.2.2.2.2 from by kernel_rfl).trans ((congrArg (λb=>oK b aM a s.1 s.2.1 s.2.2.1 s.2.2.2.1 s.2.2.2.2.1 s.2.2.2.2.2) aJ).trans ((congrArg (λd=>oK id d a s.1 s.2.1 s.2.2.1 s.2.2.2.1 s.2.2.2.2.1 s.2.2.2.2.2) aN).trans (by kernel_rfl)))
def LF(a:cQ):aq:=⟨223,[iC],bG,[(true,0,cD)],λs=>sB a s.1 s.2.1 s.2.2.1 s.2.2.2.1 s.2.2.2.2.1 s.2.2.2.2.2⟩
def oS(e:Ex->Ex)(o:Sh->(R:Type)->Option R->Option R)(n:Q2->Option Q3)(l:Q6)(at_:Int)(b:aD)(g:Int)(i:Int)(d:Int):Option Q3:= (jE n l at_ b g i d).bind λa=> (bp ([7,8,9,10,11,12]:x6) l a.2.1 b a.2.2.1 a.2.2.2.1 a.2.2.2.2).bind λf=> ai (a.2.2.2.1 != 0) λm=> ai (!f.2) λk=> ai (m||k) λj=> bif j then ( some ((e a.1),a.2.1,a.2.2.1,a.2.2.2.1,a.2.2.2.2)) else ( (aQ l a.2.1 b a.2.2.1 a.2.2.2.1 a.2.2.2.2).bind λh=> (jE n l (i64.wrap (a.2.1+1)) b a.2.2.1 a.2.2.2.1 a.2.2.2.2).bind λc=> some ((Ex.mk f.1 0 h.2.2.2 ([(e a.1),(e c.1)]:List Ex)),c.2.1,c.2.2.1,c.2.2.2.1,c.2.2.2.2))
theorem FX(a:cQ)(c:jd a):Ko (LF a):=
 aX .o call223 func223 (aj (G3 a c) (aj cn (aj bO al))) al al λs=>(show _=oS bl aM a s.1 s.2.1 s.2.2.1 s.2.2.2.1 s.2.2.2.2.1 s.2.2.2.2.2 from by kernel_rfl).trans ((congrArg (λb=>oS b aM a s.1 s.2.1 s.2.2.1 s.2.2.2.1 s.2.2.2.2.1 s.2.2.2.2.2) aJ).trans ((congrArg (λd=>oS id d a s.1 s.2.1 s.2.2.1 s.2.2.2.1 s.2.2.2.2.1 s.2.2.2.2.2) aN).trans (by kernel_rfl)))
def Gq(a:cQ)(b:Uj):aq:=⟨222,[iC,MY,(.fn 223 [] []),aS],bG,[(true,0,cD)],λs=>np a b s.2.2.2.2.2.2 s.1 s.2.1 s.2.2.1 s.2.2.2.1 s.2.2.2.2.1 s.2.2.2.2.2.1⟩
def lJ(h:Ex->Ex)(m:Sh->(R:Type)->Option R->Option R)(k:Q2->Option Q3)(j:Q2->Option Q3)(ops:Q1)(l:Q6)(at_:Int)(b:aD)(c:Int)(f:Int)(a:Int):Option Q3:= (bp ops l at_ b c f a).bind λg=> bif !g.2 then (sB k l at_ b c f a).bind λe=> some ((h e.1),e.2.1,e.2.2.1,e.2.2.2.1,e.2.2.2.2) else (aQ l at_ b c f a).bind λi=> (j (l,(i64.wrap (at_+1)),b,c,f,a)).bind λd=> some ((Ex.mk g.1 0 i.2.2.2 ([(h d.1)]:List Ex)),d.2.1,d.2.2.1,d.2.2.2.1,d.2.2.2.2)
theorem Bd(a:cQ)(e:jd a)(b:Uj)(f:OK1 b):Ko (Gq a b):=
 aX (.c .o (.r [0,8] .o)) call222 func222 (aj cn (aj (FX a e) (aj bO (aj f al)))) al al λs=>(show _=lJ bl aM a b s.2.2.2.2.2.2 s.1 s.2.1 s.2.2.1 s.2.2.2.1 s.2.2.2.2.1 s.2.2.2.2.2.1 from by kernel_rfl).trans ((congrArg (λd=>lJ d aM a b s.2.2.2.2.2.2 s.1 s.2.1 s.2.2.1 s.2.2.2.1 s.2.2.2.2.1 s.2.2.2.2.2.1) aJ).trans ((congrArg (λg=>lJ id g a b s.2.2.2.2.2.2 s.1 s.2.1 s.2.2.1 s.2.2.2.1 s.2.2.2.2.1 s.2.2.2.2.2.1) aN).trans (by kernel_rfl)))
def Ke(a:cQ)(b:Uj):aq:=⟨221,[iC],bG,[(true,0,cD)],λs=>sa a b s.1 s.2.1 s.2.2.1 s.2.2.2.1 s.2.2.2.2.1 s.2.2.2.2.2⟩
def oB(e:Ex->Ex)(i:Sh->(R:Type)->Option R->Option R)(h:Q2->Option Q3)(g:Q2->Option Q3)(l:Q6)(at_:Int)(c:aD)(d:Int)(f:Int)(b:Int):Option Q3:= (np h g ([15,20,21,22]:x6) l at_ c d f b).bind λa=> some ((e a.1),a.2.1,a.2.2.1,a.2.2.2.1,a.2.2.2.2)
theorem G7(a:cQ)(d:jd a)(b:Uj)(e:OK1 b):Ko (Ke a b):=
 aX .o call221 func221 (aj (Bd a d b e) al) al al λs=>(show _=oB bl aM a b s.1 s.2.1 s.2.2.1 s.2.2.2.1 s.2.2.2.2.1 s.2.2.2.2.2 from by kernel_rfl).trans ((congrArg (λc=>oB c aM a b s.1 s.2.1 s.2.2.1 s.2.2.2.1 s.2.2.2.2.1 s.2.2.2.2.2) aJ).trans ((congrArg (λf=>oB id f a b s.1 s.2.1 s.2.2.1 s.2.2.2.1 s.2.2.2.2.1 s.2.2.2.2.2) aN).trans (by kernel_rfl)))
def sS(a:cQ):aq:=⟨91,[iC,MY],bG,[(true,0,cD)],λs=>ny a s.1 s.2.1 s.2.2.1 s.2.2.2.1 s.2.2.2.2.1 s.2.2.2.2.2⟩
def jV(f:Ex->Ex)(j:Sh->(R:Type)->Option R->Option R)(i:Q2->Option Q3)(h:Q2->Option Q3)(l:Q6)(at_:Int)(d:aD)(a:Int)(g:Int)(c:Int):Option Q3:= bif decide (320<=a) then (bH 9 l at_ d a g c).bind λe=> some ((f e.1),at_,a,e.2.1,e.2.2) else (sa i h l at_ d (i64.wrap (a+1)) g c).bind λb=> some ((f b.1),b.2.1,(i64.wrap (b.2.2.1-1)),b.2.2.2.1,b.2.2.2.2)
def sU(a:cQ):Uj->Uj:=λb s=>tn a b s.1 s.2.1 s.2.2.1 s.2.2.2.1 s.2.2.2.2.1 s.2.2.2.2.2
theorem yg(a:cQ)(d:jd a)(b:Uj)(e:OK1 b):(ie (sU a b)).Ok X0.P X0.Γ:=
 aX .o call91 func91 (aj dW (aj (G7 a d b e) al)) al al λs=>(show _=jV bl aM a b s.1 s.2.1 s.2.2.1 s.2.2.2.1 s.2.2.2.2.1 s.2.2.2.2.2 from by kernel_rfl).trans ((congrArg (λc=>jV c aM a b s.1 s.2.1 s.2.2.1 s.2.2.2.1 s.2.2.2.2.1 s.2.2.2.2.2) aJ).trans ((congrArg (λf=>jV id f a b s.1 s.2.1 s.2.2.1 s.2.2.2.1 s.2.2.2.2.1 s.2.2.2.2.2) aN).trans (by kernel_rfl)))
theorem Bm(a:cQ)(b:jd a):Ko (sS a):=(show sS a=ie (aw (sU a) az) by kernel_rfl)▸dN (X:=X0) (E:=ie) ⟨call91,λ_ _ h=>nomatch h⟩ (yg a b) az
def Fo(a:cQ):aq:=⟨220,[iC],bG,[(true,0,cD)],λs=>ml a s.1 s.2.1 s.2.2.1 s.2.2.2.1 s.2.2.2.2.1 s.2.2.2.2.2⟩
def kK(e:Ex->Ex)(h:Sh->(R:Type)->Option R->Option R)(g:Q2->Option Q3)(l:Q6)(at_:Int)(c:aD)(d:Int)(f:Int)(b:Int):Option Q3:= (ny g l at_ c d f b).bind λa=> some ((e a.1),a.2.1,a.2.2.1,a.2.2.2.1,a.2.2.2.2)
theorem Af(a:cQ)(c:jd a):Ko (Fo a):=
 aX .o call220 func220 (aj (Bm a c) al) al al λs=>(show _=kK bl aM a s.1 s.2.1 s.2.2.1 s.2.2.2.1 s.2.2.2.2.1 s.2.2.2.2.2 from by kernel_rfl).trans ((congrArg (λb=>kK b aM a s.1 s.2.1 s.2.2.1 s.2.2.2.1 s.2.2.2.2.1 s.2.2.2.2.2) aJ).trans ((congrArg (λd=>kK id d a s.1 s.2.1 s.2.2.1 s.2.2.2.1 s.2.2.2.2.1 s.2.2.2.2.2) aN).trans (by kernel_rfl)))
def Hz(a:cQ)(b:SG):aq:=⟨137,[iC,(.fn 220 [] []),Nq,aS],bG,[(true,0,cD)],λs=>oW a b s.2.2.2.2.2.2 s.1 s.2.1 s.2.2.1 s.2.2.2.1 s.2.2.2.2.1 s.2.2.2.2.2.1⟩
def mM(e:Ex->Ex)(p:Sh->(R:Type)->Option R->Option R)(o:Q2->Option Q3)(n:Q2->Option Q3)(ops:Q1)(l:Q6)(at_:Int)(b:aD)(g:Int)(i:Int)(d:Int):Option Q3:= (ml o l at_ b g i d).bind λa=> (bp ops l a.2.1 b a.2.2.1 a.2.2.2.1 a.2.2.2.2).bind λf=> ai (a.2.2.2.1 != 0) λm=> ai (!f.2) λk=> ai (m||k) λj=> bif j then ( some ((e a.1),a.2.1,a.2.2.1,a.2.2.2.1,a.2.2.2.2)) else ( (aQ l a.2.1 b a.2.2.1 a.2.2.2.1 a.2.2.2.2).bind λh=> (n (l,(i64.wrap (a.2.1+1)),b,a.2.2.1,a.2.2.2.1,a.2.2.2.2)).bind λc=> some ((Ex.mk f.1 0 h.2.2.2 ([(e a.1),(e c.1)]:List Ex)),c.2.1,c.2.2.1,c.2.2.2.1,c.2.2.2.2))
theorem Cv(a:cQ)(d:jd a)(b:SG)(e:OK2 b):Ko (Hz a b):=
 aX .o call137 func137 (aj (Af a d) (aj cn (aj bO (aj e al)))) al al λs=>(show _=mM bl aM a b s.2.2.2.2.2.2 s.1 s.2.1 s.2.2.1 s.2.2.2.1 s.2.2.2.2.1 s.2.2.2.2.2.1 from by kernel_rfl).trans ((congrArg (λc=>mM c aM a b s.2.2.2.2.2.2 s.1 s.2.1 s.2.2.1 s.2.2.2.1 s.2.2.2.2.1 s.2.2.2.2.2.1) aJ).trans ((congrArg (λf=>mM id f a b s.2.2.2.2.2.2 s.1 s.2.1 s.2.2.1 s.2.2.2.1 s.2.2.2.2.1 s.2.2.2.2.2.1) aN).trans (by kernel_rfl)))
def HS(a:cQ)(b:SG):aq:=⟨219,[iC],bG,[(true,0,cD)],λs=>oV a b s.1 s.2.1 s.2.2.1 s.2.2.2.1 s.2.2.2.2.1 s.2.2.2.2.2⟩
def mF(e:Ex->Ex)(i:Sh->(R:Type)->Option R->Option R)(h:Q2->Option Q3)(g:Q2->Option Q3)(l:Q6)(at_:Int)(c:aD)(d:Int)(f:Int)(b:Int):Option Q3:= (oW h g ([23,24]:x6) l at_ c d f b).bind λa=> some ((e a.1),a.2.1,a.2.2.1,a.2.2.2.1,a.2.2.2.2)
theorem Cy(a:cQ)(d:jd a)(b:SG)(e:OK2 b):Ko (HS a b):=
 aX .o call219 func219 (aj (Cv a d b e) al) al al λs=>(show _=mF bl aM a b s.1 s.2.1 s.2.2.1 s.2.2.2.1 s.2.2.2.2.1 s.2.2.2.2.2 from by kernel_rfl).trans ((congrArg (λc=>mF c aM a b s.1 s.2.1 s.2.2.1 s.2.2.2.1 s.2.2.2.2.1 s.2.2.2.2.2) aJ).trans ((congrArg (λf=>mF id f a b s.1 s.2.1 s.2.2.1 s.2.2.2.1 s.2.2.2.2.1 s.2.2.2.2.2) aN).trans (by kernel_rfl)))
def s6(a:cQ):aq:=⟨91,[iC,Nq],bG,[(true,0,cD)],λs=>nB a s.1 s.2.1 s.2.2.1 s.2.2.2.1 s.2.2.2.2.1 s.2.2.2.2.2⟩
def jZ(f:Ex->Ex)(j:Sh->(R:Type)->Option R->Option R)(i:Q2->Option Q3)(h:Q2->Option Q3)(l:Q6)(at_:Int)(d:aD)(a:Int)(g:Int)(c:Int):Option Q3:= bif decide (320<=a) then (bH 9 l at_ d a g c).bind λe=> some ((f e.1),at_,a,e.2.1,e.2.2) else (oV i h l at_ d (i64.wrap (a+1)) g c).bind λb=> some ((f b.1),b.2.1,(i64.wrap (b.2.2.1-1)),b.2.2.2.1,b.2.2.2.2)
def s4(a:cQ):SG->SG:=λb s=>sW a b s.1 s.2.1 s.2.2.1 s.2.2.2.1 s.2.2.2.2.1 s.2.2.2.2.2
theorem yd(a:cQ)(d:jd a)(b:SG)(e:OK2 b):(ik (s4 a b)).Ok X0.P X0.Γ:=
 aX .o call91 func91 (aj dW (aj (Cy a d b e) al)) al al λs=>(show _=jZ bl aM a b s.1 s.2.1 s.2.2.1 s.2.2.2.1 s.2.2.2.2.1 s.2.2.2.2.2 from by kernel_rfl).trans ((congrArg (λc=>jZ c aM a b s.1 s.2.1 s.2.2.1 s.2.2.2.1 s.2.2.2.2.1 s.2.2.2.2.2) aJ).trans ((congrArg (λf=>jZ id f a b s.1 s.2.1 s.2.2.1 s.2.2.2.1 s.2.2.2.2.1 s.2.2.2.2.2) aN).trans (by kernel_rfl)))
theorem A0(a:cQ)(b:jd a):Ko (s6 a):=(show s6 a=ik (aw (s4 a) az) by kernel_rfl)▸dN (X:=X0) (E:=ik) ⟨call91,λ_ _ h=>nomatch h⟩ (yd a b) az
def BJ(a:cQ):aq:=⟨218,[iC],bG,[(true,0,cD)],λs=>fu a s.1 s.2.1 s.2.2.1 s.2.2.2.1 s.2.2.2.2.1 s.2.2.2.2.2⟩
def jJ(e:Ex->Ex)(h:Sh->(R:Type)->Option R->Option R)(g:Q2->Option Q3)(l:Q6)(at_:Int)(c:aD)(d:Int)(f:Int)(b:Int):Option Q3:= (nB g l at_ c d f b).bind λa=> some ((e a.1),a.2.1,a.2.2.1,a.2.2.2.1,a.2.2.2.2)
theorem xC(a:cQ)(c:jd a):Ko (BJ a):=
 aX .o call218 func218 (aj (A0 a c) al) al al λs=>(show _=jJ bl aM a s.1 s.2.1 s.2.2.1 s.2.2.2.1 s.2.2.2.2.1 s.2.2.2.2.2 from by kernel_rfl).trans ((congrArg (λb=>jJ b aM a s.1 s.2.1 s.2.2.1 s.2.2.2.1 s.2.2.2.2.1 s.2.2.2.2.2) aJ).trans ((congrArg (λd=>jJ id d a s.1 s.2.1 s.2.2.1 s.2.2.2.1 s.2.2.2.2.1 s.2.2.2.2.2) aN).trans (by kernel_rfl)))
def IN(a:cQ):aq:=⟨214,[iC,(.fn 218 [] []),aS],bG,[(true,0,cD)],λs=>oF a s.2.2.2.2.2.2 s.1 s.2.1 s.2.2.1 s.2.2.2.1 s.2.2.2.2.1 s.2.2.2.2.2.1⟩
def CC(o:Ex->Ex)(q:Sh->(R:Type)->Option R->Option R)(p:Q2->Option Q3)(ops:Q1)(l:Q6)(a:aD)(g:yx->Option Q3):Int×Int×Int×Int×Int×Int×Int×(List Ex)->Option Q3:=λ⟨f,e,b,d,k,j,i,h⟩=> bif b==0 then (bp ops l f a e b d).bind λm=> bif !m.2 then some ((Ex.mk k j i h),f,e,b,d) else (aQ l f a e b d).bind λn=> (fu p l (i64.wrap (f+1)) a e b d).bind λc=> g (c.2.1,c.2.2.1,c.2.2.2.1,c.2.2.2.2,m.1,0,n.2.2.2,([(Ex.mk k j i h),(o c.1)]:List Ex)) else some ((Ex.mk k j i h),f,e,b,d)
def mw(e:Ex->Ex)(h:Sh->(R:Type)->Option R->Option R)(g:Q2->Option Q3)(ops:Q1)(l:Q6)(at_:Int)(b:aD)(d:Int)(f:Int)(c:Int):Option Q3:= (fu g l at_ b d f c).bind λa=> aw (CC e h g ops l b) az (a.2.1,a.2.2.1,a.2.2.2.1,a.2.2.2.2,a.1.op,a.1.n,a.1.at_,a.1.l)
theorem CS(a:cQ)(c:jd a):Ko (IN a):=
 aX (.l ⟨[(true,0,cD),(true,6,Hi),(true,7,L4)],[]⟩ .o) call214 func214 (aj (xC a c) (aj cn (aj bO al))) al al λs=>(show _=mw bl aM a s.2.2.2.2.2.2 s.1 s.2.1 s.2.2.1 s.2.2.2.1 s.2.2.2.2.1 s.2.2.2.2.2.1 from by kernel_rfl).trans ((congrArg (λb=>mw b aM a s.2.2.2.2.2.2 s.1 s.2.1 s.2.2.1 s.2.2.2.1 s.2.2.2.2.1 s.2.2.2.2.2.1) aJ).trans ((congrArg (λd=>mw id d a s.2.2.2.2.2.2 s.1 s.2.1 s.2.2.1 s.2.2.2.1 s.2.2.2.2.1 s.2.2.2.2.2.1) aN).trans (by kernel_rfl)))
def LA(a:cQ):aq:=⟨215,[iC],bG,[(true,0,cD)],λs=>jH a s.1 s.2.1 s.2.2.1 s.2.2.2.1 s.2.2.2.2.1 s.2.2.2.2.2⟩
def oI(e:Ex->Ex)(h:Sh->(R:Type)->Option R->Option R)(g:Q2->Option Q3)(l:Q6)(at_:Int)(c:aD)(d:Int)(f:Int)(b:Int):Option Q3:= (oF g ([16]:x6) l at_ c d f b).bind λa=> some ((e a.1),a.2.1,a.2.2.1,a.2.2.2.1,a.2.2.2.2)
theorem FG(a:cQ)(c:jd a):Ko (LA a):=
 aX .o call215 func215 (aj (CS a c) al) al al λs=>(show _=oI bl aM a s.1 s.2.1 s.2.2.1 s.2.2.2.1 s.2.2.2.2.1 s.2.2.2.2.2 from by kernel_rfl).trans ((congrArg (λb=>oI b aM a s.1 s.2.1 s.2.2.1 s.2.2.2.1 s.2.2.2.2.1 s.2.2.2.2.2) aJ).trans ((congrArg (λd=>oI id d a s.1 s.2.1 s.2.2.1 s.2.2.2.1 s.2.2.2.2.1 s.2.2.2.2.2) aN).trans (by kernel_rfl)))
def JC(a:cQ):aq:=⟨214,[iC,(.fn 215 [] []),aS],bG,[(true,0,cD)],λs=>p6 a s.2.2.2.2.2.2 s.1 s.2.1 s.2.2.1 s.2.2.2.1 s.2.2.2.2.1 s.2.2.2.2.2.1⟩
def EU(o:Ex->Ex)(q:Sh->(R:Type)->Option R->Option R)(p:Q2->Option Q3)(ops:Q1)(l:Q6)(a:aD)(g:yx->Option Q3):Int×Int×Int×Int×Int×Int×Int×(List Ex)->Option Q3:=λ⟨f,e,b,d,k,j,i,h⟩=> bif b==0 then (bp ops l f a e b d).bind λm=> bif !m.2 then some ((Ex.mk k j i h),f,e,b,d) else (aQ l f a e b d).bind λn=> (jH p l (i64.wrap (f+1)) a e b d).bind λc=> g (c.2.1,c.2.2.1,c.2.2.2.1,c.2.2.2.2,m.1,0,n.2.2.2,([(Ex.mk k j i h),(o c.1)]:List Ex)) else some ((Ex.mk k j i h),f,e,b,d)
def nP(e:Ex->Ex)(h:Sh->(R:Type)->Option R->Option R)(g:Q2->Option Q3)(ops:Q1)(l:Q6)(at_:Int)(b:aD)(d:Int)(f:Int)(c:Int):Option Q3:= (jH g l at_ b d f c).bind λa=> aw (EU e h g ops l b) az (a.2.1,a.2.2.1,a.2.2.2.1,a.2.2.2.2,a.1.op,a.1.n,a.1.at_,a.1.l)
theorem Ff(a:cQ)(c:jd a):Ko (JC a):=
 aX (.l ⟨[(true,0,cD),(true,6,Hi),(true,7,L4)],[]⟩ .o) call214 func214 (aj (FG a c) (aj cn (aj bO al))) al al λs=>(show _=nP bl aM a s.2.2.2.2.2.2 s.1 s.2.1 s.2.2.1 s.2.2.2.1 s.2.2.2.2.1 s.2.2.2.2.2.1 from by kernel_rfl).trans ((congrArg (λb=>nP b aM a s.2.2.2.2.2.2 s.1 s.2.1 s.2.2.1 s.2.2.2.1 s.2.2.2.2.1 s.2.2.2.2.2.1) aJ).trans ((congrArg (λd=>nP id d a s.2.2.2.2.2.2 s.1 s.2.1 s.2.2.1 s.2.2.2.1 s.2.2.2.2.1 s.2.2.2.2.2.1) aN).trans (by kernel_rfl)))
def Oe(a:cQ):aq:=⟨206,[iC],bG,[(true,0,cD)],λs=>tU a s.1 s.2.1 s.2.2.1 s.2.2.2.1 s.2.2.2.2.1 s.2.2.2.2.2⟩
def rh(e:Ex->Ex)(h:Sh->(R:Type)->Option R->Option R)(g:Q2->Option Q3)(l:Q6)(at_:Int)(c:aD)(d:Int)(f:Int)(b:Int):Option Q3:= (p6 g ([17]:x6) l at_ c d f b).bind λa=> some ((e a.1),a.2.1,a.2.2.1,a.2.2.2.1,a.2.2.2.2)
theorem Ij(a:cQ)(c:jd a):Ko (Oe a):=
 aX .o call206 func206 (aj (Ff a c) al) al al λs=>(show _=rh bl aM a s.1 s.2.1 s.2.2.1 s.2.2.2.1 s.2.2.2.2.1 s.2.2.2.2.2 from by kernel_rfl).trans ((congrArg (λb=>rh b aM a s.1 s.2.1 s.2.2.1 s.2.2.2.1 s.2.2.2.2.1 s.2.2.2.2.2) aJ).trans ((congrArg (λd=>rh id d a s.1 s.2.1 s.2.2.1 s.2.2.2.1 s.2.2.2.2.1 s.2.2.2.2.2) aN).trans (by kernel_rfl)))
def HY(a:cQ)(b:Sk):aq:=⟨137,[iC,(.fn 206 [] []),Np,aS],bG,[(true,0,cD)],λs=>ot a b s.2.2.2.2.2.2 s.1 s.2.1 s.2.2.1 s.2.2.2.1 s.2.2.2.2.1 s.2.2.2.2.2.1⟩
def mE(e:Ex->Ex)(p:Sh->(R:Type)->Option R->Option R)(o:Q2->Option Q3)(n:Q2->Option Q3)(ops:Q1)(l:Q6)(at_:Int)(b:aD)(g:Int)(i:Int)(d:Int):Option Q3:= (tU o l at_ b g i d).bind λa=> (bp ops l a.2.1 b a.2.2.1 a.2.2.2.1 a.2.2.2.2).bind λf=> ai (a.2.2.2.1 != 0) λm=> ai (!f.2) λk=> ai (m||k) λj=> bif j then ( some ((e a.1),a.2.1,a.2.2.1,a.2.2.2.1,a.2.2.2.2)) else ( (aQ l a.2.1 b a.2.2.1 a.2.2.2.1 a.2.2.2.2).bind λh=> (n (l,(i64.wrap (a.2.1+1)),b,a.2.2.1,a.2.2.2.1,a.2.2.2.2)).bind λc=> some ((Ex.mk f.1 0 h.2.2.2 ([(e a.1),(e c.1)]:List Ex)),c.2.1,c.2.2.1,c.2.2.2.1,c.2.2.2.2))
theorem Cn(a:cQ)(d:jd a)(b:Sk)(e:OK3 b):Ko (HY a b):=
 aX .o call137 func137 (aj (Ij a d) (aj cn (aj bO (aj e al)))) al al λs=>(show _=mE bl aM a b s.2.2.2.2.2.2 s.1 s.2.1 s.2.2.1 s.2.2.2.1 s.2.2.2.2.1 s.2.2.2.2.2.1 from by kernel_rfl).trans ((congrArg (λc=>mE c aM a b s.2.2.2.2.2.2 s.1 s.2.1 s.2.2.1 s.2.2.2.1 s.2.2.2.2.1 s.2.2.2.2.2.1) aJ).trans ((congrArg (λf=>mE id f a b s.2.2.2.2.2.2 s.1 s.2.1 s.2.2.1 s.2.2.2.1 s.2.2.2.2.1 s.2.2.2.2.2.1) aN).trans (by kernel_rfl)))
def Mo(a:cQ)(b:Sk):aq:=⟨184,[iC],bG,[(true,0,cD)],λs=>sk a b s.1 s.2.1 s.2.2.1 s.2.2.2.1 s.2.2.2.2.1 s.2.2.2.2.2⟩
def pg(e:Ex->Ex)(i:Sh->(R:Type)->Option R->Option R)(h:Q2->Option Q3)(g:Q2->Option Q3)(l:Q6)(at_:Int)(c:aD)(d:Int)(f:Int)(b:Int):Option Q3:= (ot h g ([18]:x6) l at_ c d f b).bind λa=> some ((e a.1),a.2.1,a.2.2.1,a.2.2.2.1,a.2.2.2.2)
theorem GI(a:cQ)(d:jd a)(b:Sk)(e:OK3 b):Ko (Mo a b):=
 aX .o call184 func184 (aj (Cn a d b e) al) al al λs=>(show _=pg bl aM a b s.1 s.2.1 s.2.2.1 s.2.2.2.1 s.2.2.2.2.1 s.2.2.2.2.2 from by kernel_rfl).trans ((congrArg (λc=>pg c aM a b s.1 s.2.1 s.2.2.1 s.2.2.2.1 s.2.2.2.2.1 s.2.2.2.2.2) aJ).trans ((congrArg (λf=>pg id f a b s.1 s.2.1 s.2.2.1 s.2.2.2.1 s.2.2.2.2.1 s.2.2.2.2.2) aN).trans (by kernel_rfl)))
def s9(a:cQ):aq:=⟨91,[iC,Np],bG,[(true,0,cD)],λs=>nO a s.1 s.2.1 s.2.2.1 s.2.2.2.1 s.2.2.2.2.1 s.2.2.2.2.2⟩
def j3(f:Ex->Ex)(j:Sh->(R:Type)->Option R->Option R)(i:Q2->Option Q3)(h:Q2->Option Q3)(l:Q6)(at_:Int)(d:aD)(a:Int)(g:Int)(c:Int):Option Q3:= bif decide (320<=a) then (bH 9 l at_ d a g c).bind λe=> some ((f e.1),at_,a,e.2.1,e.2.2) else (sk i h l at_ d (i64.wrap (a+1)) g c).bind λb=> some ((f b.1),b.2.1,(i64.wrap (b.2.2.1-1)),b.2.2.2.1,b.2.2.2.2)
def tg(a:cQ):Sk->Sk:=λb s=>s7 a b s.1 s.2.1 s.2.2.1 s.2.2.2.1 s.2.2.2.2.1 s.2.2.2.2.2
theorem xN(a:cQ)(d:jd a)(b:Sk)(e:OK3 b):(ig (tg a b)).Ok X0.P X0.Γ:=
 aX .o call91 func91 (aj dW (aj (GI a d b e) al)) al al λs=>(show _=j3 bl aM a b s.1 s.2.1 s.2.2.1 s.2.2.2.1 s.2.2.2.2.1 s.2.2.2.2.2 from by kernel_rfl).trans ((congrArg (λc=>j3 c aM a b s.1 s.2.1 s.2.2.1 s.2.2.2.1 s.2.2.2.2.1 s.2.2.2.2.2) aJ).trans ((congrArg (λf=>j3 id f a b s.1 s.2.1 s.2.2.1 s.2.2.2.1 s.2.2.2.2.1 s.2.2.2.2.2) aN).trans (by kernel_rfl)))
theorem B0(a:cQ)(b:jd a):Ko (s9 a):=(show s9 a=ig (aw (tg a) az) by kernel_rfl)▸dN (X:=X0) (E:=ig) ⟨call91,λ_ _ h=>nomatch h⟩ (xN a b) az
def Fi(a:cQ):aq:=⟨138,[iC],bG,[(true,0,cD)],λs=>mg a s.1 s.2.1 s.2.2.1 s.2.2.2.1 s.2.2.2.2.1 s.2.2.2.2.2⟩
def kH(e:Ex->Ex)(h:Sh->(R:Type)->Option R->Option R)(g:Q2->Option Q3)(l:Q6)(at_:Int)(c:aD)(d:Int)(f:Int)(b:Int):Option Q3:= (nO g l at_ c d f b).bind λa=> some ((e a.1),a.2.1,a.2.2.1,a.2.2.2.1,a.2.2.2.2)
theorem Al(a:cQ)(c:jd a):Ko (Fi a):=
 aX .o call138 func138 (aj (B0 a c) al) al al λs=>(show _=kH bl aM a s.1 s.2.1 s.2.2.1 s.2.2.2.1 s.2.2.2.2.1 s.2.2.2.2.2 from by kernel_rfl).trans ((congrArg (λb=>kH b aM a s.1 s.2.1 s.2.2.1 s.2.2.2.1 s.2.2.2.2.1 s.2.2.2.2.2) aJ).trans ((congrArg (λd=>kH id d a s.1 s.2.1 s.2.2.1 s.2.2.2.1 s.2.2.2.2.1 s.2.2.2.2.2) aN).trans (by kernel_rfl)))
def Iz(a:cQ):aq:=⟨137,[iC,(.fn 138 [] []),(.fn 92 [] []),aS],bG,[(true,0,cD)],λs=>oG a s.2.2.2.2.2.2 s.1 s.2.1 s.2.2.1 s.2.2.2.1 s.2.2.2.2.1 s.2.2.2.2.2.1⟩
def mB(e:Ex->Ex)(o:Sh->(R:Type)->Option R->Option R)(n:Q2->Option Q3)(ops:Q1)(l:Q6)(at_:Int)(b:aD)(g:Int)(i:Int)(d:Int):Option Q3:= (mg n l at_ b g i d).bind λa=> (bp ops l a.2.1 b a.2.2.1 a.2.2.2.1 a.2.2.2.2).bind λf=> ai (a.2.2.2.1 != 0) λm=> ai (!f.2) λk=> ai (m||k) λj=> bif j then ( some ((e a.1),a.2.1,a.2.2.1,a.2.2.2.1,a.2.2.2.2)) else ( (aQ l a.2.1 b a.2.2.1 a.2.2.2.1 a.2.2.2.2).bind λh=> (n (l,(i64.wrap (a.2.1+1)),b,a.2.2.1,a.2.2.2.1,a.2.2.2.2)).bind λc=> some ((Ex.mk f.1 0 h.2.2.2 ([(e a.1),(e c.1)]:List Ex)),c.2.1,c.2.2.1,c.2.2.2.1,c.2.2.2.2))
theorem CF(a:cQ)(c:jd a):Ko (Iz a):=
 aX .o call137 func137 (aj (Al a c) (aj cn (aj bO (aj c al)))) al al λs=>(show _=mB bl aM a s.2.2.2.2.2.2 s.1 s.2.1 s.2.2.1 s.2.2.2.1 s.2.2.2.2.1 s.2.2.2.2.2.1 from by kernel_rfl).trans ((congrArg (λb=>mB b aM a s.2.2.2.2.2.2 s.1 s.2.1 s.2.2.1 s.2.2.2.1 s.2.2.2.2.1 s.2.2.2.2.2.1) aJ).trans ((congrArg (λd=>mB id d a s.2.2.2.2.2.2 s.1 s.2.1 s.2.2.1 s.2.2.2.1 s.2.2.2.2.1 s.2.2.2.2.2.1) aN).trans (by kernel_rfl)))
def Ku(a:cQ):aq:=⟨92,[iC],bG,[(true,0,cD)],λs=>rW a s.1 s.2.1 s.2.2.1 s.2.2.2.1 s.2.2.2.2.1 s.2.2.2.2.2⟩
def oZ(e:Ex->Ex)(h:Sh->(R:Type)->Option R->Option R)(g:Q2->Option Q3)(l:Q6)(at_:Int)(c:aD)(d:Int)(f:Int)(b:Int):Option Q3:= (oG g ([19]:x6) l at_ c d f b).bind λa=> some ((e a.1),a.2.1,a.2.2.1,a.2.2.2.1,a.2.2.2.2)
theorem GJ(a:cQ)(c:jd a):Ko (Ku a):=
 aX .o call92 func92 (aj (CF a c) al) al al λs=>(show _=oZ bl aM a s.1 s.2.1 s.2.2.1 s.2.2.2.1 s.2.2.2.2.1 s.2.2.2.2.2 from by kernel_rfl).trans ((congrArg (λb=>oZ b aM a s.1 s.2.1 s.2.2.1 s.2.2.2.1 s.2.2.2.2.1 s.2.2.2.2.2) aJ).trans ((congrArg (λd=>oZ id d a s.1 s.2.1 s.2.2.1 s.2.2.2.1 s.2.2.2.2.1 s.2.2.2.2.2) aN).trans (by kernel_rfl)))
def tl:aq:=⟨91,[iC,(.fn 92 [] [])],bG,[(true,0,cD)],U6 nN⟩
def jU(f:Ex->Ex)(i:Sh->(R:Type)->Option R->Option R)(h:Q2->Option Q3)(l:Q6)(at_:Int)(d:aD)(a:Int)(g:Int)(c:Int):Option Q3:= bif decide (320<=a) then (bH 9 l at_ d a g c).bind λe=> some ((f e.1),at_,a,e.2.1,e.2.2) else (rW h l at_ d (i64.wrap (a+1)) g c).bind λb=> some ((f b.1),b.2.1,(i64.wrap (b.2.2.1-1)),b.2.2.2.1,b.2.2.2.2)
def sQ:cQ->cQ:=λa s=>sZ a s.1 s.2.1 s.2.2.1 s.2.2.2.1 s.2.2.2.2.1 s.2.2.2.2.2
theorem xZ(a:cQ)(c:jd a):(im (sQ a)).Ok X0.P X0.Γ:=
 aX .o call91 func91 (aj dW (aj (GJ a c) al)) al al λs=>(show _=jU bl aM a s.1 s.2.1 s.2.2.1 s.2.2.2.1 s.2.2.2.2.1 s.2.2.2.2.2 from by kernel_rfl).trans ((congrArg (λb=>jU b aM a s.1 s.2.1 s.2.2.1 s.2.2.2.1 s.2.2.2.2.1 s.2.2.2.2.2) aJ).trans ((congrArg (λd=>jU id d a s.1 s.2.1 s.2.2.1 s.2.2.2.1 s.2.2.2.2.1 s.2.2.2.2.2) aN).trans (by kernel_rfl)))
theorem Bb:Ko tl:=(show tl=im (aw (sQ) az) by kernel_rfl)▸dN (X:=X0) (E:=im) ⟨call91,λ_ _ h=>nomatch h⟩ (xZ) az
def VF:aq:=⟨58,[Hr,an,AU],(.cG [bG,an,an,an]),[],U3 yn⟩
def ve(c:Ex->Ex)(d:Sh->(R:Type)->Option R->Option R)(l:Q6)(at_:Int)(b:aD):Option Pj:= (nN l at_ b 0 0 0).bind λa=> bif a.2.2.2.1 != 0 then some ((Ex.mk 0 0 0 []),0,a.2.2.2.1,a.2.2.2.2) else some ((c a.1),a.2.1,0,0)
theorem Lh:Ko VF:=
 aX (.c (.r [6] .o) (.r [6] .o)) call58 func58 (aj Bb al) al al λs=>(show _=ve bl aM s.1 s.2.1 s.2.2 from by kernel_rfl).trans ((congrArg (λa=>ve a aM s.1 s.2.1 s.2.2) aJ).trans ((congrArg (λb=>ve id b s.1 s.2.1 s.2.2) aN).trans (by kernel_rfl)))
def OL:aq:=⟨59,[fF],(.cG [an,an,an]),[],λs=>kD s⟩
def WV(k:Ex->Ex)(D:Sh->(R:Type)->Option R->Option R)(C:Ex->Option nU)(e:Ex)(g:Q62->Option nU):Bool×Bool×Bool×Int->Option nU:=λ⟨b,d,a,h⟩=> bif decide (h<(List.length e.l:Int)) then (idx e.l h).bind λm=> (C (k m)).bind λf=> bif f.2.1 != 0 then some (0,f.2.1,f.2.2) else ai (f.1==1) λB=> ai (b&&B) λA=> ai (f.1==2) λz=> ai (d&&z) λy=> ai (f.1 != 1) λx=> ai (a&&x) λw=> g (A,y,w,(i64.wrap (h+1))) else ai (decide (e.op<=6)) λv=> ai (v&&b) λu=> bif u then ( some (1,0,0)) else ( ai (λ(j:Bool)=>My e a j) λc=> ai (decide (6<e.op)) λt=> ai (decide (e.op<=12)) λs=> ai (t&&s) λr=> ai (r&&b) λi=> bif i then ( c i) else ( bif e.op==13 then c (e.op==13) else bif e.op==14 then c (e.op==14) else ai (decide (15<=e.op)) λq=> ai (decide (e.op<=19)) λp=> ai (q&&p) λo=> ai (o&&d) λn=> c n))
def yt(a:Ex->Ex)(c:Sh->(R:Type)->Option R->Option R)(b:Ex->Option nU)(e:Ex):Option nU:= aw (WV a c b e) az (true,true,true,0)
def OQ:TK5->TK5:=λa s=>OB a s
theorem Qc(a:TK5)(d:OK5 a):(uf (OQ a)).Ok X0.P X0.Γ:=
 aX (.l ⟨[(false,5,.bool),(false,6,.bool),(false,7,.bool),(false,16,an)],[]⟩ (.c .o (.c .o (.j ⟨[(false,53,.bool)],[]⟩ .o .o)))) call59 func59 (aj d al) al al λs=>(show _=yt bl aM a s from by kernel_rfl).trans ((congrArg (λb=>yt b aM a s) aJ).trans ((congrArg (λe=>yt id e a s) aN).trans (by kernel_rfl)))
theorem pF:Ko OL:=(show OL=uf (aw (OQ) az) by kernel_rfl)▸dN (X:=X0) (E:=uf) ⟨call59,λ_ _ h=>nomatch h⟩ (Qc) az
def Xo:aq:=⟨59,[(.dat .ex [some 158])],(.cG [an,an,an]),[],λs=>BU s⟩
def Oa(k:Ex->Ex)(C:Sh->(R:Type)->Option R->Option R)(e:Ex)(g:Q62->Option nU):Bool×Bool×Bool×Int->Option nU:=λ⟨b,d,a,h⟩=> bif decide (h<(List.length e.l:Int)) then (idx e.l h).bind λm=> (kD (k m)).bind λf=> bif f.2.1 != 0 then some (0,f.2.1,f.2.2) else ai (f.1==1) λB=> ai (b&&B) λA=> ai (f.1==2) λz=> ai (d&&z) λy=> ai (f.1 != 1) λx=> ai (a&&x) λw=> g (A,y,w,(i64.wrap (h+1))) else ai (decide (e.op<=6)) λv=> ai (v&&b) λu=> bif u then ( some (1,0,0)) else ( ai (λ(j:Bool)=>Dq e a j) λc=> ai (decide (6<e.op)) λt=> ai (decide (e.op<=12)) λs=> ai (t&&s) λr=> ai (r&&b) λi=> bif i then ( c i) else ( bif e.op==13 then c (e.op==13) else bif e.op==14 then c (e.op==14) else ai (decide (15<=e.op)) λq=> ai (decide (e.op<=19)) λp=> ai (q&&p) λo=> ai (o&&d) λn=> c n))
def vQ(a:Ex->Ex)(b:Sh->(R:Type)->Option R->Option R)(e:Ex):Option nU:= aw (Oa a b e) az (true,true,true,0)
theorem N5:Ko Xo:=
 aX (.l ⟨[(false,5,.bool),(false,6,.bool),(false,7,.bool),(false,16,an)],[]⟩ (.c .o (.c .o (.j ⟨[(false,53,.bool)],[]⟩ .o .o)))) call59 func59 (aj pF al) al al λs=>(show _=vQ bl aM s from by kernel_rfl).trans ((congrArg (λa=>vQ a aM s) aJ).trans ((congrArg (λb=>vQ id b s) aN).trans (by kernel_rfl)))
def CI:bI:=⟨180,[abK,an],Fy,none,false,false,bG,[(true,0,RV)],λs=>fP s.2.2.2.2.2.2.2 s.1 s.2.1 s.2.2.1 s.2.2.2.1 s.2.2.2.2.1 s.2.2.2.2.2.1 s.2.2.2.2.2.2.1⟩
def ye(b:Ex->Ex)(c:Sh->(R:Type)->Option R->Option R)(a:Pj):Option (Except cz jf):= some (.ok ((b a.1),a.2.1))
def x7(e:Ex->Ex)(h:Sh->(R:Type)->Option R->Option R)(a:Int)(g:Int)(b:Pj)(d:nU):Option (Except cz jf):= ai (λ(f:Unit)=>ye e h b) λc=> bif d.1 != a then some (.error (4,b.1.at_)) else c ()
def yu(e:Ex->Ex)(g:Sh->(R:Type)->Option R->Option R)(b:Int)(at_:Int)(c:Pj):Option (Except cz jf):= (BU (e c.1)).bind λa=> ai (λ(f:Unit)=>x7 e g b at_ c a) λd=> bif a.2.1 != 0 then some (.error a.2) else d ()
def jT(g:Ex->Ex)(k:Sh->(R:Type)->Option R->Option R)(c:Int)(l:Q6)(at_:Int)(b:aD)(e:Q8)(h:Q1)(f:aD)(j:Q9):Option (Except cz jf):= (yn l at_ b).bind λa=> ai (λ(i:Unit)=>yu g k c at_ a) λd=> bif a.2.2.1 != 0 then some (.error a.2.2) else d ()
theorem nh:pG CI:=
 oC (.r [0,40000] (.j ⟨[],[]⟩ .o (.s (.j ⟨[],[]⟩ .o (.j ⟨[],[]⟩ .o .o))))) call180 func180 (aj Lh (aj N5 al)) al al λs=>(show _=jT bl aM s.2.2.2.2.2.2.2 s.1 s.2.1 s.2.2.1 s.2.2.2.1 s.2.2.2.2.1 s.2.2.2.2.2.1 s.2.2.2.2.2.2.1 from by kernel_rfl).trans ((congrArg (λa=>jT a aM s.2.2.2.2.2.2.2 s.1 s.2.1 s.2.2.1 s.2.2.2.1 s.2.2.2.2.1 s.2.2.2.2.2.1 s.2.2.2.2.2.2.1) aJ).trans ((congrArg (λb=>jT id b s.2.2.2.2.2.2.2 s.1 s.2.1 s.2.2.1 s.2.2.2.1 s.2.2.2.2.1 s.2.2.2.2.2.1 s.2.2.2.2.2.2.1) aN).trans (by kernel_rfl)))
def yp:aq:=⟨205,[(.dat rR [none]),(.bx 3 0 false [an])],.bool,[],U2 jz⟩
theorem vk:Ko yp:=
 ax .o call205 func205 al
def nY:aq:=⟨213,[(.own rR 301 false),(.fn 205 [] [(.bx 3 0 false [an])])],an,[],U2 iE⟩
def mL(e:Ex->Ex)(g:Sh->(R:Type)->Option R->Option R)(s:DF)(c:Int)(a:Int->xa)(b:Int):xa:= bif decide (b<(s.length:Int)) then (idx s b).bind λf=> (jz (f.1,(e f.2)) c).bind λd=> bif d then ( some b) else ( a (i64.wrap (b+1))) else some (-1)
def eA(a:Ex->Ex)(b:Sh->(R:Type)->Option R->Option R)(s:DF)(c:Int):xa:= aw (mL a b s c) az 0
theorem me:Ko nY:=
 aX (.l ⟨[(false,8,an)],[]⟩ .o) call213 func213 (aj vk al) al al λs=>(show _=eA bl aM s.1 s.2 from by kernel_rfl).trans ((congrArg (λa=>eA a aM s.1 s.2) aJ).trans ((congrArg (λb=>eA id b s.1 s.2) aN).trans (by kernel_rfl)))
def mH:aq:=⟨204,[(.own rR 301 false),(.fn 205 [] [(.bx 3 0 false [an])])],.bool,[],U2 eo⟩
theorem ld:Ko mH:=
 ax .o call204 func204 (aj me al)
def xQ:bI:=⟨181,[abK,(.own rR 301 false)],Fy,none,false,false,(.dat rR [some 159]),[(true,0,RV)],λs=>jx s.2.2.2.2.2.2.2 s.1 s.2.1 s.2.2.1 s.2.2.2.1 s.2.2.2.2.1 s.2.2.2.2.2.1 s.2.2.2.2.2.2.1⟩
def vj(i:Ex->Ex)(j:Sh->(R:Type)->Option R->Option R)(l:Q6)(at_:Int)(c:aD)(a:Q8)(d:Q1)(b:aD)(f:Q9)(h:Int):Option Q46:= cP (er [61] l (i64.wrap (at_+1)) c a d b f) λg=> cP (fP 1 l g c a d b f) λe=> some (.ok ((h,(i e.1)),e.2))
def vl(m:Ex->Ex)(q:Sh->(R:Type)->Option R->Option R)(f:DF)(l:Q6)(at_:Int)(a:aD)(b:Q8)(d:Q1)(c:aD)(i:Q9)(p:D7):Option Q46:= (cW a p.2.1).bind λe=> ai (λ(o:Unit)=>vj m q l at_ a b d c i e) λg=> ai (decide (e<0)) λh=> bz (!h) default (eo f e) λk=> ai (h||k) λn=> bif n then ( cP (cH 3 l at_ a b d c i) λj=> j.elim) else ( g ())
def iR(i:Ex->Ex)(m:Sh->(R:Type)->Option R->Option R)(e:DF)(l:Q6)(at_:Int)(c:aD)(a:Q8)(d:Q1)(b:aD)(f:Q9):Option Q46:= (dG l at_ c a d b f).bind λj=> ai (λ(k:Unit)=>vl i m e l at_ c a d b f j) λg=> bif j.1 != 1 then cP (cH 2 l at_ c a d b f) λh=> h.elim else g ()
theorem vm:pG xQ:=
 oC (.s (.s (.j ⟨[],[]⟩ .o (.r [0,40000] (.j ⟨[],[]⟩ .o (.r [0,4] .o)))))) call181 func181 (aj dP (aj fg (aj ld al))) (aj jj (aj nh (aj eY al))) al λs=>(show _=iR bl aM s.2.2.2.2.2.2.2 s.1 s.2.1 s.2.2.1 s.2.2.2.1 s.2.2.2.2.1 s.2.2.2.2.2.1 s.2.2.2.2.2.2.1 from by kernel_rfl).trans ((congrArg (λa=>iR a aM s.2.2.2.2.2.2.2 s.1 s.2.1 s.2.2.1 s.2.2.2.1 s.2.2.2.2.1 s.2.2.2.2.2.1 s.2.2.2.2.2.2.1) aJ).trans ((congrArg (λb=>iR id b s.2.2.2.2.2.2.2 s.1 s.2.1 s.2.2.1 s.2.2.2.1 s.2.2.2.2.1 s.2.2.2.2.2.1 s.2.2.2.2.2.2.1) aN).trans (by kernel_rfl)))
def Hm:bI:=⟨135,[(.bx 138 0 true [Hr,an,AU,Nc,Hv,AU,Qv])],Fy,none,false,false,ez,[(true,0,anB)],U7 xx⟩
def CG(e:Ex->Ex)(o:Sh->(R:Type)->Option R->Option R)(l:Q6)(d:aD)(c:Q8)(h:Q1)(b:aD)(i:Q9)(j:jf)(g:(Int×DF)->Option YH):Int×DF->Option YH:=λ⟨n,f⟩=> cP (jx f l n d c h b i) λa=> aH (aG (List.length f+List.length ([(a.1.1,(e a.1.2))]:List Un)) 56)<| (gD 3 [59] l a.2 d c h b i).bind λm=> bif m then ( aH (aG (List.length i+List.length ([((i64.wrap ((b.length:Int)-1)),(e j.1),(f++([(a.1.1,(e a.1.2))]:List Un)))]:List Q63)) 80)<| some (.ok ((i64.wrap (a.2+1)),(i++([((i64.wrap ((b.length:Int)-1)),(e j.1),(f++([(a.1.1,(e a.1.2))]:List Un)))]:List Q63))))) else ( cP (er [44] l a.2 d c h b i) λk=> g (k,(f++([(a.1.1,(e a.1.2))]:List Un))))
def CP(h:Ex->Ex)(i:Sh->(R:Type)->Option R->Option R)(l:Q6)(at_:Int)(c:aD)(a:Q8)(d:Q1)(b:aD)(e:Q9):Option YH:= cP (fP 2 l at_ c a d b e) λf=> cP (er [58] l f.2 c a d b e) λg=> aw (CG h i l c a d b e f) az (g,[])
def mP(h:Ex->Ex)(j:Sh->(R:Type)->Option R->Option R)(l:Q6)(at_:Int)(c:aD)(a:Q8)(d:Q1)(b:aD)(e:Q9):Option YH:= ai (λ(i:Unit)=>CP h j l at_ c a d b e) λf=> bif decide (256<=(e.length:Int)) then cP (cH 9 l at_ c a d b e) λg=> g.elim else f ()
theorem CQ:pG Hm:=
 oC (.j ⟨[],[]⟩ .o (.r [0,40000] (.l ⟨[(true,0,RV),(true,2,(.bx 299 0 true [.same,.same,.same,.same,.same,(.own rR 301 true)]))],[]⟩ (.r [0,2] (.c (.r [0,2] .o) .o))))) call135 func135 (aj iB al) (aj nh (aj jj (aj vm (aj eY al)))) al λs=>(show _=mP bl aM s.1 s.2.1 s.2.2.1 s.2.2.2.1 s.2.2.2.2.1 s.2.2.2.2.2.1 s.2.2.2.2.2.2 from by kernel_rfl).trans ((congrArg (λa=>mP a aM s.1 s.2.1 s.2.2.1 s.2.2.2.1 s.2.2.2.2.1 s.2.2.2.2.2.1 s.2.2.2.2.2.2) aJ).trans ((congrArg (λb=>mP id b s.1 s.2.1 s.2.2.1 s.2.2.2.1 s.2.2.2.2.1 s.2.2.2.2.2.1 s.2.2.2.2.2.2) aN).trans (by kernel_rfl)))
def Ii:bI:=⟨87,[(.bx 138 0 true [Hr,an,AU,Nc,Hv,sG,Qv])],Fy,none,false,false,ez,[(true,0,(.bx 138 0 true [.same,an,.same,.same,.same,sG,Qv]))],U7 xu⟩
theorem Ct:pG Ii:=
 oC (.r [0] (.l ⟨[(true,0,anB)],[]⟩ .o)) call87 func87 (aj iB al) (aj uj (aj jj (aj CQ al))) al λ_=>by kernel_rfl
def QV:bI:=⟨57,[(.bx 138 0 true [Hr,an,sG,H7,fp,sG,Qv])],Fy,none,false,false,ez,[(true,0,ank)],U7 Gk⟩
theorem JW:pG QV:=
 oC (.l ⟨[(true,0,ank),(true,2,(.bx 190 0 true [.same,.same]))],[]⟩ .o) call57 func57 (aj dP (aj iB al)) (aj BB (aj eY (aj Ct al))) al λ_=>by kernel_rfl
def Zl:aq:=⟨41,[.str],(.cG [yh,an,an]),[],λs=>Pl s⟩
theorem alQ:(⟨56,Tryz.f56⟩:jR).Ok X0.P:=⟨call56,func56⟩
theorem Qp:Ko Zl:=
 aX .o call41 func41 (aj Dk al) (aj JW al) (aj alQ al) λ_=>by kernel_rfl
def Qa:aq:=⟨42,[(.bx 81 0 true [.str,.str,an,an,an,mK,an,an,AU,Nc,Hv,AU,(.own sM 299 false),an,an,an,(.own .ex 79 false),an,an,an,fp,gR,gR]),an,an,aS],.bool,[(true,0,agU)],λs=>G9 (d8 (d8 s)).2.2.2.2.2.2.2.1 (d8 (d8 (d8 s))).1 (d8 (d8 (d8 s))).2 s.1 s.2.1 s.2.2.1 s.2.2.2.1 s.2.2.2.2.1 s.2.2.2.2.2.1 s.2.2.2.2.2.2.1 s.2.2.2.2.2.2.2.1 s.2.2.2.2.2.2.2.2.1 (d8 s).2.1 (d8 s).2.2.1 (d8 s).2.2.2.1 (d8 s).2.2.2.2.1 (d8 s).2.2.2.2.2.1 (d8 s).2.2.2.2.2.2.1 (d8 s).2.2.2.2.2.2.2.1 (d8 (d8 s)).1 (d8 (d8 s)).2.1 (d8 (d8 s)).2.2.1 (d8 (d8 s)).2.2.2.1 (d8 (d8 s)).2.2.2.2.1 (d8 (d8 s)).2.2.2.2.2.1 (d8 (d8 s)).2.2.2.2.2.2.1⟩
theorem JJ:Ko Qa:=
 ax .o call42 func42 al
def PX:aq:=⟨136,[eN,an],bG,[(true,0,(.bx 196 0 true [.same,.same,.same,.same,an,an]))],λs=>ca s.2.2.2.2.2.2 s.1 s.2.1 s.2.2.1 s.2.2.2.1 s.2.2.2.2.1 s.2.2.2.2.2.1⟩
theorem fk:Ko PX:=
 ax (.c (.r [0] .o) .o) call136 func136 al
def QT:aq:=⟨183,[ans],(.dat nE []),[],U6 bc⟩
theorem ck:Ko QT:=
 ax (.r [2] .o) call183 func183 al
def WK:aq:=⟨182,[ans,aS],BC,[],λs=>bN s.2.2.2.2.2.2 s.1 s.2.1 s.2.2.1 s.2.2.2.1 s.2.2.2.2.1 s.2.2.2.2.2.1⟩
theorem cT:Ko WK:=
 ax (.c .o (.l ⟨[(false,27,an)],[]⟩ .o)) call182 func182 (aj ck (aj mY al))
def Ui(a:bR):aq:=⟨228,[eN],bG,[(true,0,cD)],λs=>xS a s.1 s.2.1 s.2.2.1 s.2.2.2.1 s.2.2.2.2.1 s.2.2.2.2.2⟩
def tW(h:Ex->Ex)(C:Sh->(R:Type)->Option R->Option R)(B:Q2->Option Q3)(l:Q6)(at_:Int)(c:aD)(d:Int)(f:Int)(b:Int):Option Q3:= bif f != 0 then some ((Ex.mk 0 0 0 []),at_,d,f,b) else (bc l at_ c d f b).bind λe=> (bN ([13,14]:x6) l at_ c d f b).bind λn=> bif n.2 then ( some ((Ex.mk n.1 0 e.2.2.2 []),(i64.wrap (at_+1)),d,f,b)) else ( bif e.1==2 then some ((Ex.mk 1 e.2.2.1 e.2.2.2 []),(i64.wrap (at_+1)),d,f,b) else ai (e.1==1) λp=> bz p default (ph e.2.1) λs=> ai (!s) λA=> ai (p&&A) λz=> bif z then ( (cS c e.2.1).bind λm=> bif decide (m<0) then (ca 3 l at_ c d f b).bind λj=> some ((h j.1),at_,d,j.2.1,j.2.2) else some ((Ex.mk 2 m e.2.2.2 []),(i64.wrap (at_+1)),d,f,b)) else ( ai (e.1==3) λy=> ai (e.2.1==[40]) λx=> ai (y&&x) λw=> bif w then ( (B (l,(i64.wrap (at_+1)),c,d,f,b)).bind λa=> ai (a.2.2.2.1==0) λk=> bz k default (bc l a.2.1 c a.2.2.1 a.2.2.2.1 a.2.2.2.2) λr=> ai (r.1 != 3) λo=> bz (k&& !o) default (bc l a.2.1 c a.2.2.1 a.2.2.2.1 a.2.2.2.2) λq=> ai (q.2.1 != [41]) λv=> ai (o||v) λu=> ai (k&&u) λt=> bif t then ( (ca 2 l a.2.1 c a.2.2.1 a.2.2.2.1 a.2.2.2.2).bind λi=> some ((h i.1),a.2.1,a.2.2.1,i.2.1,i.2.2)) else ( bif a.2.2.2.1==0 then some ((h a.1),(i64.wrap (a.2.1+1)),a.2.2.1,a.2.2.2.1,a.2.2.2.2) else some ((h a.1),a.2.1,a.2.2.1,a.2.2.2.1,a.2.2.2.2))) else ( (ca 2 l at_ c d f b).bind λg=> some ((h g.1),at_,d,g.2.1,g.2.2))))
theorem Lm(a:bR)(b:fc a):Ko (Ui a):=
 aX .o call228 func228 (aj ck (aj cT (aj mY (aj fV (aj fk (aj b al)))))) al al λs=>(show _=tW bl aM a s.1 s.2.1 s.2.2.1 s.2.2.2.1 s.2.2.2.2.1 s.2.2.2.2.2 from by kernel_rfl).trans ((congrArg (λc=>tW c aM a s.1 s.2.1 s.2.2.1 s.2.2.2.1 s.2.2.2.2.1 s.2.2.2.2.2) aJ).trans ((congrArg (λd=>tW id d a s.1 s.2.1 s.2.2.1 s.2.2.2.1 s.2.2.2.2.1 s.2.2.2.2.2) aN).trans (by kernel_rfl)))
def G5(a:bR)(b:UU):aq:=⟨222,[eN,MZ,(.fn 228 [] []),aS],bG,[(true,0,cD)],λs=>nD a b s.2.2.2.2.2.2 s.1 s.2.1 s.2.2.1 s.2.2.2.1 s.2.2.2.2.1 s.2.2.2.2.2.1⟩
def lB(h:Ex->Ex)(m:Sh->(R:Type)->Option R->Option R)(k:Q2->Option Q3)(j:Q2->Option Q3)(ops:Q1)(l:Q6)(at_:Int)(b:aD)(c:Int)(f:Int)(a:Int):Option Q3:= (bN ops l at_ b c f a).bind λg=> bif !g.2 then (xS k l at_ b c f a).bind λe=> some ((h e.1),e.2.1,e.2.2.1,e.2.2.2.1,e.2.2.2.2) else (bc l at_ b c f a).bind λi=> (j (l,(i64.wrap (at_+1)),b,c,f,a)).bind λd=> some ((Ex.mk g.1 0 i.2.2.2 ([(h d.1)]:List Ex)),d.2.1,d.2.2.1,d.2.2.2.1,d.2.2.2.2)
theorem Bx(a:bR)(d:fc a)(b:UU)(f:OK6 b):Ko (G5 a b):=
 aX (.c .o (.r [0,8] .o)) call222 func222 (aj cT (aj (Lm a d) (aj ck (aj f al)))) al al λs=>(show _=lB bl aM a b s.2.2.2.2.2.2 s.1 s.2.1 s.2.2.1 s.2.2.2.1 s.2.2.2.2.1 s.2.2.2.2.2.1 from by kernel_rfl).trans ((congrArg (λe=>lB e aM a b s.2.2.2.2.2.2 s.1 s.2.1 s.2.2.1 s.2.2.2.1 s.2.2.2.2.1 s.2.2.2.2.2.1) aJ).trans ((congrArg (λg=>lB id g a b s.2.2.2.2.2.2 s.1 s.2.1 s.2.2.1 s.2.2.2.1 s.2.2.2.2.1 s.2.2.2.2.2.1) aN).trans (by kernel_rfl)))
def Us(a:bR)(b:UU):aq:=⟨227,[eN],bG,[(true,0,cD)],λs=>xR a b s.1 s.2.1 s.2.2.1 s.2.2.2.1 s.2.2.2.2.1 s.2.2.2.2.2⟩
def ud(e:Ex->Ex)(i:Sh->(R:Type)->Option R->Option R)(h:Q2->Option Q3)(g:Q2->Option Q3)(l:Q6)(at_:Int)(c:aD)(d:Int)(f:Int)(b:Int):Option Q3:= (nD h g ([6]:x6) l at_ c d f b).bind λa=> some ((e a.1),a.2.1,a.2.2.1,a.2.2.2.1,a.2.2.2.2)
theorem MC(a:bR)(c:fc a)(b:UU)(e:OK6 b):Ko (Us a b):=
 aX .o call227 func227 (aj (Bx a c b e) al) al al λs=>(show _=ud bl aM a b s.1 s.2.1 s.2.2.1 s.2.2.2.1 s.2.2.2.2.1 s.2.2.2.2.2 from by kernel_rfl).trans ((congrArg (λd=>ud d aM a b s.1 s.2.1 s.2.2.1 s.2.2.2.1 s.2.2.2.2.1 s.2.2.2.2.2) aJ).trans ((congrArg (λf=>ud id f a b s.1 s.2.1 s.2.2.1 s.2.2.2.1 s.2.2.2.2.1 s.2.2.2.2.2) aN).trans (by kernel_rfl)))
def uy(a:bR):aq:=⟨91,[eN,MZ],bG,[(true,0,cD)],λs=>oE a s.1 s.2.1 s.2.2.1 s.2.2.2.1 s.2.2.2.2.1 s.2.2.2.2.2⟩
def kI(f:Ex->Ex)(j:Sh->(R:Type)->Option R->Option R)(i:Q2->Option Q3)(h:Q2->Option Q3)(l:Q6)(at_:Int)(d:aD)(a:Int)(g:Int)(c:Int):Option Q3:= bif decide (320<=a) then (ca 9 l at_ d a g c).bind λe=> some ((f e.1),at_,a,e.2.1,e.2.2) else (xR i h l at_ d (i64.wrap (a+1)) g c).bind λb=> some ((f b.1),b.2.1,(i64.wrap (b.2.2.1-1)),b.2.2.2.1,b.2.2.2.2)
def um(a:bR):UU->UU:=λb s=>uk a b s.1 s.2.1 s.2.2.1 s.2.2.2.1 s.2.2.2.2.1 s.2.2.2.2.2
theorem Ab(a:bR)(c:fc a)(b:UU)(e:OK6 b):(iI (um a b)).Ok X0.P X0.Γ:=
 aX .o call91 func91 (aj fk (aj (MC a c b e) al)) al al λs=>(show _=kI bl aM a b s.1 s.2.1 s.2.2.1 s.2.2.2.1 s.2.2.2.2.1 s.2.2.2.2.2 from by kernel_rfl).trans ((congrArg (λd=>kI d aM a b s.1 s.2.1 s.2.2.1 s.2.2.2.1 s.2.2.2.2.1 s.2.2.2.2.2) aJ).trans ((congrArg (λf=>kI id f a b s.1 s.2.1 s.2.2.1 s.2.2.2.1 s.2.2.2.2.1 s.2.2.2.2.2) aN).trans (by kernel_rfl)))
theorem Cu(a:bR)(b:fc a):Ko (uy a):=(show uy a=iI (aw (um a) az) by kernel_rfl)▸dN (X:=X0) (E:=iI) ⟨call91,λ_ _ h=>nomatch h⟩ (Ab a b) az
def JY(a:bR):aq:=⟨226,[eN],bG,[(true,0,cD)],λs=>iV a s.1 s.2.1 s.2.2.1 s.2.2.2.1 s.2.2.2.2.1 s.2.2.2.2.2⟩
def nF(e:Ex->Ex)(h:Sh->(R:Type)->Option R->Option R)(g:Q2->Option Q3)(l:Q6)(at_:Int)(c:aD)(d:Int)(f:Int)(b:Int):Option Q3:= (oE g l at_ c d f b).bind λa=> some ((e a.1),a.2.1,a.2.2.1,a.2.2.2.1,a.2.2.2.2)
theorem Ek(a:bR)(b:fc a):Ko (JY a):=
 aX .o call226 func226 (aj (Cu a b) al) al al λs=>(show _=nF bl aM a s.1 s.2.1 s.2.2.1 s.2.2.2.1 s.2.2.2.2.1 s.2.2.2.2.2 from by kernel_rfl).trans ((congrArg (λc=>nF c aM a s.1 s.2.1 s.2.2.1 s.2.2.2.1 s.2.2.2.2.1 s.2.2.2.2.2) aJ).trans ((congrArg (λd=>nF id d a s.1 s.2.1 s.2.2.1 s.2.2.2.1 s.2.2.2.2.1 s.2.2.2.2.2) aN).trans (by kernel_rfl)))
def J8(a:bR):aq:=⟨214,[eN,(.fn 226 [] []),aS],bG,[(true,0,cD)],λs=>rf a s.2.2.2.2.2.2 s.1 s.2.1 s.2.2.1 s.2.2.2.1 s.2.2.2.2.1 s.2.2.2.2.2.1⟩
def Fv(o:Ex->Ex)(q:Sh->(R:Type)->Option R->Option R)(p:Q2->Option Q3)(ops:Q1)(l:Q6)(a:aD)(g:yx->Option Q3):Int×Int×Int×Int×Int×Int×Int×(List Ex)->Option Q3:=λ⟨f,e,b,d,k,j,i,h⟩=> bif b==0 then (bN ops l f a e b d).bind λm=> bif !m.2 then some ((Ex.mk k j i h),f,e,b,d) else (bc l f a e b d).bind λn=> (iV p l (i64.wrap (f+1)) a e b d).bind λc=> g (c.2.1,c.2.2.1,c.2.2.2.1,c.2.2.2.2,m.1,0,n.2.2.2,([(Ex.mk k j i h),(o c.1)]:List Ex)) else some ((Ex.mk k j i h),f,e,b,d)
def nr(e:Ex->Ex)(h:Sh->(R:Type)->Option R->Option R)(g:Q2->Option Q3)(ops:Q1)(l:Q6)(at_:Int)(b:aD)(d:Int)(f:Int)(c:Int):Option Q3:= (iV g l at_ b d f c).bind λa=> aw (Fv e h g ops l b) az (a.2.1,a.2.2.1,a.2.2.2.1,a.2.2.2.2,a.1.op,a.1.n,a.1.at_,a.1.l)
theorem Ew(a:bR)(b:fc a):Ko (J8 a):=
 aX (.l ⟨[(true,0,cD),(true,6,Hi),(true,7,L4)],[]⟩ .o) call214 func214 (aj (Ek a b) (aj cT (aj ck al))) al al λs=>(show _=nr bl aM a s.2.2.2.2.2.2 s.1 s.2.1 s.2.2.1 s.2.2.2.1 s.2.2.2.2.1 s.2.2.2.2.2.1 from by kernel_rfl).trans ((congrArg (λc=>nr c aM a s.2.2.2.2.2.2 s.1 s.2.1 s.2.2.1 s.2.2.2.1 s.2.2.2.2.1 s.2.2.2.2.2.1) aJ).trans ((congrArg (λd=>nr id d a s.2.2.2.2.2.2 s.1 s.2.1 s.2.2.1 s.2.2.2.1 s.2.2.2.2.1 s.2.2.2.2.2.1) aN).trans (by kernel_rfl)))
def Rx(a:bR):aq:=⟨225,[eN],bG,[(true,0,cD)],λs=>lG a s.1 s.2.1 s.2.2.1 s.2.2.2.1 s.2.2.2.2.1 s.2.2.2.2.2⟩
def sd(e:Ex->Ex)(h:Sh->(R:Type)->Option R->Option R)(g:Q2->Option Q3)(l:Q6)(at_:Int)(c:aD)(d:Int)(f:Int)(b:Int):Option Q3:= (rf g ([5]:x6) l at_ c d f b).bind λa=> some ((e a.1),a.2.1,a.2.2.1,a.2.2.2.1,a.2.2.2.2)
theorem JE(a:bR)(b:fc a):Ko (Rx a):=
 aX .o call225 func225 (aj (Ew a b) al) al al λs=>(show _=sd bl aM a s.1 s.2.1 s.2.2.1 s.2.2.2.1 s.2.2.2.2.1 s.2.2.2.2.2 from by kernel_rfl).trans ((congrArg (λc=>sd c aM a s.1 s.2.1 s.2.2.1 s.2.2.2.1 s.2.2.2.2.1 s.2.2.2.2.2) aJ).trans ((congrArg (λd=>sd id d a s.1 s.2.1 s.2.2.1 s.2.2.2.1 s.2.2.2.2.1 s.2.2.2.2.2) aN).trans (by kernel_rfl)))
def JF(a:bR):aq:=⟨214,[eN,(.fn 225 [] []),aS],bG,[(true,0,cD)],λs=>pO a s.2.2.2.2.2.2 s.1 s.2.1 s.2.2.1 s.2.2.2.1 s.2.2.2.2.1 s.2.2.2.2.2.1⟩
def Fp(o:Ex->Ex)(q:Sh->(R:Type)->Option R->Option R)(p:Q2->Option Q3)(ops:Q1)(l:Q6)(a:aD)(g:yx->Option Q3):Int×Int×Int×Int×Int×Int×Int×(List Ex)->Option Q3:=λ⟨f,e,b,d,k,j,i,h⟩=> bif b==0 then (bN ops l f a e b d).bind λm=> bif !m.2 then some ((Ex.mk k j i h),f,e,b,d) else (bc l f a e b d).bind λn=> (lG p l (i64.wrap (f+1)) a e b d).bind λc=> g (c.2.1,c.2.2.1,c.2.2.2.1,c.2.2.2.2,m.1,0,n.2.2.2,([(Ex.mk k j i h),(o c.1)]:List Ex)) else some ((Ex.mk k j i h),f,e,b,d)
def nz(e:Ex->Ex)(h:Sh->(R:Type)->Option R->Option R)(g:Q2->Option Q3)(ops:Q1)(l:Q6)(at_:Int)(b:aD)(d:Int)(f:Int)(c:Int):Option Q3:= (lG g l at_ b d f c).bind λa=> aw (Fp e h g ops l b) az (a.2.1,a.2.2.1,a.2.2.2.1,a.2.2.2.2,a.1.op,a.1.n,a.1.at_,a.1.l)
theorem EH(a:bR)(b:fc a):Ko (JF a):=
 aX (.l ⟨[(true,0,cD),(true,6,Hi),(true,7,L4)],[]⟩ .o) call214 func214 (aj (JE a b) (aj cT (aj ck al))) al al λs=>(show _=nz bl aM a s.2.2.2.2.2.2 s.1 s.2.1 s.2.2.1 s.2.2.2.1 s.2.2.2.2.1 s.2.2.2.2.2.1 from by kernel_rfl).trans ((congrArg (λc=>nz c aM a s.2.2.2.2.2.2 s.1 s.2.1 s.2.2.1 s.2.2.2.1 s.2.2.2.2.1 s.2.2.2.2.2.1) aJ).trans ((congrArg (λd=>nz id d a s.2.2.2.2.2.2 s.1 s.2.1 s.2.2.1 s.2.2.2.1 s.2.2.2.2.1 s.2.2.2.2.2.1) aN).trans (by kernel_rfl)))
def SQ(a:bR):aq:=⟨224,[eN],bG,[(true,0,cD)],λs=>ng a s.1 s.2.1 s.2.2.1 s.2.2.2.1 s.2.2.2.2.1 s.2.2.2.2.2⟩
def uL(e:Ex->Ex)(h:Sh->(R:Type)->Option R->Option R)(g:Q2->Option Q3)(l:Q6)(at_:Int)(c:aD)(d:Int)(f:Int)(b:Int):Option Q3:= (pO g ([3,4]:x6) l at_ c d f b).bind λa=> some ((e a.1),a.2.1,a.2.2.1,a.2.2.2.1,a.2.2.2.2)
theorem Ly(a:bR)(b:fc a):Ko (SQ a):=
 aX .o call224 func224 (aj (EH a b) al) al al λs=>(show _=uL bl aM a s.1 s.2.1 s.2.2.1 s.2.2.2.1 s.2.2.2.2.1 s.2.2.2.2.2 from by kernel_rfl).trans ((congrArg (λc=>uL c aM a s.1 s.2.1 s.2.2.1 s.2.2.2.1 s.2.2.2.2.1 s.2.2.2.2.2) aJ).trans ((congrArg (λd=>uL id d a s.1 s.2.1 s.2.2.1 s.2.2.2.1 s.2.2.2.2.1 s.2.2.2.2.2) aN).trans (by kernel_rfl)))
def SX(a:bR):aq:=⟨223,[eN],bG,[(true,0,cD)],λs=>xU a s.1 s.2.1 s.2.2.1 s.2.2.2.1 s.2.2.2.2.1 s.2.2.2.2.2⟩
def vd(e:Ex->Ex)(o:Sh->(R:Type)->Option R->Option R)(n:Q2->Option Q3)(l:Q6)(at_:Int)(b:aD)(g:Int)(i:Int)(d:Int):Option Q3:= (ng n l at_ b g i d).bind λa=> (bN ([7,8,9,10,11,12]:x6) l a.2.1 b a.2.2.1 a.2.2.2.1 a.2.2.2.2).bind λf=> ai (a.2.2.2.1 != 0) λm=> ai (!f.2) λk=> ai (m||k) λj=> bif j then ( some ((e a.1),a.2.1,a.2.2.1,a.2.2.2.1,a.2.2.2.2)) else ( (bc l a.2.1 b a.2.2.1 a.2.2.2.1 a.2.2.2.2).bind λh=> (ng n l (i64.wrap (a.2.1+1)) b a.2.2.1 a.2.2.2.1 a.2.2.2.2).bind λc=> some ((Ex.mk f.1 0 h.2.2.2 ([(e a.1),(e c.1)]:List Ex)),c.2.1,c.2.2.1,c.2.2.2.1,c.2.2.2.2))
theorem Kq(a:bR)(b:fc a):Ko (SX a):=
 aX .o call223 func223 (aj (Ly a b) (aj cT (aj ck al))) al al λs=>(show _=vd bl aM a s.1 s.2.1 s.2.2.1 s.2.2.2.1 s.2.2.2.2.1 s.2.2.2.2.2 from by kernel_rfl).trans ((congrArg (λc=>vd c aM a s.1 s.2.1 s.2.2.1 s.2.2.2.1 s.2.2.2.2.1 s.2.2.2.2.2) aJ).trans ((congrArg (λd=>vd id d a s.1 s.2.1 s.2.2.1 s.2.2.2.1 s.2.2.2.2.1 s.2.2.2.2.2) aN).trans (by kernel_rfl)))
def Ky(a:bR)(b:Ua):aq:=⟨222,[eN,MY,(.fn 223 [] []),aS],bG,[(true,0,cD)],λs=>sh a b s.2.2.2.2.2.2 s.1 s.2.1 s.2.2.1 s.2.2.2.1 s.2.2.2.2.1 s.2.2.2.2.2.1⟩
def ox(h:Ex->Ex)(m:Sh->(R:Type)->Option R->Option R)(k:Q2->Option Q3)(j:Q2->Option Q3)(ops:Q1)(l:Q6)(at_:Int)(b:aD)(c:Int)(f:Int)(a:Int):Option Q3:= (bN ops l at_ b c f a).bind λg=> bif !g.2 then (xU k l at_ b c f a).bind λe=> some ((h e.1),e.2.1,e.2.2.1,e.2.2.2.1,e.2.2.2.2) else (bc l at_ b c f a).bind λi=> (j (l,(i64.wrap (at_+1)),b,c,f,a)).bind λd=> some ((Ex.mk g.1 0 i.2.2.2 ([(h d.1)]:List Ex)),d.2.1,d.2.2.1,d.2.2.2.1,d.2.2.2.2)
theorem FY(a:bR)(d:fc a)(b:Ua)(f:OK7 b):Ko (Ky a b):=
 aX (.c .o (.r [0,8] .o)) call222 func222 (aj cT (aj (Kq a d) (aj ck (aj f al)))) al al λs=>(show _=ox bl aM a b s.2.2.2.2.2.2 s.1 s.2.1 s.2.2.1 s.2.2.2.1 s.2.2.2.2.1 s.2.2.2.2.2.1 from by kernel_rfl).trans ((congrArg (λe=>ox e aM a b s.2.2.2.2.2.2 s.1 s.2.1 s.2.2.1 s.2.2.2.1 s.2.2.2.2.1 s.2.2.2.2.2.1) aJ).trans ((congrArg (λg=>ox id g a b s.2.2.2.2.2.2 s.1 s.2.1 s.2.2.1 s.2.2.2.1 s.2.2.2.2.1 s.2.2.2.2.2.1) aN).trans (by kernel_rfl)))
def SD(a:bR)(b:Ua):aq:=⟨221,[eN],bG,[(true,0,cD)],λs=>xY a b s.1 s.2.1 s.2.2.1 s.2.2.2.1 s.2.2.2.2.1 s.2.2.2.2.2⟩
def uW(e:Ex->Ex)(i:Sh->(R:Type)->Option R->Option R)(h:Q2->Option Q3)(g:Q2->Option Q3)(l:Q6)(at_:Int)(c:aD)(d:Int)(f:Int)(b:Int):Option Q3:= (sh h g ([15,20,21,22]:x6) l at_ c d f b).bind λa=> some ((e a.1),a.2.1,a.2.2.1,a.2.2.2.1,a.2.2.2.2)
theorem MK(a:bR)(c:fc a)(b:Ua)(e:OK7 b):Ko (SD a b):=
 aX .o call221 func221 (aj (FY a c b e) al) al al λs=>(show _=uW bl aM a b s.1 s.2.1 s.2.2.1 s.2.2.2.1 s.2.2.2.2.1 s.2.2.2.2.2 from by kernel_rfl).trans ((congrArg (λd=>uW d aM a b s.1 s.2.1 s.2.2.1 s.2.2.2.1 s.2.2.2.2.1 s.2.2.2.2.2) aJ).trans ((congrArg (λf=>uW id f a b s.1 s.2.1 s.2.2.1 s.2.2.2.1 s.2.2.2.2.1 s.2.2.2.2.2) aN).trans (by kernel_rfl)))
def uI(a:bR):aq:=⟨91,[eN,MY],bG,[(true,0,cD)],λs=>om a s.1 s.2.1 s.2.2.1 s.2.2.2.1 s.2.2.2.2.1 s.2.2.2.2.2⟩
def kO(f:Ex->Ex)(j:Sh->(R:Type)->Option R->Option R)(i:Q2->Option Q3)(h:Q2->Option Q3)(l:Q6)(at_:Int)(d:aD)(a:Int)(g:Int)(c:Int):Option Q3:= bif decide (320<=a) then (ca 9 l at_ d a g c).bind λe=> some ((f e.1),at_,a,e.2.1,e.2.2) else (xY i h l at_ d (i64.wrap (a+1)) g c).bind λb=> some ((f b.1),b.2.1,(i64.wrap (b.2.2.1-1)),b.2.2.2.1,b.2.2.2.2)
def uw(a:bR):Ua->Ua:=λb s=>ua a b s.1 s.2.1 s.2.2.1 s.2.2.2.1 s.2.2.2.2.1 s.2.2.2.2.2
theorem Aw(a:bR)(c:fc a)(b:Ua)(e:OK7 b):(iM (uw a b)).Ok X0.P X0.Γ:=
 aX .o call91 func91 (aj fk (aj (MK a c b e) al)) al al λs=>(show _=kO bl aM a b s.1 s.2.1 s.2.2.1 s.2.2.2.1 s.2.2.2.2.1 s.2.2.2.2.2 from by kernel_rfl).trans ((congrArg (λd=>kO d aM a b s.1 s.2.1 s.2.2.1 s.2.2.2.1 s.2.2.2.2.1 s.2.2.2.2.2) aJ).trans ((congrArg (λf=>kO id f a b s.1 s.2.1 s.2.2.1 s.2.2.2.1 s.2.2.2.2.1 s.2.2.2.2.2) aN).trans (by kernel_rfl)))
theorem Cr(a:bR)(b:fc a):Ko (uI a):=(show uI a=iM (aw (uw a) az) by kernel_rfl)▸dN (X:=X0) (E:=iM) ⟨call91,λ_ _ h=>nomatch h⟩ (Aw a b) az
def J0(a:bR):aq:=⟨220,[eN],bG,[(true,0,cD)],λs=>pP a s.1 s.2.1 s.2.2.1 s.2.2.2.1 s.2.2.2.2.1 s.2.2.2.2.2⟩
def nq(e:Ex->Ex)(h:Sh->(R:Type)->Option R->Option R)(g:Q2->Option Q3)(l:Q6)(at_:Int)(c:aD)(d:Int)(f:Int)(b:Int):Option Q3:= (om g l at_ c d f b).bind λa=> some ((e a.1),a.2.1,a.2.2.1,a.2.2.2.1,a.2.2.2.2)
theorem EZ(a:bR)(b:fc a):Ko (J0 a):=
 aX .o call220 func220 (aj (Cr a b) al) al al λs=>(show _=nq bl aM a s.1 s.2.1 s.2.2.1 s.2.2.2.1 s.2.2.2.2.1 s.2.2.2.2.2 from by kernel_rfl).trans ((congrArg (λc=>nq c aM a s.1 s.2.1 s.2.2.1 s.2.2.2.1 s.2.2.2.2.1 s.2.2.2.2.2) aJ).trans ((congrArg (λd=>nq id d a s.1 s.2.1 s.2.2.1 s.2.2.2.1 s.2.2.2.2.1 s.2.2.2.2.2) aN).trans (by kernel_rfl)))
def Hk(a:bR)(b:Sc):aq:=⟨137,[eN,(.fn 220 [] []),Nq,aS],bG,[(true,0,cD)],λs=>oJ a b s.2.2.2.2.2.2 s.1 s.2.1 s.2.2.1 s.2.2.2.1 s.2.2.2.2.1 s.2.2.2.2.2.1⟩
def l6(e:Ex->Ex)(p:Sh->(R:Type)->Option R->Option R)(o:Q2->Option Q3)(n:Q2->Option Q3)(ops:Q1)(l:Q6)(at_:Int)(b:aD)(g:Int)(i:Int)(d:Int):Option Q3:= (pP o l at_ b g i d).bind λa=> (bN ops l a.2.1 b a.2.2.1 a.2.2.2.1 a.2.2.2.2).bind λf=> ai (a.2.2.2.1 != 0) λm=> ai (!f.2) λk=> ai (m||k) λj=> bif j then ( some ((e a.1),a.2.1,a.2.2.1,a.2.2.2.1,a.2.2.2.2)) else ( (bc l a.2.1 b a.2.2.1 a.2.2.2.1 a.2.2.2.2).bind λh=> (n (l,(i64.wrap (a.2.1+1)),b,a.2.2.1,a.2.2.2.1,a.2.2.2.2)).bind λc=> some ((Ex.mk f.1 0 h.2.2.2 ([(e a.1),(e c.1)]:List Ex)),c.2.1,c.2.2.1,c.2.2.2.1,c.2.2.2.2))
theorem CL(a:bR)(c:fc a)(b:Sc)(e:OK8 b):Ko (Hk a b):=
 aX .o call137 func137 (aj (EZ a c) (aj cT (aj ck (aj e al)))) al al λs=>(show _=l6 bl aM a b s.2.2.2.2.2.2 s.1 s.2.1 s.2.2.1 s.2.2.2.1 s.2.2.2.2.1 s.2.2.2.2.2.1 from by kernel_rfl).trans ((congrArg (λd=>l6 d aM a b s.2.2.2.2.2.2 s.1 s.2.1 s.2.2.1 s.2.2.2.1 s.2.2.2.2.1 s.2.2.2.2.2.1) aJ).trans ((congrArg (λf=>l6 id f a b s.2.2.2.2.2.2 s.1 s.2.1 s.2.2.1 s.2.2.2.1 s.2.2.2.2.1 s.2.2.2.2.2.1) aN).trans (by kernel_rfl)))
def Od(a:bR)(b:Sc):aq:=⟨219,[eN],bG,[(true,0,cD)],λs=>uc a b s.1 s.2.1 s.2.2.1 s.2.2.2.1 s.2.2.2.2.1 s.2.2.2.2.2⟩
def rq(e:Ex->Ex)(i:Sh->(R:Type)->Option R->Option R)(h:Q2->Option Q3)(g:Q2->Option Q3)(l:Q6)(at_:Int)(c:aD)(d:Int)(f:Int)(b:Int):Option Q3:= (oJ h g ([23,24]:x6) l at_ c d f b).bind λa=> some ((e a.1),a.2.1,a.2.2.1,a.2.2.2.1,a.2.2.2.2)
theorem Iy(a:bR)(c:fc a)(b:Sc)(e:OK8 b):Ko (Od a b):=
 aX .o call219 func219 (aj (CL a c b e) al) al al λs=>(show _=rq bl aM a b s.1 s.2.1 s.2.2.1 s.2.2.2.1 s.2.2.2.2.1 s.2.2.2.2.2 from by kernel_rfl).trans ((congrArg (λd=>rq d aM a b s.1 s.2.1 s.2.2.1 s.2.2.2.1 s.2.2.2.2.1 s.2.2.2.2.2) aJ).trans ((congrArg (λf=>rq id f a b s.1 s.2.1 s.2.2.1 s.2.2.2.1 s.2.2.2.2.1 s.2.2.2.2.2) aN).trans (by kernel_rfl)))
def tK(a:bR):aq:=⟨91,[eN,Nq],bG,[(true,0,cD)],λs=>o6 a s.1 s.2.1 s.2.2.1 s.2.2.2.1 s.2.2.2.2.1 s.2.2.2.2.2⟩
def kQ(f:Ex->Ex)(j:Sh->(R:Type)->Option R->Option R)(i:Q2->Option Q3)(h:Q2->Option Q3)(l:Q6)(at_:Int)(d:aD)(a:Int)(g:Int)(c:Int):Option Q3:= bif decide (320<=a) then (ca 9 l at_ d a g c).bind λe=> some ((f e.1),at_,a,e.2.1,e.2.2) else (uc i h l at_ d (i64.wrap (a+1)) g c).bind λb=> some ((f b.1),b.2.1,(i64.wrap (b.2.2.1-1)),b.2.2.2.1,b.2.2.2.2)
def uE(a:bR):Sc->Sc:=λb s=>u7 a b s.1 s.2.1 s.2.2.1 s.2.2.2.1 s.2.2.2.2.1 s.2.2.2.2.2
theorem Ai(a:bR)(c:fc a)(b:Sc)(e:OK8 b):(iF (uE a b)).Ok X0.P X0.Γ:=
 aX .o call91 func91 (aj fk (aj (Iy a c b e) al)) al al λs=>(show _=kQ bl aM a b s.1 s.2.1 s.2.2.1 s.2.2.2.1 s.2.2.2.2.1 s.2.2.2.2.2 from by kernel_rfl).trans ((congrArg (λd=>kQ d aM a b s.1 s.2.1 s.2.2.1 s.2.2.2.1 s.2.2.2.2.1 s.2.2.2.2.2) aJ).trans ((congrArg (λf=>kQ id f a b s.1 s.2.1 s.2.2.1 s.2.2.2.1 s.2.2.2.2.1 s.2.2.2.2.2) aN).trans (by kernel_rfl)))
theorem Cw(a:bR)(b:fc a):Ko (tK a):=(show tK a=iF (aw (uE a) az) by kernel_rfl)▸dN (X:=X0) (E:=iF) ⟨call91,λ_ _ h=>nomatch h⟩ (Ai a b) az
def Gv(a:bR):aq:=⟨218,[eN],bG,[(true,0,cD)],λs=>gQ a s.1 s.2.1 s.2.2.1 s.2.2.2.1 s.2.2.2.2.1 s.2.2.2.2.2⟩
def lQ(e:Ex->Ex)(h:Sh->(R:Type)->Option R->Option R)(g:Q2->Option Q3)(l:Q6)(at_:Int)(c:aD)(d:Int)(f:Int)(b:Int):Option Q3:= (o6 g l at_ c d f b).bind λa=> some ((e a.1),a.2.1,a.2.2.1,a.2.2.2.1,a.2.2.2.2)
theorem B8(a:bR)(b:fc a):Ko (Gv a):=
 aX .o call218 func218 (aj (Cw a b) al) al al λs=>(show _=lQ bl aM a s.1 s.2.1 s.2.2.1 s.2.2.2.1 s.2.2.2.2.1 s.2.2.2.2.2 from by kernel_rfl).trans ((congrArg (λc=>lQ c aM a s.1 s.2.1 s.2.2.1 s.2.2.2.1 s.2.2.2.2.1 s.2.2.2.2.2) aJ).trans ((congrArg (λd=>lQ id d a s.1 s.2.1 s.2.2.1 s.2.2.2.1 s.2.2.2.2.1 s.2.2.2.2.2) aN).trans (by kernel_rfl)))
def JO(a:bR):aq:=⟨214,[eN,(.fn 218 [] []),aS],bG,[(true,0,cD)],λs=>ri a s.2.2.2.2.2.2 s.1 s.2.1 s.2.2.1 s.2.2.2.1 s.2.2.2.2.1 s.2.2.2.2.2.1⟩
def Ea(o:Ex->Ex)(q:Sh->(R:Type)->Option R->Option R)(p:Q2->Option Q3)(ops:Q1)(l:Q6)(a:aD)(g:yx->Option Q3):Int×Int×Int×Int×Int×Int×Int×(List Ex)->Option Q3:=λ⟨f,e,b,d,k,j,i,h⟩=> bif b==0 then (bN ops l f a e b d).bind λm=> bif !m.2 then some ((Ex.mk k j i h),f,e,b,d) else (bc l f a e b d).bind λn=> (gQ p l (i64.wrap (f+1)) a e b d).bind λc=> g (c.2.1,c.2.2.1,c.2.2.2.1,c.2.2.2.2,m.1,0,n.2.2.2,([(Ex.mk k j i h),(o c.1)]:List Ex)) else some ((Ex.mk k j i h),f,e,b,d)
def nL(e:Ex->Ex)(h:Sh->(R:Type)->Option R->Option R)(g:Q2->Option Q3)(ops:Q1)(l:Q6)(at_:Int)(b:aD)(d:Int)(f:Int)(c:Int):Option Q3:= (gQ g l at_ b d f c).bind λa=> aw (Ea e h g ops l b) az (a.2.1,a.2.2.1,a.2.2.2.1,a.2.2.2.2,a.1.op,a.1.n,a.1.at_,a.1.l)
theorem Fe(a:bR)(b:fc a):Ko (JO a):=
 aX (.l ⟨[(true,0,cD),(true,6,Hi),(true,7,L4)],[]⟩ .o) call214 func214 (aj (B8 a b) (aj cT (aj ck al))) al al λs=>(show _=nL bl aM a s.2.2.2.2.2.2 s.1 s.2.1 s.2.2.1 s.2.2.2.1 s.2.2.2.2.1 s.2.2.2.2.2.1 from by kernel_rfl).trans ((congrArg (λc=>nL c aM a s.2.2.2.2.2.2 s.1 s.2.1 s.2.2.1 s.2.2.2.1 s.2.2.2.2.1 s.2.2.2.2.2.1) aJ).trans ((congrArg (λd=>nL id d a s.2.2.2.2.2.2 s.1 s.2.1 s.2.2.1 s.2.2.2.1 s.2.2.2.2.1 s.2.2.2.2.2.1) aN).trans (by kernel_rfl)))
def S7(a:bR):aq:=⟨215,[eN],bG,[(true,0,cD)],λs=>mV a s.1 s.2.1 s.2.2.1 s.2.2.2.1 s.2.2.2.2.1 s.2.2.2.2.2⟩
def uY(e:Ex->Ex)(h:Sh->(R:Type)->Option R->Option R)(g:Q2->Option Q3)(l:Q6)(at_:Int)(c:aD)(d:Int)(f:Int)(b:Int):Option Q3:= (ri g ([16]:x6) l at_ c d f b).bind λa=> some ((e a.1),a.2.1,a.2.2.1,a.2.2.2.1,a.2.2.2.2)
theorem Mr(a:bR)(b:fc a):Ko (S7 a):=
 aX .o call215 func215 (aj (Fe a b) al) al al λs=>(show _=uY bl aM a s.1 s.2.1 s.2.2.1 s.2.2.2.1 s.2.2.2.2.1 s.2.2.2.2.2 from by kernel_rfl).trans ((congrArg (λc=>uY c aM a s.1 s.2.1 s.2.2.1 s.2.2.2.1 s.2.2.2.2.1 s.2.2.2.2.2) aJ).trans ((congrArg (λd=>uY id d a s.1 s.2.1 s.2.2.1 s.2.2.2.1 s.2.2.2.2.1 s.2.2.2.2.2) aN).trans (by kernel_rfl)))
def RW(a:bR):aq:=⟨214,[eN,(.fn 215 [] []),aS],bG,[(true,0,cD)],λs=>vZ a s.2.2.2.2.2.2 s.1 s.2.1 s.2.2.1 s.2.2.2.1 s.2.2.2.2.1 s.2.2.2.2.2.1⟩
def Kc(o:Ex->Ex)(q:Sh->(R:Type)->Option R->Option R)(p:Q2->Option Q3)(ops:Q1)(l:Q6)(a:aD)(g:yx->Option Q3):Int×Int×Int×Int×Int×Int×Int×(List Ex)->Option Q3:=λ⟨f,e,b,d,k,j,i,h⟩=> bif b==0 then (bN ops l f a e b d).bind λm=> bif !m.2 then some ((Ex.mk k j i h),f,e,b,d) else (bc l f a e b d).bind λn=> (mV p l (i64.wrap (f+1)) a e b d).bind λc=> g (c.2.1,c.2.2.1,c.2.2.2.1,c.2.2.2.2,m.1,0,n.2.2.2,([(Ex.mk k j i h),(o c.1)]:List Ex)) else some ((Ex.mk k j i h),f,e,b,d)
def rU(e:Ex->Ex)(h:Sh->(R:Type)->Option R->Option R)(g:Q2->Option Q3)(ops:Q1)(l:Q6)(at_:Int)(b:aD)(d:Int)(f:Int)(c:Int):Option Q3:= (mV g l at_ b d f c).bind λa=> aw (Kc e h g ops l b) az (a.2.1,a.2.2.1,a.2.2.2.1,a.2.2.2.2,a.1.op,a.1.n,a.1.at_,a.1.l)
theorem JM(a:bR)(b:fc a):Ko (RW a):=
 aX (.l ⟨[(true,0,cD),(true,6,Hi),(true,7,L4)],[]⟩ .o) call214 func214 (aj (Mr a b) (aj cT (aj ck al))) al al λs=>(show _=rU bl aM a s.2.2.2.2.2.2 s.1 s.2.1 s.2.2.1 s.2.2.2.1 s.2.2.2.2.1 s.2.2.2.2.2.1 from by kernel_rfl).trans ((congrArg (λc=>rU c aM a s.2.2.2.2.2.2 s.1 s.2.1 s.2.2.1 s.2.2.2.1 s.2.2.2.2.1 s.2.2.2.2.2.1) aJ).trans ((congrArg (λd=>rU id d a s.2.2.2.2.2.2 s.1 s.2.1 s.2.2.1 s.2.2.2.1 s.2.2.2.2.1 s.2.2.2.2.2.1) aN).trans (by kernel_rfl)))
def Wu(a:bR):aq:=⟨206,[eN],bG,[(true,0,cD)],λs=>Bv a s.1 s.2.1 s.2.2.1 s.2.2.2.1 s.2.2.2.2.1 s.2.2.2.2.2⟩
def wb(e:Ex->Ex)(h:Sh->(R:Type)->Option R->Option R)(g:Q2->Option Q3)(l:Q6)(at_:Int)(c:aD)(d:Int)(f:Int)(b:Int):Option Q3:= (vZ g ([17]:x6) l at_ c d f b).bind λa=> some ((e a.1),a.2.1,a.2.2.1,a.2.2.2.1,a.2.2.2.2)
theorem Nz(a:bR)(b:fc a):Ko (Wu a):=
 aX .o call206 func206 (aj (JM a b) al) al al λs=>(show _=wb bl aM a s.1 s.2.1 s.2.2.1 s.2.2.2.1 s.2.2.2.2.1 s.2.2.2.2.2 from by kernel_rfl).trans ((congrArg (λc=>wb c aM a s.1 s.2.1 s.2.2.1 s.2.2.2.1 s.2.2.2.2.1 s.2.2.2.2.2) aJ).trans ((congrArg (λd=>wb id d a s.1 s.2.1 s.2.2.1 s.2.2.2.1 s.2.2.2.2.1 s.2.2.2.2.2) aN).trans (by kernel_rfl)))
def Hq(a:bR)(b:Vx):aq:=⟨137,[eN,(.fn 206 [] []),Np,aS],bG,[(true,0,cD)],λs=>pd a b s.2.2.2.2.2.2 s.1 s.2.1 s.2.2.1 s.2.2.2.1 s.2.2.2.2.1 s.2.2.2.2.2.1⟩
def mn(e:Ex->Ex)(p:Sh->(R:Type)->Option R->Option R)(o:Q2->Option Q3)(n:Q2->Option Q3)(ops:Q1)(l:Q6)(at_:Int)(b:aD)(g:Int)(i:Int)(d:Int):Option Q3:= (Bv o l at_ b g i d).bind λa=> (bN ops l a.2.1 b a.2.2.1 a.2.2.2.1 a.2.2.2.2).bind λf=> ai (a.2.2.2.1 != 0) λm=> ai (!f.2) λk=> ai (m||k) λj=> bif j then ( some ((e a.1),a.2.1,a.2.2.1,a.2.2.2.1,a.2.2.2.2)) else ( (bc l a.2.1 b a.2.2.1 a.2.2.2.1 a.2.2.2.2).bind λh=> (n (l,(i64.wrap (a.2.1+1)),b,a.2.2.1,a.2.2.2.1,a.2.2.2.2)).bind λc=> some ((Ex.mk f.1 0 h.2.2.2 ([(e a.1),(e c.1)]:List Ex)),c.2.1,c.2.2.1,c.2.2.2.1,c.2.2.2.2))
theorem CE(a:bR)(c:fc a)(b:Vx)(e:OK9 b):Ko (Hq a b):=
 aX .o call137 func137 (aj (Nz a c) (aj cT (aj ck (aj e al)))) al al λs=>(show _=mn bl aM a b s.2.2.2.2.2.2 s.1 s.2.1 s.2.2.1 s.2.2.2.1 s.2.2.2.2.1 s.2.2.2.2.2.1 from by kernel_rfl).trans ((congrArg (λd=>mn d aM a b s.2.2.2.2.2.2 s.1 s.2.1 s.2.2.1 s.2.2.2.1 s.2.2.2.2.1 s.2.2.2.2.2.1) aJ).trans ((congrArg (λf=>mn id f a b s.2.2.2.2.2.2 s.1 s.2.1 s.2.2.1 s.2.2.2.1 s.2.2.2.2.1 s.2.2.2.2.2.1) aN).trans (by kernel_rfl)))
def Vo(a:bR)(b:Vx):aq:=⟨184,[eN],bG,[(true,0,cD)],λs=>yl a b s.1 s.2.1 s.2.2.1 s.2.2.2.1 s.2.2.2.2.1 s.2.2.2.2.2⟩
def tN(e:Ex->Ex)(i:Sh->(R:Type)->Option R->Option R)(h:Q2->Option Q3)(g:Q2->Option Q3)(l:Q6)(at_:Int)(c:aD)(d:Int)(f:Int)(b:Int):Option Q3:= (pd h g ([18]:x6) l at_ c d f b).bind λa=> some ((e a.1),a.2.1,a.2.2.1,a.2.2.2.1,a.2.2.2.2)
theorem KA(a:bR)(c:fc a)(b:Vx)(e:OK9 b):Ko (Vo a b):=
 aX .o call184 func184 (aj (CE a c b e) al) al al λs=>(show _=tN bl aM a b s.1 s.2.1 s.2.2.1 s.2.2.2.1 s.2.2.2.2.1 s.2.2.2.2.2 from by kernel_rfl).trans ((congrArg (λd=>tN d aM a b s.1 s.2.1 s.2.2.1 s.2.2.2.1 s.2.2.2.2.1 s.2.2.2.2.2) aJ).trans ((congrArg (λf=>tN id f a b s.1 s.2.1 s.2.2.1 s.2.2.2.1 s.2.2.2.2.1 s.2.2.2.2.2) aN).trans (by kernel_rfl)))
def tC(a:bR):aq:=⟨91,[eN,Np],bG,[(true,0,cD)],λs=>oD a s.1 s.2.1 s.2.2.1 s.2.2.2.1 s.2.2.2.2.1 s.2.2.2.2.2⟩
def kS(f:Ex->Ex)(j:Sh->(R:Type)->Option R->Option R)(i:Q2->Option Q3)(h:Q2->Option Q3)(l:Q6)(at_:Int)(d:aD)(a:Int)(g:Int)(c:Int):Option Q3:= bif decide (320<=a) then (ca 9 l at_ d a g c).bind λe=> some ((f e.1),at_,a,e.2.1,e.2.2) else (yl i h l at_ d (i64.wrap (a+1)) g c).bind λb=> some ((f b.1),b.2.1,(i64.wrap (b.2.2.1-1)),b.2.2.2.1,b.2.2.2.2)
def ui(a:bR):Vx->Vx:=λb s=>ub a b s.1 s.2.1 s.2.2.1 s.2.2.2.1 s.2.2.2.2.1 s.2.2.2.2.2
theorem Ao(a:bR)(c:fc a)(b:Vx)(e:OK9 b):(iL (ui a b)).Ok X0.P X0.Γ:=
 aX .o call91 func91 (aj fk (aj (KA a c b e) al)) al al λs=>(show _=kS bl aM a b s.1 s.2.1 s.2.2.1 s.2.2.2.1 s.2.2.2.2.1 s.2.2.2.2.2 from by kernel_rfl).trans ((congrArg (λd=>kS d aM a b s.1 s.2.1 s.2.2.1 s.2.2.2.1 s.2.2.2.2.1 s.2.2.2.2.2) aJ).trans ((congrArg (λf=>kS id f a b s.1 s.2.1 s.2.2.1 s.2.2.2.1 s.2.2.2.2.1 s.2.2.2.2.2) aN).trans (by kernel_rfl)))
theorem CR(a:bR)(b:fc a):Ko (tC a):=(show tC a=iL (aw (ui a) az) by kernel_rfl)▸dN (X:=X0) (E:=iL) ⟨call91,λ_ _ h=>nomatch h⟩ (Ao a b) az
def JU(a:bR):aq:=⟨138,[eN],bG,[(true,0,cD)],λs=>pS a s.1 s.2.1 s.2.2.1 s.2.2.2.1 s.2.2.2.2.1 s.2.2.2.2.2⟩
def nt(e:Ex->Ex)(h:Sh->(R:Type)->Option R->Option R)(g:Q2->Option Q3)(l:Q6)(at_:Int)(c:aD)(d:Int)(f:Int)(b:Int):Option Q3:= (oD g l at_ c d f b).bind λa=> some ((e a.1),a.2.1,a.2.2.1,a.2.2.2.1,a.2.2.2.2)
theorem Fg(a:bR)(b:fc a):Ko (JU a):=
 aX .o call138 func138 (aj (CR a b) al) al al λs=>(show _=nt bl aM a s.1 s.2.1 s.2.2.1 s.2.2.2.1 s.2.2.2.2.1 s.2.2.2.2.2 from by kernel_rfl).trans ((congrArg (λc=>nt c aM a s.1 s.2.1 s.2.2.1 s.2.2.2.1 s.2.2.2.2.1 s.2.2.2.2.2) aJ).trans ((congrArg (λd=>nt id d a s.1 s.2.1 s.2.2.1 s.2.2.2.1 s.2.2.2.2.1 s.2.2.2.2.2) aN).trans (by kernel_rfl)))
def NQ(a:bR):aq:=⟨137,[eN,(.fn 138 [] []),(.fn 92 [] []),aS],bG,[(true,0,cD)],λs=>uC a s.2.2.2.2.2.2 s.1 s.2.1 s.2.2.1 s.2.2.2.1 s.2.2.2.2.1 s.2.2.2.2.2.1⟩
def rn(e:Ex->Ex)(o:Sh->(R:Type)->Option R->Option R)(n:Q2->Option Q3)(ops:Q1)(l:Q6)(at_:Int)(b:aD)(g:Int)(i:Int)(d:Int):Option Q3:= (pS n l at_ b g i d).bind λa=> (bN ops l a.2.1 b a.2.2.1 a.2.2.2.1 a.2.2.2.2).bind λf=> ai (a.2.2.2.1 != 0) λm=> ai (!f.2) λk=> ai (m||k) λj=> bif j then ( some ((e a.1),a.2.1,a.2.2.1,a.2.2.2.1,a.2.2.2.2)) else ( (bc l a.2.1 b a.2.2.1 a.2.2.2.1 a.2.2.2.2).bind λh=> (n (l,(i64.wrap (a.2.1+1)),b,a.2.2.1,a.2.2.2.1,a.2.2.2.2)).bind λc=> some ((Ex.mk f.1 0 h.2.2.2 ([(e a.1),(e c.1)]:List Ex)),c.2.1,c.2.2.1,c.2.2.2.1,c.2.2.2.2))
theorem HE(a:bR)(b:fc a):Ko (NQ a):=
 aX .o call137 func137 (aj (Fg a b) (aj cT (aj ck (aj b al)))) al al λs=>(show _=rn bl aM a s.2.2.2.2.2.2 s.1 s.2.1 s.2.2.1 s.2.2.2.1 s.2.2.2.2.1 s.2.2.2.2.2.1 from by kernel_rfl).trans ((congrArg (λc=>rn c aM a s.2.2.2.2.2.2 s.1 s.2.1 s.2.2.1 s.2.2.2.1 s.2.2.2.2.1 s.2.2.2.2.2.1) aJ).trans ((congrArg (λd=>rn id d a s.2.2.2.2.2.2 s.1 s.2.1 s.2.2.1 s.2.2.2.1 s.2.2.2.2.1 s.2.2.2.2.2.1) aN).trans (by kernel_rfl)))
def R4(a:bR):aq:=⟨92,[eN],bG,[(true,0,cD)],λs=>xK a s.1 s.2.1 s.2.2.1 s.2.2.2.1 s.2.2.2.2.1 s.2.2.2.2.2⟩
def tX(e:Ex->Ex)(h:Sh->(R:Type)->Option R->Option R)(g:Q2->Option Q3)(l:Q6)(at_:Int)(c:aD)(d:Int)(f:Int)(b:Int):Option Q3:= (uC g ([19]:x6) l at_ c d f b).bind λa=> some ((e a.1),a.2.1,a.2.2.1,a.2.2.2.1,a.2.2.2.2)
theorem L5(a:bR)(b:fc a):Ko (R4 a):=
 aX .o call92 func92 (aj (HE a b) al) al al λs=>(show _=tX bl aM a s.1 s.2.1 s.2.2.1 s.2.2.2.1 s.2.2.2.2.1 s.2.2.2.2.2 from by kernel_rfl).trans ((congrArg (λc=>tX c aM a s.1 s.2.1 s.2.2.1 s.2.2.2.1 s.2.2.2.2.1 s.2.2.2.2.2) aJ).trans ((congrArg (λd=>tX id d a s.1 s.2.1 s.2.2.1 s.2.2.2.1 s.2.2.2.2.1 s.2.2.2.2.2) aN).trans (by kernel_rfl)))
def yA:aq:=⟨91,[eN,(.fn 92 [] [])],bG,[(true,0,cD)],U6 tI⟩
def nJ(f:Ex->Ex)(i:Sh->(R:Type)->Option R->Option R)(h:Q2->Option Q3)(l:Q6)(at_:Int)(d:aD)(a:Int)(g:Int)(c:Int):Option Q3:= bif decide (320<=a) then (ca 9 l at_ d a g c).bind λe=> some ((f e.1),at_,a,e.2.1,e.2.2) else (xK h l at_ d (i64.wrap (a+1)) g c).bind λb=> some ((f b.1),b.2.1,(i64.wrap (b.2.2.1-1)),b.2.2.2.1,b.2.2.2.2)
def yB:bR->bR:=λa s=>yK a s.1 s.2.1 s.2.2.1 s.2.2.2.1 s.2.2.2.2.1 s.2.2.2.2.2
theorem El(a:bR)(b:fc a):(kC (yB a)).Ok X0.P X0.Γ:=
 aX .o call91 func91 (aj fk (aj (L5 a b) al)) al al λs=>(show _=nJ bl aM a s.1 s.2.1 s.2.2.1 s.2.2.2.1 s.2.2.2.2.1 s.2.2.2.2.2 from by kernel_rfl).trans ((congrArg (λc=>nJ c aM a s.1 s.2.1 s.2.2.1 s.2.2.2.1 s.2.2.2.2.1 s.2.2.2.2.2) aJ).trans ((congrArg (λd=>nJ id d a s.1 s.2.1 s.2.2.1 s.2.2.2.1 s.2.2.2.2.1 s.2.2.2.2.2) aN).trans (by kernel_rfl)))
theorem IF:Ko yA:=(show yA=kC (aw (yB) az) by kernel_rfl)▸dN (X:=X0) (E:=kC) ⟨call91,λ_ _ h=>nomatch h⟩ (El) az
def ab7:aq:=⟨58,[(.sli nE),an,(.sli .s)],(.cG [bG,an,an,an]),[],U3 IZ⟩
def B1(c:Ex->Ex)(d:Sh->(R:Type)->Option R->Option R)(l:Q6)(at_:Int)(b:aD):Option Pj:= (tI l at_ b 0 0 0).bind λa=> bif a.2.2.2.1 != 0 then some ((Ex.mk 0 0 0 []),0,a.2.2.2.1,a.2.2.2.2) else some ((c a.1),a.2.1,0,0)
theorem VE:Ko ab7:=
 aX (.c (.r [6] .o) (.r [6] .o)) call58 func58 (aj IF al) al al λs=>(show _=B1 bl aM s.1 s.2.1 s.2.2 from by kernel_rfl).trans ((congrArg (λa=>B1 a aM s.1 s.2.1 s.2.2) aJ).trans ((congrArg (λb=>B1 id b s.1 s.2.1 s.2.2) aN).trans (by kernel_rfl)))
def aiP:aq:=⟨112,[fF],.bool,[],λs=>pD s⟩
def LX(a:Ex->Ex)(g:Sh->(R:Type)->Option R->Option R)(e:Ex):w4:= (kD (a e)).bind λd=> ai (d.2.1==0) λf=> ai (d.1==2) λc=> ai (f&&c) λb=> some b
theorem Bw:Ko aiP:=
 aX .o call112 func112 (aj pF al) al al λs=>(show _=LX bl aM s from by kernel_rfl).trans ((congrArg (λa=>LX a aM s) aJ).trans ((congrArg (λb=>LX id b s) aN).trans (by kernel_rfl)))
def Zj(a:IA):aq:=⟨185,[an,.bool,W4,(.bx 261 0 true [Bo])],fF,[(true,3,aap),(true,1003,Bo)],λs=>bA a s.1 s.2.1 s.2.2.1 s.2.2.2.1 s.2.2.2.2.1 s.2.2.2.2.2.1 s.2.2.2.2.2.2⟩
def ym(b:Ex->Ex)(e:Sh->(R:Type)->Option R->Option R)(d:Pc->Option jf)(i:Int)(not:Bool)(f:Int)(h:Int)(g:Int)(L:(List Ex))(x:Int):Option jf:= (idx L i).bind λc=> (d ((b c),not,x)).bind λa=> some ((b a.1),a.2)
theorem Cc(a:IA)(b:amA a):Ko (Zj a):=
 aX (.r [3,6] .o) call185 func185 (aj b al) al al λs=>(show _=ym bl aM a s.1 s.2.1 s.2.2.1 s.2.2.2.1 s.2.2.2.2.1 s.2.2.2.2.2.1 s.2.2.2.2.2.2 from by kernel_rfl).trans ((congrArg (λc=>ym c aM a s.1 s.2.1 s.2.2.1 s.2.2.2.1 s.2.2.2.2.1 s.2.2.2.2.2.1 s.2.2.2.2.2.2) aJ).trans ((congrArg (λd=>ym id d a s.1 s.2.1 s.2.2.1 s.2.2.2.1 s.2.2.2.2.1 s.2.2.2.2.2.1 s.2.2.2.2.2.2) aN).trans (by kernel_rfl)))
def ZS:aq:=⟨186,[an,an,fF,fF,Ns,W4],bG,[],U9 dV⟩
def QM(d:Ex->Ex)(e:Sh->(R:Type)->Option R->Option R)(a:Ex)(b:Ex)(At:Int)(c:Int):Option Ex:= some (Ex.mk c 0 At ([(d a),(d b)]:List Ex))
def yk(f:Ex->Ex)(g:Sh->(R:Type)->Option R->Option R)(op:Int)(d:Int)(a:Ex)(b:Ex)(x:Bool)(h:Int)(i:Int)(At:Int)(j:(List Ex)):Option Ex:= ai (λ(e:Int)=>QM f g a b At e) λc=> bif x then ( c d) else ( c op)
theorem Qo:Ko ZS:=
 aX (.s (.j ⟨[(false,0,an)],[]⟩ .o .o)) call186 func186 al al al λs=>(show _=yk bl aM s.1 s.2.1 s.2.2.1 s.2.2.2.1 s.2.2.2.2.1 s.2.2.2.2.2.1 s.2.2.2.2.2.2.1 s.2.2.2.2.2.2.2.1 s.2.2.2.2.2.2.2.2 from by kernel_rfl).trans ((congrArg (λa=>yk a aM s.1 s.2.1 s.2.2.1 s.2.2.2.1 s.2.2.2.2.1 s.2.2.2.2.2.1 s.2.2.2.2.2.2.1 s.2.2.2.2.2.2.2.1 s.2.2.2.2.2.2.2.2) aJ).trans ((congrArg (λb=>yk id b s.1 s.2.1 s.2.2.1 s.2.2.2.1 s.2.2.2.2.1 s.2.2.2.2.2.1 s.2.2.2.2.2.2.1 s.2.2.2.2.2.2.2.1 s.2.2.2.2.2.2.2.2) aN).trans (by kernel_rfl)))
def Z8(a:IA):aq:=⟨188,[.bool,.bool,W4,(.bx 304 0 true [(.fn 185 [] [(.ptr 0 0),(.bx 261 0 true [Bo])])])],bG,[(true,3,(.bx 304 0 true [.same])),(true,1003,aap),(true,1004,Bo)],λs=>rD a s.1 s.2.1 s.2.2.1 s.2.2.2.1 s.2.2.2.2.1 s.2.2.2.2.2.1 s.2.2.2.2.2.2⟩
def xL(d:Ex->Ex)(g:Sh->(R:Type)->Option R->Option R)(e:Pc->Option jf)(x:Bool)(y:Bool)(f:Int)(N:Int)(At:Int)(L:(List Ex))(c:Int):Option jf:= (bA e 0 x f N At L c).bind λb=> (bA e 1 y f N At L b.2).bind λa=> some ((Ex.mk 16 0 At ([(d b.1),(d a.1)]:List Ex)),a.2)
theorem PN(a:IA)(b:amA a):Ko (Z8 a):=
 aX (.r [3,6] .o) call188 func188 (aj (Cc a b) al) al al λs=>(show _=xL bl aM a s.1 s.2.1 s.2.2.1 s.2.2.2.1 s.2.2.2.2.1 s.2.2.2.2.2.1 s.2.2.2.2.2.2 from by kernel_rfl).trans ((congrArg (λc=>xL c aM a s.1 s.2.1 s.2.2.1 s.2.2.2.1 s.2.2.2.2.1 s.2.2.2.2.2.1 s.2.2.2.2.2.2) aJ).trans ((congrArg (λd=>xL id d a s.1 s.2.1 s.2.2.1 s.2.2.2.1 s.2.2.2.2.1 s.2.2.2.2.2.1 s.2.2.2.2.2.2) aN).trans (by kernel_rfl)))
def Zv:aq:=⟨187,[an,an,(.bx 261 0 true [Bo]),Ns,W4],bG,[(true,2,aap),(true,1001,Bo)],λs=>rL s.1 s.2.1 s.2.2.2.1 s.2.2.2.2.1 s.2.2.2.2.2.1 s.2.2.2.2.2.2.1 s.2.2.2.2.2.2.2 s.2.2.1⟩
theorem Ql:Ko Zv:=
 ax .o call187 func187 al
def Uw:aq:=⟨139,[fF,.bool,Bo],fF,[(true,2,Bo)],U3 RN⟩
def ZO(b:Ex->Ex)(i:Sh->(R:Type)->Option R->Option R)(h:Pc->Option jf)(e:Ex)(not:Bool)(c:Int)(a:Bool):Option jf:= (bA h 0 a e.op e.n e.at_ e.l (i64.wrap (c-1))).bind λf=> (bA h 1 not e.op e.n e.at_ e.l f.2).bind λd=> (dV 17 16 (b f.1) (b d.1) not e.op e.n e.at_ e.l).bind λg=> some ((b g),d.2)
def Ba(a:Ex->Ex)(C:Sh->(R:Type)->Option R->Option R)(c:Pc->Option jf)(e:Ex)(not:Bool)(b:Int):Option jf:= bif decide ((i64.wrap (b-1))<0) then some ((Ex.mk 0 0 0 []),(i64.wrap (b-1))) else (pD (a e)).bind λB=> bif B then ( bif not then ( some ((Ex.mk 15 0 e.at_ ([(a e)]:List Ex)),(i64.wrap (b-1)))) else ( some ((a e),(i64.wrap (b-1))))) else ( ai (λ(z:Bool)=>ZO a C c e not b z) λo=> bif e.op==15 then (bA c 0 (!not) e.op e.n e.at_ e.l (i64.wrap ((i64.wrap (b-1))+1))).bind λu=> some ((a u.1),u.2) else bif e.op==18 then o (!not) else bif e.op==17 then o not else bif e.op==16 then (bA c 0 not e.op e.n e.at_ e.l (i64.wrap (b-1))).bind λt=> (bA c 1 not e.op e.n e.at_ e.l t.2).bind λs=> (dV 16 17 (a t.1) (a s.1) not e.op e.n e.at_ e.l).bind λA=> some ((a A),s.2) else bif e.op==19 then (rD c false not e.op e.n e.at_ e.l (i64.wrap ((i64.wrap (b-1))-2))).bind λr=> (rD c true (!not) e.op e.n e.at_ e.l r.2).bind λq=> some ((Ex.mk 17 0 e.at_ ([(a r.1),(a q.1)]:List Ex)),q.2) else bif e.op==20 then (bA c 0 not e.op e.n e.at_ e.l (i64.wrap (b-1))).bind λp=> some ((Ex.mk 20 0 e.at_ ([(a p.1)]:List Ex)),p.2) else bif e.op==21 then (rL 13 14 not e.op e.n e.at_ e.l (i64.wrap (b-1))).bind λm=> (bA c 0 not e.op e.n e.at_ e.l m.2).bind λk=> (dV 23 24 (a m.1) (a k.1) not e.op e.n e.at_ e.l).bind λy=> some ((a y),k.2) else bif e.op==22 then (rL 14 13 not e.op e.n e.at_ e.l (i64.wrap (b-1))).bind λj=> (bA c 0 not e.op e.n e.at_ e.l j.2).bind λi=> (dV 24 23 (a j.1) (a i.1) not e.op e.n e.at_ e.l).bind λx=> some ((a x),i.2) else bif e.op==23 then (bA c 0 not e.op e.n e.at_ e.l (i64.wrap (b-1))).bind λh=> (bA c 1 not e.op e.n e.at_ e.l h.2).bind λg=> (dV 23 24 (a h.1) (a g.1) not e.op e.n e.at_ e.l).bind λw=> some ((a w),g.2) else (bA c 0 not e.op e.n e.at_ e.l (i64.wrap (b-1))).bind λf=> (bA c 1 not e.op e.n e.at_ e.l f.2).bind λd=> (dV 24 23 (a f.1) (a d.1) not e.op e.n e.at_ e.l).bind λv=> some ((a v),d.2))
def UD:IA->IA:=λa s=>Sn a s.1 s.2.1 s.2.2
theorem Sf(a:IA)(b:amA a):(wX (UD a)).Ok X0.P X0.Γ:=
 aX (.c .o (.c .o (.s (.s (.s (.s (.s (.s (.s (.s (.s (.s (.s (.s (.j ⟨[(true,6,Hi),(true,7,(.bx 304 0 true [.same])),(true,5,aap),(true,2,(.bx 3 0 true [.same])),(false,10,.bool)],[]⟩ (.c .o (.c .o (.c .o (.c (.r [9,6] .o) (.c (.r [11,6] .o) (.c (.r [7,6] .o) (.c (.r [9,6] .o) (.c (.r [9,6] .o) (.c (.r [7,4,6] .o) (.r [7,4,6] .o)))))))))) (.r [7,4,6] .o)))))))))))))))) call139 func139 (aj Bw (aj (Cc a b) (aj Qo (aj (PN a b) (aj Ql al))))) al al λs=>(show _=Ba bl aM a s.1 s.2.1 s.2.2 from by kernel_rfl).trans ((congrArg (λd=>Ba d aM a s.1 s.2.1 s.2.2) aJ).trans ((congrArg (λe=>Ba id e a s.1 s.2.1 s.2.2) aN).trans (by kernel_rfl)))
theorem Y3:Ko Uw:=(show Uw=wX (aw (UD) az) by kernel_rfl)▸dN (X:=X0) (E:=wX) ⟨call139,λ_ _ h=>nomatch h⟩ (Sf) az
def ahF:aq:=⟨93,[fF,.bool],(.cG [fF,an]),[],U2 PU⟩
def IY(b:Ex->Ex)(c:Sh->(R:Type)->Option R->Option R)(e:Ex)(not:Bool):Option jf:= (RN (b e) not 24).bind λa=> bif decide (a.2<0) then some ((Ex.mk 0 0 0 []),9) else some ((b a.1),0)
theorem Zc:Ko ahF:=
 aX .o call93 func93 (aj Y3 al) al al λs=>(show _=IY bl aM s.1 s.2 from by kernel_rfl).trans ((congrArg (λa=>IY a aM s.1 s.2) aJ).trans ((congrArg (λb=>IY id b s.1 s.2) aN).trans (by kernel_rfl)))
def ajR:aq:=⟨60,[fF],(.cG [fF,an]),[],λs=>G0 s⟩
def LK(a:Ex->Ex)(c:Sh->(R:Type)->Option R->Option R)(e:Ex):Option jf:= (PU (a e) true).bind λb=> some ((a b.1),b.2)
theorem MM:Ko ajR:=
 aX .o call60 func60 (aj Zc al) al al λs=>(show _=LK bl aM s from by kernel_rfl).trans ((congrArg (λa=>LK a aM s) aJ).trans ((congrArg (λb=>LK id b s) aN).trans (by kernel_rfl)))
def Uv:aq:=⟨43,[.str,(.sli .s)],(.cG [fF,an,an]),[],U2 Js⟩
def tQ(d:Ex->Ex)(j:Sh->(R:Type)->Option R->Option R)(f:aE)(c:aD):Option (Ex×Int×Int):= (Aq f).bind λe=> bif e.2.1 != 0 then some ((Ex.mk 0 0 0 []),e.2.1,e.2.2) else (IZ e.1 0 c).bind λa=> bif a.2.2.1 != 0 then some ((Ex.mk 0 0 0 []),a.2.2.1,a.2.2.2) else (idx e.1 a.2.1).bind λi=> bif i.1 != 4 then (idx e.1 a.2.1).bind λh=> some ((Ex.mk 0 0 0 []),2,h.2.2.2) else (kD (d a.1)).bind λb=> bif b.2.1 != 0 then some ((Ex.mk 0 0 0 []),b.2.1,b.2.2) else bif b.1==1 then some ((Ex.mk 0 0 0 []),4,a.1.at_) else (G0 (d a.1)).bind λg=> bif g.2 != 0 then some ((Ex.mk 0 0 0 []),g.2,a.1.at_) else some ((d a.1),0,0)
theorem Kk:Ko Uv:=
 aX (.c .o (.c .o (.c (.r [4] .o) (.c .o (.c (.r [4] .o) (.c (.r [4] .o) .o)))))) call43 func43 (aj Dk (aj VE (aj pF (aj MM al)))) al al λs=>(show _=tQ bl aM s.1 s.2 from by kernel_rfl).trans ((congrArg (λa=>tQ a aM s.1 s.2) aJ).trans ((congrArg (λb=>tQ id b s.1 s.2) aN).trans (by kernel_rfl)))
def JL:aq:=⟨42,[ahE,an,an,aS],.bool,[(true,0,agU)],λs=>iW (d8 (d8 s)).2.2.2.2.2.2.2.1 (d8 (d8 (d8 s))).1 (d8 (d8 (d8 s))).2 s.1 s.2.1 s.2.2.1 s.2.2.2.1 s.2.2.2.2.1 s.2.2.2.2.2.1 s.2.2.2.2.2.2.1 s.2.2.2.2.2.2.2.1 s.2.2.2.2.2.2.2.2.1 (d8 s).2.1 (d8 s).2.2.1 (d8 s).2.2.2.1 (d8 s).2.2.2.2.1 (d8 s).2.2.2.2.2.1 (d8 s).2.2.2.2.2.2.1 (d8 s).2.2.2.2.2.2.2.1 (d8 (d8 s)).1 (d8 (d8 s)).2.1 (d8 (d8 s)).2.2.1 (d8 (d8 s)).2.2.2.1 (d8 (d8 s)).2.2.2.2.1 (d8 (d8 s)).2.2.2.2.2.1 (d8 (d8 s)).2.2.2.2.2.2.1⟩
theorem hU:Ko JL:=
 ax .o call42 func42 al
def NR:aq:=⟨34,[(.bx 81 0 true [.str,.str,an,an,an,mK,an,an,sG,H7,fp,sG,Qv,an,an,an,(.own .ex 79 true),an,an,an,fp,gR,gR])],.bool,[(true,0,(.bx 81 0 true [.same,.same,.same,.same,.same,.same,.same,.same,(.sli .s),gE,aS,(.sli .s),(.sli sM),an,an,an,(.sli .ex),an,an,an,aS,gR,gR]))],λs=>DP s.1 s.2.1 s.2.2.1 s.2.2.2.1 s.2.2.2.2.1 s.2.2.2.2.2.1 s.2.2.2.2.2.2.1 s.2.2.2.2.2.2.2.1 s.2.2.2.2.2.2.2.2.1 (d8 s).2.1 (d8 s).2.2.1 (d8 s).2.2.2.1 (d8 s).2.2.2.2.1 (d8 s).2.2.2.2.2.1 (d8 s).2.2.2.2.2.2.1 (d8 s).2.2.2.2.2.2.2.1 (d8 (d8 s)).1 (d8 (d8 s)).2.1 (d8 (d8 s)).2.2.1 (d8 (d8 s)).2.2.2.1 (d8 (d8 s)).2.2.2.2.1 (d8 (d8 s)).2.2.2.2.2.1 (d8 (d8 s)).2.2.2.2.2.2⟩
theorem Hs:Ko NR:=
 ax (.c .o (.r [40000] .o)) call34 func34 (aj Qp (aj JJ (aj Kk (aj hU al))))
def Mp:aq:=⟨95,[gE,(.fn 96 [] [])],dT,[],λs=>Bs s⟩
theorem GC:Ko Mp:=
 ax (.l ⟨[(true,5,dT),(false,13,an)],[]⟩ .o) call95 func95 (aj uF al)
def XH:aq:=⟨61,[gE],.bool,[],λs=>AX s⟩
theorem yy:Ko XH:=
 ax .o call61 func61 (aj GC (aj gf al))
def YZ:aq:=⟨62,[],(.sli .n),[],λ_=>wP⟩
theorem BZ:Ko YZ:=
 ax .o call62 func62 al
def p9:aq:=⟨63,[gE],H7,[],λs=>fG s⟩
def pR(s:Q8):Option Q8:= wg s ( some []) ( aH (aG (List.length ([]:List cz)+List.length s) 16)<| some (([]:List cz)++s))
theorem gY:Ko p9:=
 aX .o call63 func63 al al al λs=>(show _=pR s from by kernel_rfl).trans kr
def OA:aq:=⟨256,[an],(.cG [(.dat eP [some 109,some 7]),an]),[],λs=>oM s⟩
theorem wc:Ko OA:=
 ax .o call256 func256 al
def ah0:aq:=⟨251,[an],(.cG [(.dat (.p eP gH) [some 109,some 7,some 11]),an]),[],λs=>aaU s⟩
theorem ZX:Ko ah0:=
 ax .o call251 func251 (aj wc al)
def JZ:aq:=⟨245,[lM,kY,wL],(.cG [(.dat UI [none,some 109,some 7,some 11,none,none,none,none,none,none,none,none,none,none,none,none,none,none,none]),an]),[],U3 yD⟩
theorem Ec:Ko JZ:=
 ax .o call245 func245 (aj ZX al)
def IP:aq:=⟨291,[gE,an],(.cG [(.dat Vl [some 193,some 109,some 7,some 11]),an]),[],U2 ab8⟩
def ZW(g:Nat)(s:Q8)(e:Int)(f:(Q7×Int))(a:((List Q7)×Int)->Option (vp×Int)):(List Q7)×Int->Option (vp×Int):=λ⟨b,c⟩=> bif decide (c<(i64.wrap (Int.tdiv (i64.wrap ((i64.wrap ((s.length:Int)+2))-1)) 2))) then (oM e).bind λd=> aH (aG (List.length b+List.length ([d.1]:List Q7)) 56)<| a ((b++([d.1]:List Q7)),(i64.wrap (c+1))) else some ((b,f.1,[]),0)
def ahH(fl:Nat)(s:Q8)(a:Int):Option (vp×Int):= (oM a).bind λb=> bif b.2 != 0 then some (([],(0,[],[]),[]),b.2) else aw (ZW fl s a b) fl ([],0)
theorem WB(fl:Nat)(s:ew (mu IP.ps)):adA { X0 with fl:=fl } [OA] [] [] (.c .o (.l ⟨[(true,4,agV),(true,8,agP),(false,27,an)],[]⟩ .o)) Tryz.f291 IP s=ahH fl s.1 s.2:=by kernel_rfl
theorem Zy:Ko IP:=
 aX (.c .o (.l ⟨[(true,4,agV),(true,8,agP),(false,27,an)],[]⟩ .o)) call291 func291 (aj wc al) al al λs=>(WB az s).trans (by kernel_rfl)
def HW:aq:=⟨285,[lM,kY,wL],(.cG [(.dat UI [none,none,none,none,some 193,some 109,some 7,some 11,none,none,none,none,none,none,none,none,none,none,none]),an]),[],U3 w6⟩
theorem CH:Ko HW:=
 ax .o call285 func285 (aj Zy al)
def aeN:aq:=⟨313,[an],(.cG [(.dat eP [some 109,some 7]),an]),[],λs=>Yw s⟩
theorem Wz:Ko aeN:=
 ax .o call313 func313 (aj wc al)
def Px:aq:=⟨314,[an],an,[],λs=>DA s⟩
def OG:acu->acu:=λa s=>PJ a s
theorem Qq(a:acu)(b:arb a):(uT (OG a)).Ok X0.P X0.Γ:=
 ax .o call314 func314 (aj b al)
theorem wh:Ko Px:=(show Px=uT (aw (OG) az) by kernel_rfl)▸dN (X:=X0) (E:=uT) ⟨call314,λ_ _ h=>nomatch h⟩ (Qq) az
def aim:aq:=⟨309,[gE,an],(.cG [(.dat R7 [some 699,some 11]),an]),[],U2 aa0⟩
theorem ZL:Ko aim:=
 ax (.c .o (.r [30000,20006] (.l ⟨[(true,4,(.bx 104 0 true [.same,.same])),(true,8,(.bx 104 0 true [(.own eP 349 true),.same])),(false,23,an)],[]⟩ .o))) call309 func309 (aj Wz (aj wh al))
def HK:aq:=⟨303,[lM,kY,wL],(.cG [(.dat UI [none,none,none,none,none,none,none,none,some 699,some 11,none,none,none,none,none,none,none,none,none]),an]),[],U3 xg⟩
theorem CB:Ko HK:=
 ax .o call303 func303 (aj ZL al)
def aep:aq:=⟨275,[mK],an,[],λs=>LC s⟩
theorem GU:Ko aep:=
 ax (.l ⟨[(false,0,mK),(false,3,an)],[]⟩ .o) call275 func275 al
def ME:aq:=⟨267,[(.dat dE [])],an,[],λs=>Ck s⟩
theorem F7:Ko ME:=
 ax .o call267 func267 (aj GU al)
def NT:aq:=⟨266,[gE,(.fn 267 [] [])],fp,[],λs=>vf s⟩
theorem uD:Ko NT:=
 ax (.l ⟨[(true,5,fp),(false,13,an)],[]⟩ .o) call266 func266 (aj F7 al)
def Y4:aq:=⟨278,[gE],an,[],λs=>Pb s⟩
theorem QF:Ko Y4:=
 ax (.l ⟨[(false,3,an),(false,9,an)],[]⟩ .o) call278 func278 (aj uD al)
def V5:aq:=⟨269,[gE],an,[],λs=>Bj s⟩
theorem yP:Ko V5:=
 ax .o call269 func269 (aj QF al)
def aj3:aq:=⟨336,[an],(.cG [(.dat wy [some 705,some 7]),an]),[],λs=>afC s⟩
theorem ado:Ko aj3:=
 ax .o call336 func336 al
def Kb:aq:=⟨330,[lM,kY,wL],y8,[],U3 yL⟩
theorem EF:Ko Kb:=
 ax (.c .o (.l ⟨[(true,4,(.bx 113 0 true [.same,.same,.same,.same,.same,.same,.same,.same,.same,.same,.same,.same,.same,.same,an,(.sli kU),an,an,aS,an,(.sli kU),an,an,aS,an,(.sli kU),an,an,aS,.same,.same,.same,.same,.same,.same])),(true,6,(.bx 113 0 true [.same,.same,.same,.same,.same,.same,.same,.same,.same,.same,.same,.same,.same,.same,.same,.same,.same,.same,.same,.same,.same,.same,.same,.same,.same,.same,.same,.same,.same,.same,.same,.same,.same,.same,.same])),(false,18,an)],[]⟩ .o)) call330 func330 (aj yP (aj ado al))
def ah6:aq:=⟨370,[an,an,mK],(.cG [(.dat EL [some 11,some 11,some 11]),an]),[],U3 acJ⟩
theorem Zp:Ko ah6:=
 ax (.c .o (.l ⟨[(true,6,(.bx 111 0 true [.same,.same,.same,.same,.same,.same])),(true,8,(.bx 111 0 true [.same,.same,.same,gr,gr,gr])),(false,29,an)],[]⟩ .o)) call370 func370 al
def JH:aq:=⟨364,[lM,kY,wL],y8,[],U3 yJ⟩
theorem EG:Ko JH:=
 ax .o call364 func364 (aj Zp al)
def adZ:aq:=⟨44,[gE,wL],y8,[],U2 DK⟩
theorem vY:Ko adZ:=
 ax (.r [] (.c .o (.r [3,40000] .o))) call44 func44 (aj yy (aj BZ (aj gY (aj Ec (aj CH (aj CB (aj EF (aj EG al))))))))
def J9:aq:=⟨35,[ahE],.bool,[(true,0,agU)],λs=>yQ s.1 s.2.1 s.2.2.1 s.2.2.2.1 s.2.2.2.2.1 s.2.2.2.2.2.1 s.2.2.2.2.2.2.1 s.2.2.2.2.2.2.2.1 s.2.2.2.2.2.2.2.2.1 (d8 s).2.1 (d8 s).2.2.1 (d8 s).2.2.2.1 (d8 s).2.2.2.2.1 (d8 s).2.2.2.2.2.1 (d8 s).2.2.2.2.2.2.1 (d8 s).2.2.2.2.2.2.2.1 (d8 (d8 s)).1 (d8 (d8 s)).2.1 (d8 (d8 s)).2.2.1 (d8 (d8 s)).2.2.2.1 (d8 (d8 s)).2.2.2.2.1 (d8 (d8 s)).2.2.2.2.2.1 (d8 (d8 s)).2.2.2.2.2.2⟩
theorem EJ:Ko J9:=
 ax (.r [40000] (.j ⟨[(false,4,an)],[]⟩ .o .o)) call35 func35 (aj vY (aj hU al))
def OH:aq:=⟨97,[gE,aS],an,[],U2 iA⟩
theorem eV:Ko OH:=
 ax (.c .o (.l ⟨[(false,14,an)],[]⟩ .o)) call97 func97 (aj lY al)
def agz:aq:=⟨98,[kY],.ifn,[],λs=>Il s⟩
theorem yo:Ko agz:=
 ax (.r [1] .o) call98 func98 (aj BZ al)
def ZB:aq:=⟨271,[dm],gr,[],λs=>Ei s⟩
def Zi(b:Q1):Option Q1:= wg b ( some []) ( aH (aG (List.length ([]:x6)+List.length b) 1)<| some (([]:x6)++b))
theorem Cf:Ko ZB:=
 aX .o call271 func271 al al al λs=>(show _=Zi s from by kernel_rfl).trans kr
def ajW:aq:=⟨276,[(.dat sD [none])],aas,[],λs=>afk s⟩
theorem abf:Ko ajW:=
 ax .o call276 func276 (aj Cf al)
def WZ:aq:=⟨277,[aas,.bool],ez,[(true,0,aas)],λs=>Mm s.2.2 s.1 s.2.1⟩
theorem N7:Ko WZ:=
 ax (.j ⟨[(true,0,(.bx 395 0 true [gr,.same]))],[]⟩ .o (.j ⟨[(true,0,(.bx 395 0 true [gr,.same]))],[]⟩ (.c (.r [0] .o) .o) .o)) call277 func277 al
def ag9:aq:=⟨268,[(.dat sD [none]),mK,an],(.cG [(.dat sD [none]),an]),[],U3 adu⟩
theorem ZM:Ko ag9:=
 ax (.c .o (.c .o (.l ⟨[(true,6,(.bx 374 0 true [.same,.same])),(true,8,aas),(false,9,an)],[]⟩ (.c (.r [8] .o) .o)))) call268 func268 (aj GU (aj abf (aj N7 al)))
def Df:aq:=⟨259,[gE,aS],(.cG [gr,an]),[],U2 mU⟩
theorem oY:Ko Df:=
 ax (.c .o (.l ⟨[(true,7,(.bx 374 0 true [dm,an])),(false,20,an)],[]⟩ (.c (.r [7] .o) .o))) call259 func259 (aj eV (aj uD (aj ZM (aj yP al))))
def aeL:aq:=⟨253,[kY,aS],dm,[],U2 eQ⟩
theorem dX:Ko aeL:=
 ax .o call253 func253 (aj oY al)
def ZY:aq:=⟨282,[IS],ez,[(true,0,IS)],λs=>OW s⟩
theorem P9:Ko ZY:=
 ax .o call282 func282 al
def Z7:aq:=⟨283,[IS],ez,[(true,0,IS)],λs=>Oz s⟩
theorem Qh:Ko Z7:=
 ax .o call283 func283 al
def Y7:aq:=⟨284,[IS],ez,[(true,0,IS)],λs=>PC s⟩
theorem P2:Ko Y7:=
 ax .o call284 func284 al
def ag0:aq:=⟨280,[dm,mK],mK,[],U2 IV⟩
theorem xX:Ko ag0:=
 ax (.l ⟨[(true,5,IS),(false,15,an)],[]⟩ (.c .o (.n 50 .o))) call280 func280 (aj P9 (aj Qh (aj P2 al)))
def aey:aq:=⟨279,[mK,an],an,[],U2 DZ⟩
theorem vU:Ko aey:=
 ax .o call279 func279 al
def ZH:aq:=⟨281,[dm,dm],.bool,[],U2 EO⟩
theorem Bz:Ko ZH:=
 ax .o call281 func281 al
def NY:aq:=⟨273,[Fs,dm],an,[],U2 uP⟩
theorem tV:Ko NY:=
 ax (.n 0 (.j ⟨[(false,5,an)],[]⟩ .o .o)) call273 func273 (aj xX (aj vU (aj Bz al)))
def NA:aq:=⟨274,[Fs,dm],BC,[],U2 C8⟩
theorem Ia:Ko NA:=
 ax .o call274 func274 (aj tV al)
def abF:aq:=⟨265,[Fs,dm],BC,[],U2 ka⟩
theorem kj:Ko abF:=
 ax .o call265 func265 (aj Ia al)
def I7:aq:=⟨273,[(.dat eP [some 108,some 6]),dm],an,[],U2 xf⟩
theorem CK:Ko I7:=
 ax (.n 0 (.j ⟨[(false,5,an)],[]⟩ .o .o)) call273 func273 (aj xX (aj vU (aj Bz al)))
def KU:aq:=⟨272,[(.bx 384 0 true [an,(.own gH 54 true),aS]),an],ez,[(true,0,(.bx 384 0 true [.same,(.own gH 54 true),aS]))],λs=>Cb s.2.2.2 s.1 s.2.1 s.2.2.1⟩
theorem Gj:Ko KU:=
 ax (.l ⟨[(true,0,(.bx 384 0 true [.same,(.own gH 54 true),fp])),(false,18,(.slr 1)),(false,20,an)],[]⟩ (.c (.r [0] .o) .o)) call272 func272 (aj CK al)
def E8:aq:=⟨101,[aS],fp,[],λs=>cX s⟩
def EP(s:Q1):Option Q1:= wg s ( some []) ( aH (aG (List.length ([]:x6)+List.length s) 8)<| some (([]:x6)++s))
theorem dy:Ko E8:=
 aX .o call101 func101 al al al λs=>(show _=EP s from by kernel_rfl).trans kr
def FZ:aq:=⟨260,[Fs,dm],(.cG [Fs,an,.bool,an]),[],U2 fZ⟩
theorem rm:Ko FZ:=
 ax (.c .o (.c .o (.s (.s (.j ⟨[(true,11,(.bx 384 0 true [.same,(.own gH 54 true),aS]))],[2]⟩ (.c .o (.r [11] .o)) .o))))) call260 func260 (aj kj (aj Cf (aj Gj (aj dy (aj tV al)))))
def Zu:aq:=⟨254,[RR,dm],(.cG [RR,.bool,an]),[],U2 OD⟩
theorem P0:Ko Zu:=
 ax (.c .o (.r [4,40000] .o)) call254 func254 (aj rm al)
def Hd:aq:=⟨247,[lM,kY,aS],Ni,[],U3 xm⟩
theorem CW:Ko Hd:=
 ax (.r [40000] .o) call247 func247 (aj dX (aj P0 al))
def Je:aq:=⟨299,[gE,aS],(.fn 302 [] [(.bx 73 0 true [gE]),aad]),[],U2 wN⟩
theorem BM:Ko Je:=
 ax .o call299 func299 al
def Jt:aq:=⟨300,[gr,aS],gr,[],U2 wV⟩
theorem AN:Ko Jt:=
 ax (.l ⟨[(false,0,gr),(false,10,an)],[]⟩ (.c (.l ⟨[(false,0,gr),(false,14,an)],[]⟩ .o) .o)) call300 func300 al
def Po:aq:=⟨296,[LP,gE,aS],an,[],U3 DE⟩
theorem XO:(⟨302,Tryz.f302⟩:jR).Ok X0.P:=⟨call302,func302⟩
theorem Gi:Ko Po:=
 aX (.c (.c (.l ⟨[(false,4,an),(true,10006,Bo),(true,10007,(.bx 54 0 true [gr]))],[]⟩ .o) .o) (.r [70000,6,7] .o)) call296 func296 (aj BM (aj oY (aj kj (aj AN al)))) al (aj XO al) λ_=>by kernel_rfl
def abq:aq:=⟨301,[Fs],an,[],λs=>HV s⟩
theorem C2:Ko abq:=
 ax .o call301 func301 al
def OP:aq:=⟨297,[LP],an,[],λs=>MB s⟩
theorem Xg:Ko OP:=
 ax .o call297 func297 (aj C2 al)
def iZ:aq:=⟨298,[(.sli eP)],(.own eP 96 true),[],λs=>fH s⟩
def p7(s:(List Q7)):Option (List Q7):= wg s ( some []) ( aH (aG (List.length ([]:List Q7)+List.length s) 56)<| some (([]:List Q7)++s))
theorem ob:Ko iZ:=
 aX .o call298 func298 al al al λs=>(show _=p7 s from by kernel_rfl).trans kr
def yq:aq:=⟨293,[LP,gE,aS],(.cG [LP,.bool,an]),[],U3 O0⟩
def RD(n:Nat)(c:vp)(o:Q8)(b:(Q8×Q1))(e:(Int×(List Q7)×Q1)->Option Q61):Int×(List Q7)×Q1->Option Q61:=λ⟨a,d,j⟩=> bif decide ((i64.wrap (a*2))<(b.1.length:Int)) then aH (db (i64.wrap (a*2)) (min (b.1.length:Int) (i64.wrap ((i64.wrap (a+1))*2))) (List.length b.1))<| aH (db (i64.wrap (a*2)) (min (b.1.length:Int) (i64.wrap ((i64.wrap (a+1))*2))) (List.length b.2))<| (mU (bD b.1 (i64.wrap (a*2)) (min (b.1.length:Int) (i64.wrap ((i64.wrap (a+1))*2)))) (bD b.2 (i64.wrap (a*2)) (min (b.1.length:Int) (i64.wrap ((i64.wrap (a+1))*2))))).bind λk=> (idx d a).bind λl=> (fZ l k.1).bind λf=> (wV j ([f.2.1]:x6)).bind λg=> (idx d a).bind λm=> bif !true then (fZ c.2.1 g).bind λi=> aH (jO 0 (c.2.2.length:Int) (c.2.2.length:Int) (List.length c.2.2)&&((c.2.2.length:Int)==(c.2.2.length:Int)))<| aH (aG (List.length (bD c.2.2 0 (c.2.2.length:Int))+List.length ([0]:x6)) 1)<| some (((List.set d (Int.toNat a) f.1),i.1,((bD c.2.2 0 (c.2.2.length:Int))++([0]:x6))),true,0) else e ((i64.wrap (a+1)),(List.set d (Int.toNat a) f.1),g) else (fZ c.2.1 j).bind λh=> aH (jO 0 (c.2.2.length:Int) (c.2.2.length:Int) (List.length c.2.2)&&((c.2.2.length:Int)==(c.2.2.length:Int)))<| aH (aG (List.length (bD c.2.2 0 (c.2.2.length:Int))+List.length ([0]:x6)) 1)<| some ((d,h.1,((bD c.2.2 0 (c.2.2.length:Int))++([0]:x6))),true,0)
def Z6(fl:Nat)(c:vp)(s:Q8)(a:Q1):Option Q61:= (iA s a).bind λb=> bif b != 0 then some (c,false,b) else (DE c s a).bind λg=> bif decide (0<=g) then some (c,false,0) else (MB c).bind λf=> bif decide (c.2.1.1<=f) then some (c,false,7) else (fH c.1).bind λe=> (wN s a).bind λd=> aw (RD fl c s d) fl (0,e,[])
theorem N6(fl:Nat)(s:ew (mu yq.ps)):adA { X0 with fl:=fl } [OH,Po,OP,iZ,Je,Df,FZ,Jt] [] [⟨302,Tryz.f302⟩] (.c .o (.c .o (.r [] (.c .o (.c (.c (.l ⟨[(false,4,an),(true,10003,agP),(true,10006,agV),(true,10010,(.bx 54 0 true [gr]))],[]⟩ .o) (.r [10,3] .o)) (.r [70000,3,6,10] .o)))))) Tryz.f293 yq s=Z6 fl s.1 s.2.1 s.2.2:=by kernel_rfl
theorem Ri:Ko yq:=
 aX (.c .o (.c .o (.r [] (.c .o (.c (.c (.l ⟨[(false,4,an),(true,10003,agP),(true,10006,agV),(true,10010,(.bx 54 0 true [gr]))],[]⟩ .o) (.r [10,3] .o)) (.r [70000,3,6,10] .o)))))) call293 func293 (aj eV (aj Gi (aj Xg (aj ob (aj BM (aj oY (aj rm (aj AN al)))))))) al (aj XO al) λs=>(N6 az s).trans (by kernel_rfl)
def Gl:aq:=⟨287,[lM,kY,aS],Ni,[],U3 vB⟩
theorem AJ:Ko Gl:=
 ax .o call287 func287 (aj Ri al)
def Xb:aq:=⟨321,[gE,aS],(.own (.i .u32) 38 true),[],U2 Cd⟩
theorem yO:Ko Xb:=
 ax (.l ⟨[(false,5,(.own (.i .u32) 38 true)),(false,10,an)],[]⟩ .o) call321 func321 al
def aiq:aq:=⟨328,[nG,nG],(.dat Wd []),[],U2 RT⟩
theorem Jn:Ko aiq:=
 ax (.l ⟨[(true,4,(.bx 443 0 true [.same,.same,.same,.same,.same,.same,.same,.same])),(true,5,(.bx 443 0 true [iz,iz,iz,iz,iz,iz,iz,iz])),(false,7,an)],[]⟩ (.c (.r [5] .o) .o)) call328 func328 al
def Qu:aq:=⟨329,[(.dat Wd [])],dm,[],λs=>wE s⟩
theorem vI:Ko Qu:=
 ax .o call329 func329 al
def adF:aq:=⟨327,[Fs,nG,nG],BC,[],U3 S0⟩
theorem SK:Ko adF:=
 ax .o call327 func327 (aj Jn (aj vI (aj kj al)))
def QH:bI:=⟨323,[agR,an,nG,nG],DJ,none,false,false,nG,[],λs=>wF s.2.1 s.2.2.1 s.2.2.2 s.1⟩
theorem vK:pG QH:=
 aaP .o call323 func323 (aj SK al)
def AZ:bI:=⟨326,[agR,an,Nv],DJ,none,false,false,nG,[],λs=>GO s.2.1 s.2.2 s.1⟩
def BX:acY->acY:=λa s=>Ce a s.1 s.2.1 s.2.2
theorem G8(a:acY)(b:aq8 a):(lq (BX a)).Ok X0.P X0.Γ:=
 oC (.c .o (.r [0] .o)) call326 func326 (aj wh al) (aj b (aj vK al)) al λ_=>by kernel_rfl
theorem JT:pG AZ:=(show AZ=lq (aw (BX) az) by kernel_rfl)▸aci (X:=X0) (E:=lq) ⟨call326,λ_ _ h=>nomatch h⟩ (G8) az
def Oc:bI:=⟨320,[agR,Nv],DJ,none,false,false,nG,[],λs=>DB s.2 s.1⟩
theorem Iu:pG Oc:=
 oC (.c (.r [0] .o) .o) call320 func320 al (aj vK (aj JT al)) al λ_=>by kernel_rfl
def aeY:aq:=⟨316,[Lt,gE,aS],BC,[],U3 KV⟩
theorem aiB:(⟨322,Tryz.f322⟩:jR).Ok X0.P:=⟨call322,func322⟩
theorem GP:Ko aeY:=
 aX .o call316 func316 (aj yO al) (aj Iu al) (aj aiB al) λ_=>by kernel_rfl
def acF:aq:=⟨324,[Fs],an,[],λs=>Uu s⟩
theorem Sl:Ko acF:=
 ax .o call324 func324 (aj C2 al)
def aee:aq:=⟨317,[Lt],an,[],λs=>Ya s⟩
theorem WY:Ko aee:=
 ax .o call317 func317 (aj Sl al)
def pX:aq:=⟨318,[(.sli eP)],(.own eP 349 true),[],λs=>jI s⟩
def rk(s:(List Q7)):Option (List Q7):= wg s ( some []) ( aH (aG (List.length ([]:List Q7)+List.length s) 56)<| some (([]:List Q7)++s))
theorem n8:Ko pX:=
 aX .o call318 func318 al al al λs=>(show _=rk s from by kernel_rfl).trans kr
def XC:aq:=⟨325,[Fs,nG,nG],(.cG [Fs,an,.bool,an]),[],U3 Ml⟩
theorem Oq:Ko XC:=
 ax (.r [40000] .o) call325 func325 (aj Jn (aj vI (aj rm al)))
def Ks:aq:=⟨319,[ahX,an,nG,nG],nG,[(true,0,ahj)],λs=>sf s.2.1 s.2.2.1 s.2.2.2 s.1⟩
theorem ta:Ko Ks:=
 ax (.r [0] .o) call319 func319 (aj Oq al)
def vq:aq:=⟨326,[ahX,an,Nv],nG,[(true,0,ahj)],λs=>yG s.2.1 s.2.2 s.1⟩
def vx:aaQ->aaQ:=λa s=>vC a s.1 s.2.1 s.2.2
theorem Cj(a:aaQ)(b:arq a):(jk (vx a)).Ok X0.P X0.Γ:=
 ax (.c .o (.r [0] .o)) call326 func326 (aj b (aj wh (aj ta al)))
theorem Fc:Ko vq:=(show vq=jk (aw (vx) az) by kernel_rfl)▸dN (X:=X0) (E:=jk) ⟨call326,λ_ _ h=>nomatch h⟩ (Cj) az
def Im:aq:=⟨320,[ahX,Nv],nG,[(true,0,ahj)],λs=>xj s.2 s.1⟩
theorem CZ:Ko Im:=
 ax (.c (.r [0] .o) .o) call320 func320 (aj ta (aj Fc al))
def Zh:aq:=⟨311,[Lt,gE,aS],(.cG [Lt,.bool,an]),[],U3 Pk⟩
theorem P4:Ko Zh:=
 ax (.c .o (.c .o (.r [] (.c .o (.r [6,40000] .o))))) call311 func311 (aj eV (aj GP (aj WY (aj n8 (aj yO (aj CZ al))))))
def GD:aq:=⟨305,[lM,kY,aS],Ni,[],U3 vz⟩
theorem Bi:Ko GD:=
 ax .o call305 func305 (aj P4 al)
def PM:aq:=⟨353,[iz],.bool,[],λs=>wB s⟩
theorem J4:Ko PM:=
 ax .o call353 func353 al
def Lc:aq:=⟨347,[iz,iz],an,[],U2 rX⟩
theorem s8:Ko Lc:=
 ax .o call347 func347 (aj J4 al)
def aeB:aq:=⟨346,[(.dat j2 []),iz],an,[],U2 K2⟩
theorem Wa:Ko aeB:=
 ax .o call346 func346 (aj s8 al)
def jB:aq:=⟨345,[(.sli j2),iz,(.fn 346 [] [])],BC,[],U2 dp⟩
theorem ei:Ko jB:=
 ax (.l ⟨[(false,9,an),(false,10,an)],[]⟩ .o) call345 func345 (aj Wa al)
def alS:aq:=⟨341,[UX,an,iz],an,[],U3 akd⟩
theorem aev:Ko alS:=
 ax .o call341 func341 (aj ei al)
def ajj:aq:=⟨338,[UX,dm],.bool,[],U2 wH⟩
theorem u6:Ko ajj:=
 ax (.l ⟨[(false,5,an),(false,12,an)],[]⟩ .o) call338 func338 (aj aev al)
def aie:aq:=⟨339,[UX],an,[],λs=>aaC s⟩
theorem ZU:Ko aie:=
 ax .o call339 func339 al
def sK:aq:=⟨342,[(.sli kU)],(.own kU 352 true),[],λs=>ku s⟩
def rY(s:Q4):Option Q4:= wg s ( some []) ( aH (aG (List.length ([]:List (Q8×Int))+List.length s) 32)<| some (([]:List (Q8×Int))++s))
theorem pr:Ko sK:=
 aX .o call342 func342 al al al λs=>(show _=rY s from by kernel_rfl).trans kr
def sJ:aq:=⟨359,[(.sli j2),(.sli j2)],.bool,[],U2 kA⟩
theorem pn:Ko sJ:=
 ax (.c .o (.l ⟨[(false,13,an)],[]⟩ .o)) call359 func359 al
def UF:aq:=⟨354,[(.bx 457 0 false [an,(.own kU 352 false),an,an,Hv,(.mp aY .bo false)]),(.sli j2)],BC,[],λs=>Ju s.2.2.2.2.2.2 s.1 s.2.1 s.2.2.1 s.2.2.2.1 s.2.2.2.2.1 s.2.2.2.2.2.1⟩
theorem KI:Ko UF:=
 ax (.l ⟨[(false,14,an)],[]⟩ .o) call354 func354 (aj pn al)
def IC:aq:=⟨384,[Hv],an,[],λs=>ou s⟩
theorem pI:Ko IC:=
 ax .o call384 func384 al
def F3:aq:=⟨386,[fp,an,an],ez,[(true,0,fp)],U3 jN⟩
theorem jF:Ko F3:=
 ax (.r [0] .o) call386 func386 al
def GL:aq:=⟨385,[Hv,an,an],.bool,[],U3 jL⟩
theorem o7:Ko GL:=
 ax .o call385 func385 al
def Gw:aq:=⟨362,[EE,an,an],.bool,[(true,0,EE)],λs=>vw s.2.1 s.2.2 s.1⟩
theorem B3:Ko Gw:=
 ax (.l ⟨[(true,0,EE),(false,7,an)],[]⟩ (.c .o (.s (.j ⟨[(false,9,an)],[]⟩ .o .o)))) call362 func362 (aj o7 (aj jF al))
def Oo:aq:=⟨387,[aao],DJ,[(true,0,aao)],λs=>C9 s⟩
theorem II:Ko Oo:=
 ax .o call387 func387 al
def HU:aq:=⟨360,[EE],DJ,[(true,0,EE)],λs=>xy s⟩
theorem Cs:Ko HU:=
 ax .o call360 func360 (aj pI (aj jF (aj B3 (aj II al))))
def PW:aq:=⟨355,[amD],an,[(true,0,adC)],U6 GY⟩
theorem JI:Ko PW:=
 ax .o call355 func355 (aj Cs al)
def US:aq:=⟨348,[al5,(.sli j2)],an,[(true,0,amG)],λs=>yc s.2.2.2.2.2.2 s.1 s.2.1 s.2.2.1 s.2.2.2.1 s.2.2.2.2.1 s.2.2.2.2.2.1⟩
theorem Kx:Ko US:=
 ax (.c .o (.l ⟨[(true,0,(.bx 457 0 true [.same,(.own kU 352 true),.same,.same,.same,.same])),(false,35,an)],[]⟩ (.c (.r [0] .o) .o))) call348 func348 (aj KI (aj JI al))
def aeX:aq:=⟨341,[(.dat wy [some 704,some 6]),an,iz],an,[],U3 YK⟩
theorem VK:Ko aeX:=
 ax .o call341 func341 (aj ei al)
def Ov:aq:=⟨350,[(.dat j2 []),iz],an,[],U2 tJ⟩
theorem HQ:Ko Ov:=
 ax .o call350 func350 (aj s8 al)
def jb:aq:=⟨345,[(.own j2 462 false),iz,(.fn 350 [] [])],BC,[],U2 eC⟩
theorem iw:Ko jb:=
 ax (.l ⟨[(false,9,an),(false,10,an)],[]⟩ .o) call345 func345 (aj HQ al)
def sC:aq:=⟨349,[(.sli j2)],(.own j2 462 true),[],λs=>kB s⟩
def rT(s:Q8):Option Q8:= wg s ( some []) ( aH (aG (List.length ([]:List cz)+List.length s) 16)<| some (([]:List cz)++s))
theorem pE:Ko sC:=
 aX .o call349 func349 al al al λs=>(show _=rT s from by kernel_rfl).trans kr
def FB:aq:=⟨343,[al5,an,dm],an,[(true,0,amG)],λs=>K0 s.2.2.2.2.2.2.1 s.2.2.2.2.2.2.2 s.1 s.2.1 s.2.2.1 s.2.2.2.1 s.2.2.2.2.1 s.2.2.2.2.2.1⟩
def Gm:ach->ach:=λa s=>G4 a s.1 s.2.1 s.2.2.1 s.2.2.2.1 s.2.2.2.2.1 s.2.2.2.2.2.1 s.2.2.2.2.2.2.1 s.2.2.2.2.2.2.2
theorem J7(a:ach)(b:aq5 a):(nR (Gm a)).Ok X0.P X0.Γ:=
 ax (.c .o (.s (.j ⟨[(false,7,(.own j2 462 true))],[]⟩ .o (.r [0,40000] (.s (.j ⟨[(false,7,(.own j2 462 true))],[8]⟩ .o .o)))))) call343 func343 (aj Kx (aj VK (aj b (aj iw (aj aeW (aj pE al))))))
theorem NO:Ko FB:=(show FB=nR (aw (Gm) az) by kernel_rfl)▸dN (X:=X0) (E:=nR) ⟨call343,λ_ _ h=>nomatch h⟩ (J7) az
def Lk:aq:=⟨388,[aao,DJ],ez,[(true,0,aao)],λs=>Br s.2 s.1⟩
theorem GN:Ko Lk:=
 ax (.r [0] .o) call388 func388 al
def D9:aq:=⟨358,[EE,an],ez,[(true,0,EE)],λs=>uB s.2 s.1⟩
theorem Ak:Ko D9:=
 ax (.l ⟨[(true,0,EE),(false,1,an)],[]⟩ .o) call358 func358 (aj o7 (aj jF al))
def Gy:aq:=⟨352,[EE,DJ],ez,[(true,0,EE)],λs=>vL s.2 s.1⟩
theorem A9:Ko Gy:=
 ax .o call352 func352 (aj GN (aj pI (aj Ak al)))
def AY:aq:=⟨344,[amD,an],ez,[(true,0,adC)],λs=>FO s.2.2.2.2.2.2 s.1 s.2.1 s.2.2.1 s.2.2.2.1 s.2.2.2.2.1 s.2.2.2.2.2.1⟩
def Cg:abY->abY:=λa s=>AO a s.1 s.2.1 s.2.2.1 s.2.2.2.1 s.2.2.2.2.1 s.2.2.2.2.2.1 s.2.2.2.2.2.2
theorem Gx(a:abY)(b:aq7 a):(lf (Cg a)).Ok X0.P X0.Γ:=
 ax (.c .o (.l ⟨[(true,0,adC),(false,42,an)],[]⟩ .o)) call344 func344 (aj b (aj A9 al))
theorem Jy:Ko AY:=(show AY=lf (aw (Cg) az) by kernel_rfl)▸dN (X:=X0) (E:=lf) ⟨call344,λ_ _ h=>nomatch h⟩ (Gx) az
def aaF:aq:=⟨340,[UX,dm],(.cG [UX,.bool,an]),[],U2 tY⟩
theorem Db:Ko aaF:=
 ax (.c .o (.c .o (.r [7] (.r [7] (.j ⟨[(true,7,adC)],[]⟩ .o .o))))) call340 func340 (aj u6 (aj pr (aj dy (aj NO (aj Jy al)))))
def Hc:aq:=⟨332,[lM,kY,aS],Ni,[],U3 xA⟩
theorem Cp:Ko Hc:=
 ax .o call332 func332 (aj dX (aj u6 (aj ZU (aj Db al))))
def aa6:aq:=⟨381,[dm,mK,an,an],fp,[],U4 pA⟩
theorem kf:Ko aa6:=
 ax (.l ⟨[(false,9,fp),(false,13,an)],[]⟩ .o) call381 func381 (aj xX (aj vU al))
def ae0:aq:=⟨378,[tO,dm,(.iU (.int .i64 0)),V1],ez,[(true,3,V1)],U3 YL⟩
theorem VM:Ko ae0:=
 ax (.l ⟨[(true,3,V1),(false,19,an)],[]⟩ (.c (.r [3] .o) .o)) call378 func378 (aj kf al)
def agm:aq:=⟨375,[tO,dm,(.iU (.int .i64 0))],.bool,[],U2 acg⟩
theorem YT:Ko agm:=
 ax .o call375 func375 (aj VM al)
def Zt:aq:=⟨376,[tO,dm],.bool,[],U2 ER⟩
theorem B9:Ko Zt:=
 ax .o call376 func376 (aj YT al)
def B5:aq:=⟨263,[dm],gr,[],λs=>cY s⟩
def Bl(s:Q1):Option Q1:= wg s ( some []) ( aH (aG (List.length ([]:x6)+List.length s) 1)<| some (([]:x6)++s))
theorem dM:Ko B5:=
 aX .o call263 func263 al al al λs=>(show _=Bl s from by kernel_rfl).trans kr
def XL:aq:=⟨378,[(.dat EL [some 11,none,none]),dm,(.iU (.int .i64 0)),(.fn 380 [] [])],ez,[(true,0,(.agg [.same,.same,.same,gr,.same,.same]))],U2 AI⟩
theorem yz:Ko XL:=
 ax (.l ⟨[(true,0,(.agg [.same,.same,.same,gr,.same,.same])),(false,19,an)],[]⟩ (.c (.r [4,0] .o) .o)) call378 func378 (aj kf al)
def ahM:aq:=⟨377,[tO,dm,(.iU (.int .i64 0))],(.dat EL [some 11,none,none]),[],U2 adf⟩
theorem ZT:Ko ahM:=
 ax .o call377 func377 (aj dM (aj yz al))
def Zw:aq:=⟨372,[tO,dm],(.cG [tO,.bool]),[],U2 O4⟩
theorem Ra:Ko Zw:=
 ax .o call372 func372 (aj B9 (aj ZT al))
def HJ:aq:=⟨366,[lM,kY,aS],Ni,[],U3 xI⟩
theorem CY:Ko HJ:=
 ax (.r [40000] .o) call366 func366 (aj dX (aj Ra al))
def VU:aq:=⟨64,[kY,aS],Ni,[],U2 tB⟩
theorem yF:Ko VU:=
 ax (.c .o (.r [2,4] .o)) call64 func64 (aj eV (aj yo (aj CW (aj AJ (aj Bi (aj Cp (aj CY al)))))))
def abw:aq:=⟨99,[yh,aS],(.fn 142 [] [(.bx 76 0 true [(.sli .s),gE,aS,(.sli .s),(.sli sM)]),aad]),[],U2 VC⟩
theorem U0:Ko abw:=
 ax .o call99 func99 al
def acX:aq:=⟨198,[.bool],an,[],λs=>yV s⟩
theorem UB:Ko acX:=
 ax .o call198 func198 al
def PA:aq:=⟨162,[fF,aS],an,[],U2 lV⟩
def W6(s:Ex->Ex)(A:Sh->(R:Type)->Option R->Option R)(z:(Ex×Q1)->xa)(e:Ex)(q:Q1)(b:nU->xa):Int×Int×Int->xa:=λ⟨a,c,d⟩=> bif decide (d<(List.length (bD e.l 0 (min (List.length e.l:Int) 2)):Int)) then (idx (bD e.l 0 (min (List.length e.l:Int) 2)) d).bind λu=> (z ((s u),q)).bind λk=> bif d==0 then b (k,c,(i64.wrap (d+1))) else bif d==1 then b (a,k,(i64.wrap (d+1))) else none else ai (λ(j:Int×Int×Bool)=>LV j.1 j.2.1 j.2.2) λp=> ai (λ(i:Int×Int×Bool)=>K3 i.1 i.2.1 i.2.2) λo=> ai (λ(h:Int×Int×Bool)=>KN h.1 h.2.1 h.2.2) λg=> bif e.op==1 then some e.n else bif e.op==2 then ai (decide (e.n<0)) λx=> ai (decide ((q.length:Int)<=e.n)) λw=> ai (x||w) λv=> bif v then ( some 0) else ( (idx q e.n).bind λt=> some t) else bif e.op==3 then some (i64.wrap (a+c)) else bif e.op==5 then some (i64.wrap (a*c)) else bif e.op==6 then some (i64.wrap (0-a)) else bif e.op==4 then some (i64.wrap (a-c)) else bif e.op==8 then g (a,c,true) else ai (λ(y:Unit)=>LB e a c p o) λm=> ai (λ(r:Bool)=>LG a c g m r) λf=> bif e.op==7 then f (e.op==7) else f (e.op==19)
def xV(a:Ex->Ex)(d:Sh->(R:Type)->Option R->Option R)(c:(Ex×Q1)->xa)(e:Ex)(b:Q1):xa:= aH (db 0 (min (List.length e.l:Int) 2) (List.length e.l))<| aw (W6 a d c e b) az (0,0,0)
def PE:abS->abS:=λa s=>OJ a s.1 s.2
theorem Rd(a:abS)(b:aq4 a):(tS (PE a)).Ok X0.P X0.Γ:=
 aX (.l ⟨[(true,5,(.bx 319 0 true [an,an])),(false,19,an)],[]⟩ (.c .o (.r [] (.s (.s (.s (.s (.s (.s (.s (.s (.j ⟨[(false,8,an),(false,9,an),(false,10,.bool)],[2]⟩ (.s (.j ⟨[(false,8,an),(false,9,an),(false,10,.bool)],[2]⟩ (.s (.j ⟨[(false,8,an),(false,9,an),(false,10,.bool)],[2]⟩ (.c .o (.c .o (.c .o (.c .o (.c .o (.c .o (.c .o (.j ⟨[],[]⟩ (.j ⟨[(false,50,.bool)],[]⟩ .o .o) .o)))))))) .o)) .o)) .o)))))))))))) call162 func162 (aj b (aj UB al)) al al λs=>(show _=xV bl aM a s.1 s.2 from by kernel_rfl).trans ((congrArg (λd=>xV d aM a s.1 s.2) aJ).trans ((congrArg (λe=>xV id e a s.1 s.2) aN).trans (by kernel_rfl)))
theorem px:Ko PA:=(show PA=tS (aw (PE) az) by kernel_rfl)▸dN (X:=X0) (E:=tS) ⟨call162,λ_ _ h=>nomatch h⟩ (Rd) az
def Wi:aq:=⟨143,[yh,aS],fp,[],U2 MH⟩
def NL(f:Ex->Ex)(h:Sh->(R:Type)->Option R->Option R)(m:sX)(d:Q1)(a:fB->Option Q1):Q1×Int->Option Q1:=λ⟨b,c⟩=> bif decide (c<(m.2.2.2.2.length:Int)) then (idx m.2.2.2.2 c).bind λg=> (lV (f g.2.1) d).bind λe=> bif e==1 then aH (aG (List.length b+List.length ([c]:x6)) 8)<| a ((b++([c]:x6)),(i64.wrap (c+1))) else a (b,(i64.wrap (c+1))) else some b
def wA(b:Ex->Ex)(c:Sh->(R:Type)->Option R->Option R)(m:sX)(a:Q1):Option Q1:= aw (NL b c m a) az ([],0)
theorem Oi:Ko Wi:=
 aX (.l ⟨[(false,5,fp),(false,11,an)],[]⟩ .o) call143 func143 (aj px al) al al λs=>(show _=wA bl aM s.1 s.2 from by kernel_rfl).trans ((congrArg (λa=>wA a aM s.1 s.2) aJ).trans ((congrArg (λb=>wA id b s.1 s.2) aN).trans (by kernel_rfl)))
def V8:aq:=⟨97,[gE,Hv],an,[],U2 A7⟩
theorem NH:Ko V8:=
 ax (.c .o (.l ⟨[(false,14,an)],[]⟩ .o)) call97 func97 (aj lY al)
def adX:aq:=⟨144,[yh,aS,an],(.cG [fp,an]),[],U3 Yq⟩
def XJ(i:Ex->Ex)(k:Sh->(R:Type)->Option R->Option R)(m:sX)(f:Q1)(e:Q63)(a:fB->Option fB):Q1×Int->Option fB:=λ⟨b,c⟩=> bif decide (c<(e.2.2.length:Int)) then (idx e.2.2 c).bind λd=> (lV (i d.2) f).bind λh=> (idx b d.1).bind λj=> a ((List.set b (Int.toNat d.1) h),(i64.wrap (c+1))) else (A7 m.2.1 b).bind λg=> bif g != 0 then some ([],6) else some (b,0)
def EB(c:Ex->Ex)(g:Sh->(R:Type)->Option R->Option R)(m:sX)(a:Q1)(k:Int):Option fB:= ai (decide (k<0)) λh=> ai (decide ((m.2.2.2.2.length:Int)<=k)) λf=> ai (h||f) λe=> bif e then ( some ([],10)) else ( (cX a).bind λb=> (idx m.2.2.2.2 k).bind λd=> aw (XJ c g m a d) az (b,0))
theorem V9:Ko adX:=
 aX (.c .o (.l ⟨[(true,8,fp),(false,29,an)],[]⟩ (.c (.r [8] .o) .o))) call144 func144 (aj dy (aj px (aj NH al))) al al λs=>(show _=EB bl aM s.1 s.2.1 s.2.2 from by kernel_rfl).trans ((congrArg (λa=>EB a aM s.1 s.2.1 s.2.2) aJ).trans ((congrArg (λb=>EB id b s.1 s.2.1 s.2.2) aN).trans (by kernel_rfl)))
def w8:aq:=⟨30,[(.bx 56 0 true [.sfp,(.own aP 5 false)])],ez,[(true,0,(.bx 56 0 true [.sfp,.same]))],U2 fQ⟩
theorem kq:Ko w8:=
 ax .o call30 func30 al
def vh:aq:=⟨21,[Fa,.str],(.cG [an,(.iU (.raw .nilIface))]),[(true,0,Fa)],λs=>bL s.2.2 s.1 s.2.1⟩
theorem jG:Ko vh:=
 ax .o call21 func21 (aj kq al)
def xG:aq:=⟨189,[Fa,iz],(.iU (.raw .nilIface)),[(true,0,Fa)],λs=>nS s.2.2 s.1 s.2.1⟩
theorem tP:Ko xG:=
 ax .o call189 func189 (aj kq al)
def A3:aq:=⟨23,[Fa],.str,[],U2 hZ⟩
theorem lW:Ko A3:=
 ax (.r [0] .o) call23 func23 al
def ad9:aq:=⟨145,[aS],.str,[],λs=>Yk s⟩
theorem V4:Ko ad9:=
 ax (.l ⟨[(true,3,Fa),(false,8,an)],[]⟩ .o) call145 func145 (aj Ym (aj jG (aj tP (aj lW al))))
def Vv:aq:=⟨100,[ahd,aS],ez,[(true,0,ahd)],λs=>rP s.2.2 s.1 s.2.1⟩
theorem KG:Ko Vv:=
 ax (.j ⟨[(true,0,(.bx 217 0 true [.same,(.mp .s .bo true)]))],[]⟩ .o .o) call100 func100 (aj V4 al)
def ad4:aq:=⟨65,[yh,aS],(.cG [gR,an]),[],U2 DN⟩
theorem aj0:(⟨142,Tryz.f142⟩:jR).Ok X0.P:=⟨call142,func142⟩
theorem wa:Ko ad4:=
 aX (.c (.c (.l ⟨[(false,10,an),(true,10004,(.bx 24 0 true [.same])),(true,10005,(.bx 22 0 true [an])),(true,10006,ahd)],[]⟩ .o) .o) (.r [70000,4,5,6] .o)) call65 func65 (aj U0 (aj Oi (aj V9 (aj KG (aj dy al))))) al (aj aj0 al) λ_=>by kernel_rfl
def Y6:aq:=⟨45,[yh,wL],(.cG [an,aS]),[],U2 Py⟩
theorem Qb:Ko Y6:=
 ax (.c .o (.l ⟨[(true,6,apJ),(false,10,an),(false,11,gR)],[]⟩ (.c (.r [] (.c .o (.l ⟨[(true,6,apJ),(false,10,an),(false,11,gR),(false,61,an)],[]⟩ .o))) .o))) call45 func45 (aj vY (aj yF (aj wa al)))
def F4:aq:=⟨36,[ahE],.bool,[(true,0,agU)],λs=>vG s.1 s.2.1 s.2.2.1 s.2.2.2.1 s.2.2.2.2.1 s.2.2.2.2.2.1 s.2.2.2.2.2.2.1 s.2.2.2.2.2.2.2.1 s.2.2.2.2.2.2.2.2.1 (d8 s).2.1 (d8 s).2.2.1 (d8 s).2.2.2.1 (d8 s).2.2.2.2.1 (d8 s).2.2.2.2.2.1 (d8 s).2.2.2.2.2.2.1 (d8 s).2.2.2.2.2.2.2.1 (d8 (d8 s)).1 (d8 (d8 s)).2.1 (d8 (d8 s)).2.2.1 (d8 (d8 s)).2.2.2.1 (d8 (d8 s)).2.2.2.2.1 (d8 (d8 s)).2.2.2.2.2.1 (d8 (d8 s)).2.2.2.2.2.2⟩
theorem A6:Ko F4:=
 ax .o call36 func36 (aj Qb (aj hU al))
def iD(a:RM):aq:=⟨197,[(.sli .ex),(.sli .ex),(.fn 155 [] [])],.bool,[],λs=>dR a s.1 s.2⟩
def gN(b:Ex->Ex)(j:Sh->(R:Type)->Option R->Option R)(h:(Ex×Ex)->w4)(f:(List Ex))(g:(List Ex))(a:Int->w4)(c:Int):w4:= bif decide (c<(f.length:Int)) then (idx f c).bind λi=> (idx g c).bind λe=> (h ((b i),(b e))).bind λd=> bif !d then some false else a (i64.wrap (c+1)) else some true
def cO(a:Ex->Ex)(e:Sh->(R:Type)->Option R->Option R)(d:(Ex×Ex)->w4)(c:(List Ex))(b:(List Ex)):w4:= bif (c.length:Int) != (b.length:Int) then some false else aw (gN a e d c b) az 0
theorem gM(a:RM)(b:apg a):Ko (iD a):=
 aX (.c .o (.l ⟨[(false,17,an)],[]⟩ .o)) call197 func197 (aj b al) al al λs=>(show _=cO bl aM a s.1 s.2 from by kernel_rfl).trans ((congrArg (λd=>cO d aM a s.1 s.2) aJ).trans ((congrArg (λe=>cO id e a s.1 s.2) aN).trans (by kernel_rfl)))
def Pp:aq:=⟨155,[fF,fF],.bool,[],U2 xq⟩
def OE:RM->RM:=λa s=>PF a s.1 s.2
theorem P7(a:RM)(b:apg a):(tH (OE a)).Ok X0.P X0.Γ:=
 ax .o call155 func155 (aj (gM a b) al)
theorem GF:Ko Pp:=(show Pp=tH (aw (OE) az) by kernel_rfl)▸dN (X:=X0) (E:=tH) ⟨call155,λ_ _ h=>nomatch h⟩ (P7) az
def NZ:aq:=⟨109,[Hj,fF],mK,[(true,0,Hj)],λs=>gu s.2 s.1⟩
def Ht(c:Ex->Ex)(i:Sh->(R:Type)->Option R->Option R)(e:Ex)(l:(List Ex))(d:Int->Option Q65)(a:Int):Option Q65:= bif decide (a<(l.length:Int)) then (idx l a).bind λg=> (xq (c g) (c e)).bind λf=> bif f then ( aH (decide (0<=a))<| some ((bY .u64 1 a),l)) else ( d (i64.wrap (a+1))) else aH (aG (List.length l+List.length ([(Ex.mk 0 0 0 [])]:List Ex)) 48)<| (idx (l++([(Ex.mk 0 0 0 [])]:List Ex)) (l.length:Int)).bind λh=> i (.b .l .l) _ ( aH (decide (0<=(i64.wrap ((List.length (List.set (l++([(Ex.mk 0 0 0 [])]:List Ex)) (Int.toNat (l.length:Int)) (c e)):Int)-1))))<| some ((bY .u64 1 (i64.wrap ((List.length (List.set (l++([(Ex.mk 0 0 0 [])]:List Ex)) (Int.toNat (l.length:Int)) (c e)):Int)-1))),(List.set (l++([(Ex.mk 0 0 0 [])]:List Ex)) (Int.toNat (l.length:Int)) (c e))))
def pU(a:Ex->Ex)(b:Sh->(R:Type)->Option R->Option R)(e:Ex)(l:(List Ex)):Option Q65:= aw (Ht a b e l) az 0
theorem uR:Ko NZ:=
 aX (.l ⟨[(true,0,(.bx 234 0 true [.same])),(false,12,an)],[]⟩ (.c .o (.r [0] .o))) call109 func109 (aj GF al) al al λs=>(show _=pU bl aM s.2 s.1 from by kernel_rfl).trans ((congrArg (λa=>pU a aM s.2 s.1) aJ).trans ((congrArg (λb=>pU id b s.2 s.1) aN).trans (by kernel_rfl)))
def rE:aq:=⟨156,[mK,(.dat tL []),aav,Mf,(.bx 232 0 true [Hj]),amZ],ez,[(true,2,aav),(true,3,Mf),(true,4,(.bx 232 0 true [.same])),(true,1005,Hj),(true,5,(.bx 283 0 true [.same]))],U5 tZ⟩
def Az(t:Ex->Ex)(y:Sh->(R:Type)->Option R->Option R)(o:Q43->Option Jd)(b:Int)(n:cz)(x:YM)(e:Q8)(l:(List Ex))(m:Int->Option Jd)(a:Int):Option Jd:= aH (decide (0<=a))<| bif (pT .u64 (bJ .u64 b n.1) (bY .u64 1 a))==0 then m (i64.wrap (a+1)) else (idx l a).bind λd=> aH (decide (0<=a))<| (pD (t d)).bind λu=> bif u then ( (o ((bJ .u64 (bJ .u64 b n.1) (bY .u64 1 a)),((dQ .u64 n.1 (bY .u64 1 a)),n.2),x,e,l)).bind λs=> some (s.1,s.2.1,s.2.2)) else ( (idx d.l 0).bind λw=> (gu (t w) l).bind λf=> bif d.op==20 then (o ((bJ .u64 (bJ .u64 b n.1) (bY .u64 1 a)),((dQ .u64 n.1 (bY .u64 1 a)),(dQ .u64 n.2 f.1)),x,e,f.2)).bind λr=> some (r.1,r.2.1,r.2.2) else (idx d.l 1).bind λv=> (gu (t v) f.2).bind λc=> bif d.op==16 then (o ((dQ .u64 (dQ .u64 (bJ .u64 (bJ .u64 b n.1) (bY .u64 1 a)) f.1) c.1),((dQ .u64 n.1 (bY .u64 1 a)),n.2),x,e,c.2)).bind λq=> some (q.1,q.2.1,q.2.2) else bif d.op==17 then (o ((dQ .u64 (bJ .u64 (bJ .u64 b n.1) (bY .u64 1 a)) f.1),((dQ .u64 n.1 (bY .u64 1 a)),n.2),x,e,c.2)).bind λp=> (o ((dQ .u64 (bJ .u64 (bJ .u64 b n.1) (bY .u64 1 a)) c.1),((dQ .u64 n.1 (bY .u64 1 a)),n.2),p.1,p.2.1,p.2.2)).bind λk=> some (k.1,k.2.1,k.2.2) else bif d.op==23 then (o ((dQ .u64 (bJ .u64 (bJ .u64 b n.1) (bY .u64 1 a)) c.1),((dQ .u64 n.1 (bY .u64 1 a)),n.2),x,e,c.2)).bind λj=> (o ((dQ .u64 (bJ .u64 (bJ .u64 b n.1) (bY .u64 1 a)) f.1),((dQ .u64 n.1 (bY .u64 1 a)),(dQ .u64 n.2 (bY .u64 1 a))),j.1,j.2.1,j.2.2)).bind λi=> some (i.1,i.2.1,i.2.2) else bif d.op==24 then (o ((dQ .u64 (dQ .u64 (bJ .u64 (bJ .u64 b n.1) (bY .u64 1 a)) f.1) c.1),((dQ .u64 n.1 (bY .u64 1 a)),n.2),x,e,c.2)).bind λh=> (o ((dQ .u64 (bJ .u64 (bJ .u64 b n.1) (bY .u64 1 a)) c.1),((dQ .u64 n.1 (bY .u64 1 a)),(dQ .u64 n.2 (bY .u64 1 a))),h.1,h.2.1,h.2.2)).bind λg=> some (g.1,g.2.1,g.2.2) else some (x,e,c.2))
def jK(d:Ex->Ex)(e:Sh->(R:Type)->Option R->Option R)(f:Q43->Option Jd)(b:Int)(n:cz)(x:YM)(a:Q8)(l:(List Ex)):Option Jd:= bif (bJ .u64 b n.1)==0 then bif !(ll x n false) then (x).bind λc=> aH (aG (List.length a+List.length ([n]:List cz)) 16)<| some ((some (lI c n true)),(a++([n]:List cz)),l) else some (x,a,l) else aw (Az d e f b n x a l) az 0
def ry:acW->acW:=λa s=>rI a s.1 s.2.1 s.2.2.1 s.2.2.2.1 s.2.2.2.2
theorem xn(a:acW)(b:ark a):(gL (ry a)).Ok X0.P X0.Γ:=
 aX (.c .o (.l ⟨[(true,7,(.bx 239 0 true [.same,.same])),(false,8,an)],[]⟩ (.c .o (.r [40000] (.c .o (.r [4,40000] (.c .o (.r [4,40000] .o)))))))) call156 func156 (aj Bw (aj b (aj uR al))) al al λs=>(show _=jK bl aM a s.1 s.2.1 s.2.2.1 s.2.2.2.1 s.2.2.2.2 from by kernel_rfl).trans ((congrArg (λd=>jK d aM a s.1 s.2.1 s.2.2.1 s.2.2.2.1 s.2.2.2.2) aJ).trans ((congrArg (λe=>jK id e a s.1 s.2.1 s.2.2.1 s.2.2.2.1 s.2.2.2.2) aN).trans (by kernel_rfl)))
theorem yU:Ko rE:=(show rE=gL (aw (ry) az) by kernel_rfl)▸dN (X:=X0) (E:=gL) ⟨call156,λ_ _ h=>nomatch h⟩ (xn) az
def J5:aq:=⟨111,[Hj,mK],(.own tL 239 true),[(true,0,Hj)],λs=>ja s.2 s.1⟩
theorem Fm:Ko J5:=
 ax .o call111 func111 (aj yU al)
def aew:aq:=⟨110,[(.sli tL),aat,Mf],fp,[(true,1,aat),(true,2,Mf)],U3 xk⟩
theorem Xr:Ko aew:=
 ax (.l ⟨[(true,1,aat),(true,2,Mf),(false,5,fp),(false,12,an)],[]⟩ .o) call110 func110 al
def IQ:aq:=⟨109,[(.bx 234 0 false [(.sli .ex)]),fF],mK,[],λs=>og s.2 s.1⟩
def CT(c:Ex->Ex)(g:Sh->(R:Type)->Option R->Option R)(e:Ex)(l:(List Ex))(a:Int->xa)(b:Int):xa:= bif decide (b<(l.length:Int)) then (idx l b).bind λf=> (xq (c f) (c e)).bind λd=> bif d then ( aH (decide (0<=b))<| some (bY .u64 1 b)) else ( a (i64.wrap (b+1))) else none
def mQ(a:Ex->Ex)(b:Sh->(R:Type)->Option R->Option R)(e:Ex)(l:(List Ex)):xa:= aw (CT a b e l) az 0
theorem CO:Ko IQ:=
 aX (.l ⟨[(false,12,an)],[]⟩ .o) call109 func109 (aj GF al) al al λs=>(show _=mQ bl aM s.2 s.1 from by kernel_rfl).trans ((congrArg (λa=>mQ a aM s.2 s.1) aJ).trans ((congrArg (λb=>mQ id b s.2 s.1) aN).trans (by kernel_rfl)))
def alv:aq:=⟨70,[fF],agw,[],λs=>abn s⟩
def aeC(g:Ex->Ex)(n:Sh->(R:Type)->Option R->Option R)(j:(List Ex))(i:kg)(l:Int)(e:(kg×Int)->Option dn)(m:cz)(b:((List Ex)×Int)->Option dn):(List Ex)×Int->Option dn:=λ⟨c,a⟩=> bif decide (a<(j.length:Int)) then (idx j a).bind λd=> aH (decide (0<=a))<| ai ((pT .u64 m.1 (bY .u64 1 a)) != 0) λf=> bz f default (pD (g d)) λh=> ai (f&&h) λk=> bif k then ( aH (aG (List.length c+List.length ([(g d)]:List Ex)) 48)<| b ((c++([(g d)]:List Ex)),(i64.wrap (a+1)))) else ( b (c,(i64.wrap (a+1)))) else aH (aG (List.length i+List.length ([c]:List (List Ex))) 24)<| e ((i++([c]:List (List Ex))),(i64.wrap (l+1)))
def aeo(h:Ex->Ex)(q:Sh->(R:Type)->Option R->Option R)(m:SU)(e:(List Ex))(o:(List Q1))(p:Q8)(n:kg)(a:gW->Option dn):(List Q1)×Int->Option dn:=λ⟨c,b⟩=> bif decide (b<(e.length:Int)) then (idx e b).bind λd=> (pD (h d)).bind λg=> ai (d.op != 23) λk=> ai (g||k) λj=> bif j then ( a (c,(i64.wrap (b+1)))) else ( (idx d.l 1).bind λi=> (og (h i) e).bind λf=> aw (XM p c b a f) az (([]:x6),0)) else some (n,o,m.1,c)
def adV(e:Ex->Ex)(j:Sh->(R:Type)->Option R->Option R)(g:SU)(f:(List Ex))(h:(List Q1))(c:Q8)(a:(kg×Int)->Option dn):kg×Int->Option dn:=λ⟨d,b⟩=> bif decide (b<(c.length:Int)) then (idx c b).bind λi=> aw (aeC e j f d b a i) az ([],0) else aw (aeo e j g f h c d) az ([],0)
def aeR(j:Ex->Ex)(l:Sh->(R:Type)->Option R->Option R)(h:SU)(a:((List Ex)×(List Q1)×Q8×OR×Int)->Option dn):(List Ex)×(List Q1)×Q8×OR×Int->Option dn:=λ⟨g,d,c,i,e⟩=> bif decide (e<(c.length:Int)) then (idx c e).bind λk=> (ja k.2 g).bind λf=> (xk f.1 i c).bind λb=> aH (aG (List.length d+List.length ([b.1]:List Q1)) 24)<| a (f.2,(d++([b.1]:List Q1)),b.2.2,b.2.1,(i64.wrap (e+1))) else aw (adV j l h g d c) az ([],0)
def P6(d:Ex->Ex)(f:Sh->(R:Type)->Option R->Option R)(e:Ex):Option dn:= (gu (d e) []).bind λc=> (ja c.1 c.2).bind λb=> (xk b.1 (some []:OR) []).bind λa=> aw (aeR d f a) az (b.2,[],a.2.2,a.2.1,0)
theorem ae3:Ko alv:=
 aX (.l ⟨[(true,3,Hj),(true,5,(.bx 122 0 true [.same,gR,.same,.same])),(true,6,Mf),(true,8,(.fn 110 [] [aat,.same])),(false,9,an)],[]⟩ (.c (.r [8,3,5,40000] .o) (.l ⟨[(true,5,(.bx 122 0 true [(.own (.l .ex) 77 true),.same,.same,.same])),(false,56,an)],[]⟩ (.c (.l ⟨[(true,5,V0),(false,12,(.own .ex 79 true)),(false,65,an)],[]⟩ (.c (.r [40000] .o) .o)) (.r [30000,20003] (.l ⟨[(true,2,V0),(true,5,(.bx 122 0 true [.same,.same,.same,gR])),(false,97,an)],[]⟩ (.c (.c .o (.l ⟨[(true,5,V0),(false,18,fp),(false,118,an)],[]⟩ (.c (.r [40000] .o) .o))) .o))))))) call70 func70 (aj uR (aj Fm (aj Xr (aj Bw (aj CO al))))) al al λs=>(show _=P6 bl aM s from by kernel_rfl).trans ((congrArg (λa=>P6 a aM s) aJ).trans ((congrArg (λb=>P6 id b s) aN).trans (by kernel_rfl)))
def Ho:aq:=⟨107,[(.dat dE []),an],an,[],U2 kl⟩
theorem Cq:Ko Ho:=
 ax .o call107 func107 al
def ES:aq:=⟨154,[aS,an],an,[],U2 tE⟩
theorem yZ:Ko ES:=
 ax (.l ⟨[(false,8,an)],[]⟩ .o) call154 func154 al
def Ax:aq:=⟨108,[aS,an],.bool,[],U2 gJ⟩
theorem lC:Ko Ax:=
 ax .o call108 func108 (aj yZ al)
def ahh:aq:=⟨69,[LU],agw,[],λs=>Qz s⟩
theorem YX:Ko ahh:=
 ax (.s (.s (.s (.j ⟨[(false,4,xO)],[]⟩ (.c (.l ⟨[(true,5,fp),(false,31,an)],[]⟩ .o) .o) (.l ⟨[(true,9,am5),(false,44,an)],[]⟩ (.c (.l ⟨[(true,9,am5),(false,48,an)],[]⟩ (.c (.s (.s (.s (.j ⟨[(false,12,an)],[]⟩ .o (.l ⟨[(true,9,V0),(false,13,fp),(false,69,an)],[]⟩ (.c .o (.r [9] .o))))))) .o)) (.l ⟨[(true,9,(.bx 122 0 true [.same,.same,fp,.same])),(false,104,an)],[]⟩ (.c (.r [9] .o) (.l ⟨[(true,2,V0),(true,9,V0),(false,18,fp),(false,121,an)],[]⟩ .o))))))))) call69 func69 (aj Cq (aj lC al))
def Ol:aq:=⟨47,[fF],agw,[],λs=>DV s⟩
def pV(a:Ex->Ex)(f:Sh->(R:Type)->Option R->Option R)(e:Ex):Option dn:= (G0 (a e)).bind λd=> (abn (a d.1)).bind λc=> (Qz c).bind λb=> some b
theorem Hg:Ko Ol:=
 aX .o call47 func47 (aj MM (aj ae3 (aj YX al))) al al λs=>(show _=pV bl aM s from by kernel_rfl).trans ((congrArg (λa=>pV a aM s) aJ).trans ((congrArg (λb=>pV id b s) aN).trans (by kernel_rfl)))
def Z2:aq:=⟨66,[yh,LU],(.cG [H7,an]),[],U2 O2⟩
theorem Rr:Ko Z2:=
 ax (.c .o (.r [40000] .o)) call66 func66 (aj yy (aj gY al))
def aeF:aq:=⟨146,[LU,aS,aS],(.fn 190 [] [aad,(.bx 122 0 true [(.sli (.l .ex)),xO,aS,xO]),aad]),[],U3 Lu⟩
theorem GM:Ko aeF:=
 ax .o call146 func146 al
def Ze:aq:=⟨208,[fF,KT],.bool,[],U2 Eb⟩
def xM(a:Ex->Ex)(c:Sh->(R:Type)->Option R->Option R)(e:Ex)(x:Q1):w4:= (lV (a e) x).bind λb=> some (b != 1)
theorem Rg:Ko Ze:=
 aX .o call208 func208 (aj px al) al al λs=>(show _=xM bl aM s.1 s.2 from by kernel_rfl).trans ((congrArg (λa=>xM a aM s.1 s.2) aJ).trans ((congrArg (λb=>xM id b s.1 s.2) aN).trans (by kernel_rfl)))
def ov:aq:=⟨216,[(.sli .ex),(.fn 208 [] [KT])],an,[],U2 je⟩
def mX(e:Ex->Ex)(g:Sh->(R:Type)->Option R->Option R)(s:(List Ex))(c:Q1)(a:Int->xa)(b:Int):xa:= bif decide (b<(s.length:Int)) then (idx s b).bind λf=> (Eb (e f) c).bind λd=> bif d then ( some b) else ( a (i64.wrap (b+1))) else some (-1)
def eS(a:Ex->Ex)(b:Sh->(R:Type)->Option R->Option R)(s:(List Ex))(c:Q1):xa:= aw (mX a b s c) az 0
theorem nc:Ko ov:=
 aX (.l ⟨[(false,8,an)],[]⟩ .o) call216 func216 (aj Rg al) al al λs=>(show _=eS bl aM s.1 s.2 from by kernel_rfl).trans ((congrArg (λa=>eS a aM s.1 s.2) aJ).trans ((congrArg (λb=>eS id b s.1 s.2) aN).trans (by kernel_rfl)))
def mT:aq:=⟨207,[(.sli .ex),(.fn 208 [] [KT])],.bool,[],U2 gX⟩
theorem lP:Ko mT:=
 ax .o call207 func207 (aj nc al)
def ahs:aq:=⟨191,[LU,an,aS],.bool,[],U3 Qw⟩
theorem Jr:Ko ahs:=
 ax .o call191 func191 (aj lP al)
def tA:aq:=⟨209,[gr,an,an],gr,[],U3 la⟩
theorem rb:Ko tA:=
 ax (.s (.s (.j ⟨[(false,0,gr),(false,7,mK)],[]⟩ .o .o))) call209 func209 (aj aiN al)
def Fh:aq:=⟨192,[gr,an,an],gr,[],U3 uZ⟩
theorem Ap:Ko Fh:=
 ax .o call192 func192 (aj rb al)
def Wq:aq:=⟨147,[adJ,aS],ez,[(true,0,adJ)],λs=>A8 s.2.2 s.1 s.2.1⟩
theorem yH:Ko Wq:=
 ax (.j ⟨[(true,0,(.bx 270 0 true [.same,(.mp .s .bo true)]))],[]⟩ .o (.l ⟨[(true,0,(.bx 270 0 true [.same,.same])),(false,4,gr),(false,18,an)],[]⟩ (.c .o (.r [] (.c (.r [0] .o) .o))))) call147 func147 (aj Ap al)
def aez:aq:=⟨102,[yh,LU],gR,[],U2 YF⟩
theorem Yj:(⟨190,Tryz.f190⟩:jR).Ok X0.P:=⟨call190,func190⟩
theorem Wr:Ko aez:=
 aX (.c (.c (.l ⟨[(false,9,an),(true,10005,adJ)],[]⟩ (.c (.n 4 (.c .o .o)) .o)) .o) (.r [70000,5] .o)) call102 func102 (aj GM (aj Jr (aj dy (aj yH al)))) al (aj Yj al) λ_=>by kernel_rfl
def JS:bI:=⟨103,[MW,aS],Rs,none,false,false,.bool,[(true,0,IE)],λs=>lu (d8 (d8 (d8 (d8 (d8 s))))).2.2.2.2.2 s.1 s.2.1 s.2.2.1 s.2.2.2.1 s.2.2.2.2.1 s.2.2.2.2.2.1 s.2.2.2.2.2.2.1 s.2.2.2.2.2.2.2.1 s.2.2.2.2.2.2.2.2.1 (d8 s).2.1 (d8 s).2.2.1 (d8 s).2.2.2.1 (d8 s).2.2.2.2.1 (d8 s).2.2.2.2.2.1 (d8 s).2.2.2.2.2.2.1 (d8 s).2.2.2.2.2.2.2.1 (d8 (d8 s)).1 (d8 (d8 s)).2.1 (d8 (d8 s)).2.2.1 (d8 (d8 s)).2.2.2.1 (d8 (d8 s)).2.2.2.2.1 (d8 (d8 s)).2.2.2.2.2.1 (d8 (d8 s)).2.2.2.2.2.2.1 (d8 (d8 s)).2.2.2.2.2.2.2.1 (d8 (d8 (d8 s))).1 (d8 (d8 (d8 s))).2.1 (d8 (d8 (d8 s))).2.2.1 (d8 (d8 (d8 s))).2.2.2.1 (d8 (d8 (d8 s))).2.2.2.2.1 (d8 (d8 (d8 s))).2.2.2.2.2.1 (d8 (d8 (d8 s))).2.2.2.2.2.2.1 (d8 (d8 (d8 s))).2.2.2.2.2.2.2.1 (d8 (d8 (d8 (d8 s)))).1 (d8 (d8 (d8 (d8 s)))).2.1 (d8 (d8 (d8 (d8 s)))).2.2.1 (d8 (d8 (d8 (d8 s)))).2.2.2.1 (d8 (d8 (d8 (d8 s)))).2.2.2.2.1 (d8 (d8 (d8 (d8 s)))).2.2.2.2.2.1 (d8 (d8 (d8 (d8 s)))).2.2.2.2.2.2.1 (d8 (d8 (d8 (d8 s)))).2.2.2.2.2.2.2.1 (d8 (d8 (d8 (d8 (d8 s))))).1 (d8 (d8 (d8 (d8 (d8 s))))).2.1 (d8 (d8 (d8 (d8 (d8 s))))).2.2.1 (d8 (d8 (d8 (d8 (d8 s))))).2.2.2.1 (d8 (d8 (d8 (d8 (d8 s))))).2.2.2.2.1⟩
theorem kE:pG JS:=
 aaP (.s (.s (.j ⟨[],[]⟩ .o .o))) call103 func103 (aj yF al)
def acr:aq:=⟨194,[aS],(.cG [aS,an]),[],λs=>Hn s⟩
theorem Dx:Ko acr:=
 ax .o call194 func194 al
def ad3:aq:=⟨193,[yh,LU,aS],(.cG [gR,an]),[],U3 XT⟩
theorem Xi:Ko ad3:=
 aX (.c .o (.l ⟨[(true,12,adJ),(false,32,an)],[]⟩ (.c (.r [] (.c (.c (.l ⟨[(false,9,an),(true,10012,adJ)],[]⟩ (.c (.n 4 (.c .o .o)) .o)) .o) (.r [70000,12] .o))) .o))) call193 func193 (aj Dx (aj wa (aj GM (aj Jr (aj dy (aj yH al)))))) al (aj Yj al) λ_=>by kernel_rfl
def Gn:bI:=⟨148,[(.bx 169 0 false QL6),(.own yi 277 true),aS],Rs,none,false,false,(.own yi 277 true),[],λs=>gP (d8 (d8 (d8 (d8 (d8 s))))).2.2.2.2.2.1 (d8 (d8 (d8 (d8 (d8 s))))).2.2.2.2.2.2 s.1 s.2.1 s.2.2.1 s.2.2.2.1 s.2.2.2.2.1 s.2.2.2.2.2.1 s.2.2.2.2.2.2.1 s.2.2.2.2.2.2.2.1 s.2.2.2.2.2.2.2.2.1 (d8 s).2.1 (d8 s).2.2.1 (d8 s).2.2.2.1 (d8 s).2.2.2.2.1 (d8 s).2.2.2.2.2.1 (d8 s).2.2.2.2.2.2.1 (d8 s).2.2.2.2.2.2.2.1 (d8 (d8 s)).1 (d8 (d8 s)).2.1 (d8 (d8 s)).2.2.1 (d8 (d8 s)).2.2.2.1 (d8 (d8 s)).2.2.2.2.1 (d8 (d8 s)).2.2.2.2.2.1 (d8 (d8 s)).2.2.2.2.2.2.1 (d8 (d8 s)).2.2.2.2.2.2.2.1 (d8 (d8 (d8 s))).1 (d8 (d8 (d8 s))).2.1 (d8 (d8 (d8 s))).2.2.1 (d8 (d8 (d8 s))).2.2.2.1 (d8 (d8 (d8 s))).2.2.2.2.1 (d8 (d8 (d8 s))).2.2.2.2.2.1 (d8 (d8 (d8 s))).2.2.2.2.2.2.1 (d8 (d8 (d8 s))).2.2.2.2.2.2.2.1 (d8 (d8 (d8 (d8 s)))).1 (d8 (d8 (d8 (d8 s)))).2.1 (d8 (d8 (d8 (d8 s)))).2.2.1 (d8 (d8 (d8 (d8 s)))).2.2.2.1 (d8 (d8 (d8 (d8 s)))).2.2.2.2.1 (d8 (d8 (d8 (d8 s)))).2.2.2.2.2.1 (d8 (d8 (d8 (d8 s)))).2.2.2.2.2.2.1 (d8 (d8 (d8 (d8 s)))).2.2.2.2.2.2.2.1 (d8 (d8 (d8 (d8 (d8 s))))).1 (d8 (d8 (d8 (d8 (d8 s))))).2.1 (d8 (d8 (d8 (d8 (d8 s))))).2.2.1 (d8 (d8 (d8 (d8 (d8 s))))).2.2.2.1 (d8 (d8 (d8 (d8 (d8 s))))).2.2.2.2.1⟩
theorem oO:pG Gn:=
 aaP (.s (.j ⟨[],[]⟩ .o (.r [] (.j ⟨[],[]⟩ .o .o)))) call148 func148 (aj Xi al)
def abr:aq:=⟨149,[LU,aS],.bool,[],U2 Vb⟩
theorem VD:Ko abr:=
 ax .o call149 func149 (aj Dx (aj lC al))
def Ad:aq:=⟨153,[MN],ez,[],λs=>pK s⟩
theorem wx:Ko Ad:=
 ax .o call153 func153 al
def EX:aq:=⟨116,[aS,aS],.bool,[],U2 jn⟩
theorem jg:Ko EX:=
 ax (.c .o (.l ⟨[(false,13,an)],[]⟩ .o)) call116 func116 al
def YY:aq:=⟨151,[(.sli yi)],gR,[],λs=>Fz s⟩
theorem Rt:Ko YY:=
 ax (.l ⟨[(false,3,gR),(false,8,an)],[]⟩ .o) call151 func151 al
def yT:bI:=⟨150,[MN,aS,KT,(.bx 225 0 false [MN])],VB,none,false,true,ez,[],U4 pN⟩
theorem wi:pG yT:=
 aaP (.c (.r [80000] .o) .o) call150 func150 (aj jg (aj Rt al))
def ahJ:aq:=⟨264,[an],iz,[],λs=>Qk s⟩
theorem Jo:Ko ahJ:=
 ax .o call264 func264 al
def ZQ:aq:=⟨258,[an,iz,ahQ,aag],ez,[(true,3,aag)],U7 Ps⟩
theorem QD:Ko ZQ:=
 ax .o call258 func258 al
def ajv:aq:=⟨257,[RR,dm,an,(.fn 258 [] [ahQ,aag])],an,[(true,3,(.fn 258 [] [.same,aag]))],U8 afF⟩
theorem acI:Ko ajv:=
 ax .o call257 func257 (aj Jo (aj kj (aj QD al)))
def ag8:aq:=⟨252,[RR,dm,an],Eh,[],U3 adg⟩
theorem Zq:Ko ag8:=
 ax .o call252 func252 (aj acI al)
def NW:aq:=⟨246,[lM,kY,aS,an],Eh,[],U4 C5⟩
theorem IH:Ko NW:=
 ax (.r [5] .o) call246 func246 (aj dX (aj Zq al))
def ajP:aq:=⟨295,[LP,gE,aS,an],(.cG [an,an]),[],U4 WE⟩
theorem L7:Ko ajP:=
 ax .o call295 func295 (aj eV (aj Gi al))
def ahO:aq:=⟨292,[LP,gE,aS,an],Eh,[],U4 ac2⟩
theorem ZZ:Ko ahO:=
 ax .o call292 func292 (aj L7 al)
def KD:aq:=⟨286,[lM,kY,aS,an],Eh,[],U4 BT⟩
theorem FK:Ko KD:=
 ax .o call286 func286 (aj ZZ al)
def aiR:aq:=⟨315,[Lt,gE,aS,an],(.cG [an,an]),[],U4 WQ⟩
theorem Kv:Ko aiR:=
 ax .o call315 func315 (aj eV (aj GP al))
def ahU:aq:=⟨310,[Lt,gE,aS,an],Eh,[],U4 acf⟩
theorem ZF:Ko ahU:=
 ax .o call310 func310 (aj Kv al)
def L9:aq:=⟨304,[lM,kY,aS,an],Eh,[],U4 AQ⟩
theorem Gz:Ko L9:=
 ax .o call304 func304 (aj ZF al)
def Si:aq:=⟨337,[kY,aS,an],an,[],U3 ya⟩
theorem xl:Ko Si:=
 ax (.c .o (.r [3] .o)) call337 func337 (aj dX (aj u6 al))
def N9:aq:=⟨331,[lM,kY,aS,an],Eh,[],U4 Dj⟩
theorem Ib:Ko N9:=
 ax (.c .o (.r [5] .o)) call331 func331 (aj xl (aj dX (aj u6 al)))
def agA:aq:=⟨374,[tO,dm,an],an,[],U3 Qx⟩
theorem Jl:Ko agA:=
 ax .o call374 func374 (aj B9 al)
def XG:aq:=⟨378,[tO,dm,an,V1],ez,[(true,3,V1)],U4 Lv⟩
theorem Oh:Ko XG:=
 ax (.l ⟨[(true,3,V1),(false,19,an)],[]⟩ (.c (.r [3] .o) .o)) call378 func378 (aj kf al)
def Y0:aq:=⟨375,[tO,dm,an],.bool,[],U3 PG⟩
theorem RQ:Ko Y0:=
 ax .o call375 func375 (aj Oh al)
def agS:aq:=⟨371,[tO,dm,an],Eh,[],U3 abL⟩
theorem Z4:Ko agS:=
 ax .o call371 func371 (aj Jl (aj RQ al))
def N0:aq:=⟨365,[lM,kY,aS,an],Eh,[],U4 C7⟩
theorem Hf:Ko N0:=
 ax (.r [5] .o) call365 func365 (aj dX (aj Z4 al))
def aeb:aq:=⟨195,[kY,aS,an],Eh,[],U3 Yo⟩
theorem WS:Ko aeb:=
 ax (.c .o (.r [3] .o)) call195 func195 (aj eV (aj yo (aj IH (aj FK (aj Gz (aj Ib (aj Hf al)))))))
def Y8:aq:=⟨262,[an,iz,ahQ,ah7],ez,[(true,3,(.bx 98 0 true [.same,.same,.same,dm]))],λs=>Oy s.1 s.2.1 s.2.2.1 s.2.2.2.1 s.2.2.2.2.1 s.2.2.2.2.2.1 s.2.2.2.2.2.2.1 s.2.2.2.2.2.2.2.1 s.2.2.2.2.2.2.2.2.1 (d8 s).2⟩
theorem Rc:Ko Y8:=
 ax .o call262 func262 (aj dM al)
def ab3:aq:=⟨257,[RR,dm,an,(.fn 262 [] [ahQ,ah7])],an,[(true,3,(.fn 262 [] [.same,ah7]))],λs=>SO s.1 s.2.1 s.2.2.1 s.2.2.2.1 s.2.2.2.2.1 s.2.2.2.2.2.1 s.2.2.2.2.2.2.1 s.2.2.2.2.2.2.2.1 s.2.2.2.2.2.2.2.2.1 (d8 s).2.1 (d8 s).2.2⟩
theorem Vy:Ko ab3:=
 ax .o call257 func257 (aj Jo (aj kj (aj Rc al)))
def ahl:aq:=⟨255,[RR,dm,an],(.cG [RR,an]),[],U3 abC⟩
theorem Zs:Ko ahl:=
 ax .o call255 func255 (aj Vy al)
def NG:aq:=⟨250,[lM,kY,aS,an],y8,[],U4 Dg⟩
theorem IK:Ko NG:=
 ax (.r [40000] .o) call250 func250 (aj dX (aj Zs al))
def ah5:aq:=⟨294,[LP,gE,aS,an],(.cG [LP,an]),[],U4 adO⟩
theorem Zb:Ko ah5:=
 ax (.c .o (.r [4] .o)) call294 func294 (aj L7 (aj dM al))
def Kh:aq:=⟨290,[lM,kY,aS,an],y8,[],U4 Bh⟩
theorem Gg:Ko Kh:=
 ax .o call290 func290 (aj Zb al)
def ahC:aq:=⟨312,[Lt,gE,aS,an],(.cG [Lt,an]),[],U4 abI⟩
theorem Y9:Ko ahC:=
 ax (.c .o (.r [4] .o)) call312 func312 (aj Kv (aj dM al))
def Le:aq:=⟨308,[lM,kY,aS,an],y8,[],U4 BI⟩
theorem FC:Ko Le:=
 ax .o call308 func308 (aj Y9 al)
def N4:aq:=⟨335,[lM,kY,aS,an],y8,[],U4 DW⟩
theorem IJ:Ko N4:=
 ax (.c .o (.r [5] .o)) call335 func335 (aj xl (aj dX (aj Db al)))
def V3:aq:=⟨378,[(.dat EL [none,some 11,none]),dm,(.iU (.int .i64 1)),(.fn 380 [] [])],ez,[(true,0,(.agg [.same,.same,.same,.same,gr,.same]))],U2 KJ⟩
theorem NU:Ko V3:=
 ax (.l ⟨[(true,0,(.agg [.same,.same,.same,.same,gr,.same])),(false,19,an)],[]⟩ (.c (.r [4,0] .o) .o)) call378 func378 (aj kf al)
def Xk:aq:=⟨378,[(.dat EL [none,none,some 11]),dm,(.iU (.int .i64 2)),(.fn 380 [] [])],ez,[(true,0,(.agg [.same,.same,.same,.same,.same,gr]))],U2 MF⟩
theorem Ou:Ko Xk:=
 ax (.l ⟨[(true,0,(.agg [.same,.same,.same,.same,.same,gr])),(false,19,an)],[]⟩ (.c (.r [4,0] .o) .o)) call378 func378 (aj kf al)
def Z9:aq:=⟨377,[tO,dm,an],tO,[],U3 OU⟩
theorem Qy:Ko Z9:=
 ax (.r [60000,2,0,0,1,2] (.c .o (.c .o (.c .o (.n 77777 .o))))) call377 func377 (aj dM (aj yz (aj NU (aj Ou al))))
def aif:aq:=⟨373,[tO,dm,an],(.cG [tO,an]),[],U3 aaz⟩
theorem ZD:Ko aif:=
 ax .o call373 func373 (aj Jl (aj Qy al))
def Oj:aq:=⟨369,[lM,kY,aS,an],y8,[],U4 Dv⟩
theorem Ik:Ko Oj:=
 ax (.r [40000] .o) call369 func369 (aj dX (aj ZD al))
def aeA:aq:=⟨196,[kY,aS,an],y8,[],U3 XS⟩
theorem WH:Ko aeA:=
 ax (.c .o (.r [3,6] .o)) call196 func196 (aj eV (aj yo (aj IK (aj Gg (aj FC (aj IJ (aj Ik al)))))))
def JV:bI:=⟨152,[MW,aS],Rs,none,false,false,.bool,[(true,0,IE)],λs=>yC (d8 (d8 (d8 (d8 (d8 s))))).2.2.2.2.2 s.1 s.2.1 s.2.2.1 s.2.2.2.1 s.2.2.2.2.1 s.2.2.2.2.2.1 s.2.2.2.2.2.2.1 s.2.2.2.2.2.2.2.1 s.2.2.2.2.2.2.2.2.1 (d8 s).2.1 (d8 s).2.2.1 (d8 s).2.2.2.1 (d8 s).2.2.2.2.1 (d8 s).2.2.2.2.2.1 (d8 s).2.2.2.2.2.2.1 (d8 s).2.2.2.2.2.2.2.1 (d8 (d8 s)).1 (d8 (d8 s)).2.1 (d8 (d8 s)).2.2.1 (d8 (d8 s)).2.2.2.1 (d8 (d8 s)).2.2.2.2.1 (d8 (d8 s)).2.2.2.2.2.1 (d8 (d8 s)).2.2.2.2.2.2.1 (d8 (d8 s)).2.2.2.2.2.2.2.1 (d8 (d8 (d8 s))).1 (d8 (d8 (d8 s))).2.1 (d8 (d8 (d8 s))).2.2.1 (d8 (d8 (d8 s))).2.2.2.1 (d8 (d8 (d8 s))).2.2.2.2.1 (d8 (d8 (d8 s))).2.2.2.2.2.1 (d8 (d8 (d8 s))).2.2.2.2.2.2.1 (d8 (d8 (d8 s))).2.2.2.2.2.2.2.1 (d8 (d8 (d8 (d8 s)))).1 (d8 (d8 (d8 (d8 s)))).2.1 (d8 (d8 (d8 (d8 s)))).2.2.1 (d8 (d8 (d8 (d8 s)))).2.2.2.1 (d8 (d8 (d8 (d8 s)))).2.2.2.2.1 (d8 (d8 (d8 (d8 s)))).2.2.2.2.2.1 (d8 (d8 (d8 (d8 s)))).2.2.2.2.2.2.1 (d8 (d8 (d8 (d8 s)))).2.2.2.2.2.2.2.1 (d8 (d8 (d8 (d8 (d8 s))))).1 (d8 (d8 (d8 (d8 (d8 s))))).2.1 (d8 (d8 (d8 (d8 (d8 s))))).2.2.1 (d8 (d8 (d8 (d8 (d8 s))))).2.2.2.1 (d8 (d8 (d8 (d8 (d8 s))))).2.2.2.2.1⟩
theorem Ep:pG JV:=
 oC .o call152 func152 (aj WS (aj WH al)) (aj kE al) al λ_=>by kernel_rfl
def FJ:bI:=⟨104,[MW,aS,(.fn 152 [(.ptr 0 0)] []),(.fn 150 [] [KT,(.bx 225 0 false [MN])]),(.fn 153 [] [])],Rs,some VB,false,true,ez,[(true,0,IE)],λs=>vF (d8 (d8 (d8 (d8 (d8 s))))).2.2.2.2.2.1 s.1 s.2.1 s.2.2.1 s.2.2.2.1 s.2.2.2.2.1 s.2.2.2.2.2.1 s.2.2.2.2.2.2.1 s.2.2.2.2.2.2.2.1 s.2.2.2.2.2.2.2.2.1 (d8 s).2.1 (d8 s).2.2.1 (d8 s).2.2.2.1 (d8 s).2.2.2.2.1 (d8 s).2.2.2.2.2.1 (d8 s).2.2.2.2.2.2.1 (d8 s).2.2.2.2.2.2.2.1 (d8 (d8 s)).1 (d8 (d8 s)).2.1 (d8 (d8 s)).2.2.1 (d8 (d8 s)).2.2.2.1 (d8 (d8 s)).2.2.2.2.1 (d8 (d8 s)).2.2.2.2.2.1 (d8 (d8 s)).2.2.2.2.2.2.1 (d8 (d8 s)).2.2.2.2.2.2.2.1 (d8 (d8 (d8 s))).1 (d8 (d8 (d8 s))).2.1 (d8 (d8 (d8 s))).2.2.1 (d8 (d8 (d8 s))).2.2.2.1 (d8 (d8 (d8 s))).2.2.2.2.1 (d8 (d8 (d8 s))).2.2.2.2.2.1 (d8 (d8 (d8 s))).2.2.2.2.2.2.1 (d8 (d8 (d8 s))).2.2.2.2.2.2.2.1 (d8 (d8 (d8 (d8 s)))).1 (d8 (d8 (d8 (d8 s)))).2.1 (d8 (d8 (d8 (d8 s)))).2.2.1 (d8 (d8 (d8 (d8 s)))).2.2.2.1 (d8 (d8 (d8 (d8 s)))).2.2.2.2.1 (d8 (d8 (d8 (d8 s)))).2.2.2.2.2.1 (d8 (d8 (d8 (d8 s)))).2.2.2.2.2.2.1 (d8 (d8 (d8 (d8 s)))).2.2.2.2.2.2.2.1 (d8 (d8 (d8 (d8 (d8 s))))).1 (d8 (d8 (d8 (d8 (d8 s))))).2.1 (d8 (d8 (d8 (d8 (d8 s))))).2.2.1 (d8 (d8 (d8 (d8 (d8 s))))).2.2.2.1 (d8 (d8 (d8 (d8 (d8 s))))).2.2.2.2.1 (d8 (d8 (d8 (d8 (d8 s))))).2.2.2.2.2.2.1 (d8 (d8 (d8 (d8 (d8 s))))).2.2.2.2.2.2.2⟩
theorem AP:pG FJ:=
 oC (.l ⟨[(true,0,IE),(false,11,(.own yi 277 true))],[]⟩ .o) call104 func104 (aj wx al) (aj oO (aj wi (aj Ep al))) al λ_=>by kernel_rfl
def Eu:bI:=⟨106,[MW,MN],Rs,some VB,false,true,ez,[(true,0,IE)],λs=>uv (d8 (d8 (d8 (d8 (d8 s))))).2.2.2.2.2 s.1 s.2.1 s.2.2.1 s.2.2.2.1 s.2.2.2.2.1 s.2.2.2.2.2.1 s.2.2.2.2.2.2.1 s.2.2.2.2.2.2.2.1 s.2.2.2.2.2.2.2.2.1 (d8 s).2.1 (d8 s).2.2.1 (d8 s).2.2.2.1 (d8 s).2.2.2.2.1 (d8 s).2.2.2.2.2.1 (d8 s).2.2.2.2.2.2.1 (d8 s).2.2.2.2.2.2.2.1 (d8 (d8 s)).1 (d8 (d8 s)).2.1 (d8 (d8 s)).2.2.1 (d8 (d8 s)).2.2.2.1 (d8 (d8 s)).2.2.2.2.1 (d8 (d8 s)).2.2.2.2.2.1 (d8 (d8 s)).2.2.2.2.2.2.1 (d8 (d8 s)).2.2.2.2.2.2.2.1 (d8 (d8 (d8 s))).1 (d8 (d8 (d8 s))).2.1 (d8 (d8 (d8 s))).2.2.1 (d8 (d8 (d8 s))).2.2.2.1 (d8 (d8 (d8 s))).2.2.2.2.1 (d8 (d8 (d8 s))).2.2.2.2.2.1 (d8 (d8 (d8 s))).2.2.2.2.2.2.1 (d8 (d8 (d8 s))).2.2.2.2.2.2.2.1 (d8 (d8 (d8 (d8 s)))).1 (d8 (d8 (d8 (d8 s)))).2.1 (d8 (d8 (d8 (d8 s)))).2.2.1 (d8 (d8 (d8 (d8 s)))).2.2.2.1 (d8 (d8 (d8 (d8 s)))).2.2.2.2.1 (d8 (d8 (d8 (d8 s)))).2.2.2.2.2.1 (d8 (d8 (d8 (d8 s)))).2.2.2.2.2.2.1 (d8 (d8 (d8 (d8 s)))).2.2.2.2.2.2.2.1 (d8 (d8 (d8 (d8 (d8 s))))).1 (d8 (d8 (d8 (d8 (d8 s))))).2.1 (d8 (d8 (d8 (d8 (d8 s))))).2.2.1 (d8 (d8 (d8 (d8 (d8 s))))).2.2.2.1 (d8 (d8 (d8 (d8 (d8 s))))).2.2.2.2.1⟩
theorem Ah:pG Eu:=
 oC .o call106 func106 (aj VD al) (aj AP al) al λ_=>by kernel_rfl
def Ac:aq:=⟨105,[MN,aS],ez,[],U2 pM⟩
theorem v8:Ko Ac:=
 ax .o call105 func105 al
def Ls:bI:=⟨104,[MW,aS,(.fn 103 [(.ptr 0 0)] []),(.fn 105 [] []),(.fn 106 [(.ptr 0 0)] [])],Rs,some VB,false,false,ez,[(true,0,IE)],λs=>Ch (d8 (d8 (d8 (d8 (d8 s))))).2.2.2.2.2 s.1 s.2.1 s.2.2.1 s.2.2.2.1 s.2.2.2.2.1 s.2.2.2.2.2.1 s.2.2.2.2.2.2.1 s.2.2.2.2.2.2.2.1 s.2.2.2.2.2.2.2.2.1 (d8 s).2.1 (d8 s).2.2.1 (d8 s).2.2.2.1 (d8 s).2.2.2.2.1 (d8 s).2.2.2.2.2.1 (d8 s).2.2.2.2.2.2.1 (d8 s).2.2.2.2.2.2.2.1 (d8 (d8 s)).1 (d8 (d8 s)).2.1 (d8 (d8 s)).2.2.1 (d8 (d8 s)).2.2.2.1 (d8 (d8 s)).2.2.2.2.1 (d8 (d8 s)).2.2.2.2.2.1 (d8 (d8 s)).2.2.2.2.2.2.1 (d8 (d8 s)).2.2.2.2.2.2.2.1 (d8 (d8 (d8 s))).1 (d8 (d8 (d8 s))).2.1 (d8 (d8 (d8 s))).2.2.1 (d8 (d8 (d8 s))).2.2.2.1 (d8 (d8 (d8 s))).2.2.2.2.1 (d8 (d8 (d8 s))).2.2.2.2.2.1 (d8 (d8 (d8 s))).2.2.2.2.2.2.1 (d8 (d8 (d8 s))).2.2.2.2.2.2.2.1 (d8 (d8 (d8 (d8 s)))).1 (d8 (d8 (d8 (d8 s)))).2.1 (d8 (d8 (d8 (d8 s)))).2.2.1 (d8 (d8 (d8 (d8 s)))).2.2.2.1 (d8 (d8 (d8 (d8 s)))).2.2.2.2.1 (d8 (d8 (d8 (d8 s)))).2.2.2.2.2.1 (d8 (d8 (d8 (d8 s)))).2.2.2.2.2.2.1 (d8 (d8 (d8 (d8 s)))).2.2.2.2.2.2.2.1 (d8 (d8 (d8 (d8 (d8 s))))).1 (d8 (d8 (d8 (d8 (d8 s))))).2.1 (d8 (d8 (d8 (d8 (d8 s))))).2.2.1 (d8 (d8 (d8 (d8 (d8 s))))).2.2.2.1 (d8 (d8 (d8 (d8 (d8 s))))).2.2.2.2.1⟩
theorem FP:pG Ls:=
 oC (.l ⟨[(true,0,IE),(false,11,(.own yi 277 true))],[]⟩ .o) call104 func104 (aj v8 al) (aj oO (aj Ah (aj kE al))) al λ_=>by kernel_rfl
def JR:bI:=⟨68,[MW],Rs,some VB,false,false,ez,[(true,0,IE)],λs=>yN s.1 s.2.1 s.2.2.1 s.2.2.2.1 s.2.2.2.2.1 s.2.2.2.2.2.1 s.2.2.2.2.2.2.1 s.2.2.2.2.2.2.2.1 s.2.2.2.2.2.2.2.2.1 (d8 s).2.1 (d8 s).2.2.1 (d8 s).2.2.2.1 (d8 s).2.2.2.2.1 (d8 s).2.2.2.2.2.1 (d8 s).2.2.2.2.2.2.1 (d8 s).2.2.2.2.2.2.2.1 (d8 (d8 s)).1 (d8 (d8 s)).2.1 (d8 (d8 s)).2.2.1 (d8 (d8 s)).2.2.2.1 (d8 (d8 s)).2.2.2.2.1 (d8 (d8 s)).2.2.2.2.2.1 (d8 (d8 s)).2.2.2.2.2.2.1 (d8 (d8 s)).2.2.2.2.2.2.2.1 (d8 (d8 (d8 s))).1 (d8 (d8 (d8 s))).2.1 (d8 (d8 (d8 s))).2.2.1 (d8 (d8 (d8 s))).2.2.2.1 (d8 (d8 (d8 s))).2.2.2.2.1 (d8 (d8 (d8 s))).2.2.2.2.2.1 (d8 (d8 (d8 s))).2.2.2.2.2.2.1 (d8 (d8 (d8 s))).2.2.2.2.2.2.2.1 (d8 (d8 (d8 (d8 s)))).1 (d8 (d8 (d8 (d8 s)))).2.1 (d8 (d8 (d8 (d8 s)))).2.2.1 (d8 (d8 (d8 (d8 s)))).2.2.2.1 (d8 (d8 (d8 (d8 s)))).2.2.2.2.1 (d8 (d8 (d8 (d8 s)))).2.2.2.2.2.1 (d8 (d8 (d8 (d8 s)))).2.2.2.2.2.2.1 (d8 (d8 (d8 (d8 s)))).2.2.2.2.2.2.2.1 (d8 (d8 (d8 (d8 (d8 s))))).1 (d8 (d8 (d8 (d8 (d8 s))))).2.1 (d8 (d8 (d8 (d8 (d8 s))))).2.2.1 (d8 (d8 (d8 (d8 (d8 s))))).2.2.2.1 (d8 (d8 (d8 (d8 (d8 s))))).2.2.2.2⟩
theorem Ey:pG JR:=
 oC (.r [] (.l ⟨[(true,0,IE),(false,14,an)],[]⟩ .o)) call68 func68 (aj Wr al) (aj kE (aj FP al)) al λ_=>by kernel_rfl
def ae5:aq:=⟨46,[yh,LU,wL],(.cG [.bool,QL,an,aS]),[],U3 Yx⟩
theorem alu:(⟨67,Tryz.f67⟩:jR).Ok X0.P:=⟨call67,func67⟩
theorem Xq:Ko ae5:=
 aX (.c (.r [6,7,8,9] .o) .o) call46 func46 (aj Rr (aj vY al)) (aj Ey al) (aj alu al) λ_=>by kernel_rfl
def ZE:aq:=⟨71,[aS],aS,[],λs=>O6 s⟩
theorem Rk:Ko ZE:=
 ax .o call71 func71 al
def Hp:aq:=⟨72,[xO,(.fn 71 [] [])],gR,[],λs=>o8 s⟩
theorem CX:Ko Hp:=
 ax (.l ⟨[(false,5,gR),(false,10,an)],[]⟩ .o) call72 func72 (aj Rk al)
def agp:aq:=⟨48,[QL],QL,[],λs=>abG s⟩
theorem ZP:Ko agp:=
 ax (.r [2] .o) call48 func48 (aj CX al)
def CU:aq:=⟨113,[(.sli lx)],gR,[],λs=>lv s⟩
theorem mS:Ko CU:=
 ax (.l ⟨[(false,3,an),(false,11,an)],[]⟩ (.c .o (.l ⟨[(false,6,gR),(false,27,an)],[]⟩ .o))) call113 func113 (aj ai3 al)
def Wc:aq:=⟨115,[aS,agq],.bool,[],U6 Mb⟩
theorem NX:Ko Wc:=
 ax .o call115 func115 (aj eV al)
def GS:aq:=⟨114,[xO,(.fn 115 [] [agq])],dT,[],U6 vr⟩
theorem BN:Ko GS:=
 ax (.l ⟨[(false,5,dT),(false,10,an)],[]⟩ .o) call114 func114 (aj NX al)
def Of:aq:=⟨120,[aS,KT],.bool,[],U2 C6⟩
theorem Is:Ko Of:=
 ax .o call120 func120 (aj jg al)
def xT:aq:=⟨158,[xO,(.fn 120 [] [KT])],an,[],U2 oz⟩
theorem vo:Ko xT:=
 ax (.l ⟨[(false,8,an)],[]⟩ .o) call158 func158 (aj Is al)
def vn:aq:=⟨119,[xO,(.fn 120 [] [KT])],.bool,[],U2 lT⟩
theorem sF:Ko vn:=
 ax .o call119 func119 (aj vo al)
def Xc:aq:=⟨118,[aS,aS,agq],.bool,[],U7 LL⟩
theorem NF:Ko Xc:=
 ax .o call118 func118 (aj wa (aj sF al))
def PV:aq:=⟨117,[xO,(.fn 118 [] [agq])],.bool,[],U6 GZ⟩
theorem JX:Ko PV:=
 ax (.l ⟨[(false,5,an)],[]⟩ (.c (.r [1] .o) .o)) call117 func117 (aj NF al)
def ad5:aq:=⟨73,[yh,QL],.bool,[],U2 K4⟩
theorem W9:Ko ad5:=
 ax (.c .o (.r [] (.r [6] .o))) call73 func73 (aj mS (aj BN (aj gf (aj jg (aj JX al)))))
def aaB:aq:=⟨75,[QL],(.dat (.p lx aY) [some 47]),[],λs=>Hx s⟩
theorem Sx:Ko aaB:=
 ax (.r [2] .o) call75 func75 (aj mS al)
def akl:aq:=⟨159,[fF],.bool,[],λs=>Wf s⟩
def Kz(a:Ex->Ex)(g:Sh->(R:Type)->Option R->Option R)(e:Ex):w4:= (kD (a e)).bind λd=> ai (d.2.1==0) λf=> ai (d.1==2) λc=> ai (f&&c) λb=> some b
theorem adN:Ko akl:=
 aX .o call159 func159 (aj pF al) al al λs=>(show _=Kz bl aM s from by kernel_rfl).trans ((congrArg (λa=>Kz a aM s) aJ).trans ((congrArg (λb=>Kz id b s) aN).trans (by kernel_rfl)))
def aaM:aq:=⟨161,[an,W4,Mj],.bool,[],U7 Vj⟩
theorem UK:Ko aaM:=
 ax .o call161 func161 (aj px al)
def agI:aq:=⟨160,[an,(.fn 161 [] [W4,Mj])],dT,[],U7 QO⟩
theorem Zf:Ko agI:=
 ax (.l ⟨[(true,5,dT),(false,11,an)],[]⟩ .o) call160 func160 (aj UK al)
def adw:aq:=⟨165,[an,ji],.bool,[],U2 UZ⟩
theorem Uf:Ko adw:=
 ax .o call165 func165 al
def Y5:aq:=⟨160,[an,(.fn 165 [] [ji])],dT,[],U2 Pr⟩
theorem PQ:Ko Y5:=
 ax (.l ⟨[(true,5,dT),(false,11,an)],[]⟩ .o) call160 func160 (aj Uf al)
def adk:aq:=⟨166,[an,ji,ji],.bool,[],U3 Vz⟩
theorem R3:Ko adk:=
 ax .o call166 func166 al
def Zn:aq:=⟨160,[an,(.fn 166 [] [ji,ji])],dT,[],U3 Pn⟩
theorem QR:Ko Zn:=
 ax (.l ⟨[(true,5,dT),(false,11,an)],[]⟩ .o) call160 func160 (aj R3 al)
def acC:aq:=⟨167,[an,ji,ji],.bool,[],U3 Sw⟩
theorem Ss:Ko acC:=
 ax .o call167 func167 al
def Zo:aq:=⟨160,[an,(.fn 167 [] [ji,ji])],dT,[],U3 OI⟩
theorem QG:Ko Zo:=
 ax (.l ⟨[(true,5,dT),(false,11,an)],[]⟩ .o) call160 func160 (aj Ss al)
def acV:aq:=⟨168,[an,ji,ji],.bool,[],U3 SV⟩
theorem Se:Ko acV:=
 ax .o call168 func168 al
def Zm:aq:=⟨160,[an,(.fn 168 [] [ji,ji])],dT,[],U3 Pz⟩
theorem Qg:Ko Zm:=
 ax (.l ⟨[(true,5,dT),(false,11,an)],[]⟩ .o) call160 func160 (aj Se al)
def aaD:aq:=⟨169,[an,ji,ji],.bool,[],U3 Va⟩
theorem Vm:Ko aaD:=
 ax .o call169 func169 al
def Z5:aq:=⟨160,[an,(.fn 169 [] [ji,ji])],dT,[],U3 Pv⟩
theorem Rv:Ko Z5:=
 ax (.l ⟨[(true,5,dT),(false,11,an)],[]⟩ .o) call160 func160 (aj Vm al)
def ahR:aq:=⟨171,[Kf,an],an,[],U2 IU⟩
theorem yr:Ko ahR:=
 ax .o call171 func171 al
def aa5:aq:=⟨170,[an,ji,Mj],.bool,[],U4 UA⟩
theorem UN:Ko aa5:=
 ax .o call170 func170 (aj yr al)
def YS:aq:=⟨160,[an,(.fn 170 [] [ji,Mj])],dT,[],U4 Ph⟩
theorem PT:Ko YS:=
 ax (.l ⟨[(true,5,dT),(false,11,an)],[]⟩ .o) call160 func160 (aj UN al)
def Sm:aq:=⟨164,[an,Ns],.bool,[],U2 Jb⟩
theorem Kn:Ko Sm:=
 ax .o call164 func164 al
def ZG:aq:=⟨160,[an,(.fn 164 [] [Ns])],dT,[],U2 O9⟩
theorem Rb:Ko ZG:=
 ax (.l ⟨[(true,5,dT),(false,11,an)],[]⟩ .o) call160 func160 (aj Kn al)
def acw:aq:=⟨163,[.bool,(.bx 3 0 false [an])],dT,[],U2 HG⟩
theorem Vp:Ko acw:=
 ax .o call163 func163 (aj Rb al)
def Xj:aq:=⟨210,[an,Ns],.bool,[],U2 Lx⟩
theorem Ob:Ko Xj:=
 ax .o call210 func210 al
def Z3:aq:=⟨160,[an,(.fn 210 [] [Ns])],dT,[],U2 EA⟩
theorem BK:Ko Z3:=
 ax (.l ⟨[(true,5,dT),(false,11,an)],[]⟩ .o) call160 func160 (aj Ob al)
def NI:aq:=⟨200,[an,(.own .bo 4 false),Kr,Kr,Mj],.bool,[],U6 DQ⟩
theorem HF:Ko NI:=
 ax .o call200 func200 (aj yr al)
def VP:aq:=⟨211,[an,(.bx 321 0 false [ahg]),ji],.bool,[],λs=>Kt s.1 s.2.2.2.2.2 s.2.1 s.2.2.1 s.2.2.2.1 s.2.2.2.2.1⟩
theorem NC:Ko VP:=
 ax .o call211 func211 (aj HF al)
def Xx:aq:=⟨160,[an,(.fn 211 [] [(.bx 321 0 false [ahg]),ji])],dT,[],λs=>L3 s.1 s.2.2.2.2.2 s.2.1 s.2.2.1 s.2.2.2.1 s.2.2.2.2.1⟩
theorem Ny:Ko Xx:=
 ax (.l ⟨[(true,5,dT),(false,11,an)],[]⟩ .o) call160 func160 (aj NC al)
def va:aq:=⟨212,[(.own .bo 4 false),(.own .bo 4 false)],.bool,[],U2 gT⟩
theorem jv:Ko va:=
 ax (.c .o (.l ⟨[(false,13,an)],[]⟩ .o)) call212 func212 al
def aei:aq:=⟨199,[Kf,.bool,ahg],dT,[],U6 XW⟩
theorem W0:Ko aei:=
 ax (.n 0 (.j ⟨[(true,7,(.bx 287 0 true [dT]))],[]⟩ .o .o)) call199 func199 (aj BK (aj Ny (aj jv al)))
def aeD:aq:=⟨172,[Kf,(.sli .bo),(.sli .bo)],dT,[],U3 KE⟩
theorem W8:Ko aeD:=
 ax .o call172 func172 (aj W0 al)
def Jz:aq:=⟨201,[an,(.own .bo 4 false),Kr,Kr,Mj],.bool,[],U6 yI⟩
theorem Eg:Ko Jz:=
 ax .o call201 func201 (aj yr al)
def Ox:aq:=⟨211,[an,(.bx 321 0 false [ahY]),ji],.bool,[],λs=>DT s.1 s.2.2.2.2.2 s.2.1 s.2.2.1 s.2.2.2.1 s.2.2.2.2.1⟩
theorem I0:Ko Ox:=
 ax .o call211 func211 (aj Eg al)
def Xv:aq:=⟨160,[an,(.fn 211 [] [(.bx 321 0 false [ahY]),ji])],dT,[],λs=>Kg s.1 s.2.2.2.2.2 s.2.1 s.2.2.1 s.2.2.2.1 s.2.2.2.2.1⟩
theorem On:Ko Xv:=
 ax (.l ⟨[(true,5,dT),(false,11,an)],[]⟩ .o) call160 func160 (aj I0 al)
def Wt:aq:=⟨199,[Kf,.bool,ahY],dT,[],U6 Mi⟩
theorem NJ:Ko Wt:=
 ax (.n 0 (.j ⟨[(true,7,(.bx 287 0 true [dT]))],[]⟩ .o .o)) call199 func199 (aj BK (aj On (aj jv al)))
def ZR:aq:=⟨173,[Kf,(.sli .bo),(.sli .bo)],dT,[],U3 Em⟩
theorem QZ:Ko ZR:=
 ax .o call173 func173 (aj NJ al)
def Ys:aq:=⟨121,[fF,Kf],dT,[],U2 VS⟩
def E5(b:Ex->Ex)(o:Sh->(R:Type)->Option R->Option R)(m:(Ex×gW)->Option aU)(e:Ex)(c:gW):Option aU:= (Wf (b e)).bind λj=> bif j then ( (QO (c.1.length:Int) e.op e.n e.at_ e.l c.1 c.2).bind λi=> some i) else ( (idx e.l 0).bind λk=> (m ((b k),c)).bind λh=> ai (λ(d:aU)=>VH e c h d) λa=> bif decide (1<(List.length e.l:Int)) then (idx e.l 1).bind λg=> (m ((b g),c)).bind λf=> a f else a [])
def XR:aaY->aaY:=λa s=>Ye a s.1 s.2
theorem Wp(a:aaY)(b:arn a):(yW (XR a)).Ok X0.P X0.Γ:=
 aX (.c .o (.r [40000] (.s (.j ⟨[(true,7,(.bx 287 0 true [dT]))],[]⟩ (.c (.r [7] .o) .o) (.c .o (.c .o (.c .o (.c .o (.c .o (.c .o (.c (.r [6,8] .o) (.c (.r [6,8] .o) .o)))))))))))) call121 func121 (aj adN (aj Zf (aj b (aj PQ (aj QR (aj QG (aj Qg (aj Rv (aj PT (aj Vp (aj W8 (aj QZ al)))))))))))) al al λs=>(show _=E5 bl aM a s.1 s.2 from by kernel_rfl).trans ((congrArg (λd=>E5 d aM a s.1 s.2) aJ).trans ((congrArg (λe=>E5 id e a s.1 s.2) aN).trans (by kernel_rfl)))
theorem adG:Ko Ys:=(show Ys=yW (aw (XR) az) by kernel_rfl)▸dN (X:=X0) (E:=yW) ⟨call121,λ_ _ h=>nomatch h⟩ (Wp) az
def ae7:aq:=⟨74,[fF,Kf],.bool,[],U2 KZ⟩
def ED(a:Ex->Ex)(f:Sh->(R:Type)->Option R->Option R)(e:Ex)(c:gW):w4:= (VS (a e) c).bind λd=> (idx d 0).bind λb=> some b
theorem Xn:Ko ae7:=
 aX .o call74 func74 (aj adG al) al al λs=>(show _=ED bl aM s.1 s.2 from by kernel_rfl).trans ((congrArg (λa=>ED a aM s.1 s.2) aJ).trans ((congrArg (λb=>ED id b s.1 s.2) aN).trans (by kernel_rfl)))
def Zz:aq:=⟨49,[yh,fF,QL],.bool,[],U3 OF⟩
def yb(d:Ex->Ex)(h:Sh->(R:Type)->Option R->Option R)(m:sX)(e:Ex)(l:pJ):w4:= (K4 m l).bind λa=> bz a default (Hx l) λc=> bz a default (KZ (d e) c) λb=> ai (!b) λg=> ai (a&&g) λf=> some f
theorem Ru:Ko Zz:=
 aX .o call49 func49 (aj W9 (aj Sx (aj Xn al))) al al λs=>(show _=yb bl aM s.1 s.2.1 s.2.2 from by kernel_rfl).trans ((congrArg (λa=>yb a aM s.1 s.2.1 s.2.2) aJ).trans ((congrArg (λb=>yb id b s.1 s.2.1 s.2.2) aN).trans (by kernel_rfl)))
def JG:aq:=⟨37,[ahE],.bool,[(true,0,(.bx 81 0 true [.same,.same,.same,.same,.same,.same,.same,.same,.same,.same,.same,.same,.same,.same,.same,.same,.same,an,an,an,aS,xO,xO]))],λs=>yv s.1 s.2.1 s.2.2.1 s.2.2.2.1 s.2.2.2.2.1 s.2.2.2.2.2.1 s.2.2.2.2.2.2.1 s.2.2.2.2.2.2.2.1 s.2.2.2.2.2.2.2.2.1 (d8 s).2.1 (d8 s).2.2.1 (d8 s).2.2.2.1 (d8 s).2.2.2.2.1 (d8 s).2.2.2.2.2.1 (d8 s).2.2.2.2.2.2.1 (d8 s).2.2.2.2.2.2.2.1 (d8 (d8 s)).1 (d8 (d8 s)).2.1 (d8 (d8 s)).2.2.1 (d8 (d8 s)).2.2.2.1 (d8 (d8 s)).2.2.2.2.1 (d8 (d8 s)).2.2.2.2.2.1 (d8 (d8 s)).2.2.2.2.2.2⟩
theorem EI:Ko JG:=
 ax (.r [40000] (.c .o (.r [40000] .o))) call37 func37 (aj Hg (aj Xq (aj hU (aj ZP (aj Ru al)))))
def ZK:aq:=⟨27,[.str,.str,wL],ahI,[],U3 Pq⟩
theorem akM:(⟨33,Tryz.f33⟩:jR).Ok X0.P:=⟨call33,func33⟩
theorem PY:Ko ZK:=
 aX (.n 50 .o) call27 func27 (aj Hs (aj EJ (aj A6 (aj EI al)))) al (aj akM al) λ_=>by kernel_rfl
def aeK:aq:=⟨11,[ahI],.str,[],λs=>te s⟩
theorem vT:Ko aeK:=
 ax (.s (.s (.j ⟨[(true,3,Fa)],[]⟩ .o (.l ⟨[(true,3,Fa),(false,35,an)],[]⟩ (.c .o (.l ⟨[(true,3,Fa),(false,47,an)],[]⟩ (.c .o (.j ⟨[(true,3,Fa)],[1]⟩ .o .o)))))))) call11 func11 (aj Jx (aj jG (aj lW al)))
def aih:aq:=⟨16,[.str],.str,[],λs=>RL s⟩
theorem ZA:Ko aih:=
 ax .o call16 func16 (aj alT (aj yM (aj Jx (aj PY (aj vT al)))))
def FF:aq:=⟨7,[],.bool,[],λ_=>nC⟩
theorem Cl:Ko FF:=
 ax .o call7 func7 (aj ZA (aj yM (aj vT al)))
def J6:aq:=⟨8,[QL,an],.bool,[],U2 lr⟩
theorem E4:Ko J6:=
 ax (.c .o (.l ⟨[(false,5,an)],[]⟩ (.c .o (.l ⟨[(false,6,an)],[]⟩ .o)))) call8 func8 al
def Gf:aq:=⟨15,[.str],sG,[],λs=>jQ s⟩
theorem BQ:Ko Gf:=
 ax (.l ⟨[(false,3,sG),(false,4,.str),(false,5,an)],[]⟩ .o) call15 func15 al
def rC:aq:=⟨25,[mK],.str,[],λs=>jo s⟩
def rJ:aaN->aaN:=λa s=>dw a s
theorem xD(a:aaN)(b:arl a):(gI (rJ a)).Ok X0.P X0.Γ:=
 ax .o call25 func25 (aj b al)
theorem Am:Ko rC:=(show rC=gI (aw (rJ) az) by kernel_rfl)▸dN (X:=X0) (E:=gI) ⟨call25,λ_ _ h=>nomatch h⟩ (xD) az
def JB:aq:=⟨13,[an],.str,[],λs=>gA s⟩
theorem ET:Ko JB:=
 ax .o call13 func13 (aj Am al)
end
end Go.Proofs.YtkedhpmpejhekaaGreatDoor
