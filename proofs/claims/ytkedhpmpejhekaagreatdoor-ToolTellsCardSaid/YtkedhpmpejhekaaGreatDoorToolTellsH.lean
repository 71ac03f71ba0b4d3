/- Own texts for ToolTells, cut and joined by a program. -/
import Derived.Test.YtkedhpmpejhekaaGreatDoorToolTellsG
set_option linter.all false
namespace Go.Proofs.YtkedhpmpejhekaaGreatDoor
open IntKind (i32 i64)
open Go.Proofs
noncomputable section
set_option maxRecDepth 100000
abbrev Uc:Ty:=(.p (.i .i64) (.p (.l (.p (.i .i64) (.i .i64))) (.p (.i .i64) (.p (.p (.p (.i .i64) (.p (.l (.l (.i .u8))) (.l (.i .i64)))) (.l (.i .u8))) (.p (.p (.l (.p (.i .i64) (.p (.l (.l (.i .u8))) (.l (.i .i64))))) (.p (.p (.i .i64) (.p (.l (.l (.i .u8))) (.l (.i .i64)))) (.l (.i .u8)))) (.p (.p (.l (.p (.i .i64) (.p (.l (.l (.i .u8))) (.l (.i .i64))))) (.l (.i .u8))) (.p (.p (.p (.i .i64) (.p (.l (.p (.l (.p (.i .u8) (.i .i64))) (.i .i64))) (.p (.i .i64) (.p (.i .i64) (.l (.i .i64)))))) (.p (.p (.i .i64) (.p (.l (.p (.l (.p (.i .u8) (.i .i64))) (.i .i64))) (.p (.i .i64) (.p (.i .i64) (.l (.i .i64)))))) (.p (.i .i64) (.p (.l (.p (.l (.p (.i .u8) (.i .i64))) (.i .i64))) (.p (.i .i64) (.p (.i .i64) (.l (.i .i64)))))))) (.p (.i .i64) (.p (.i .i64) (.p (.i .u64) (.p (.l (.i .u8)) (.p (.l (.i .u8)) (.l (.i .u8))))))))))))))
abbrev aY:Ty:=(.i .i64)
abbrev an:Pt:=(.int .i64)
abbrev QL4:List Pt:=(.same:: .same:: .same:: .same:: .same:: .same:: .same:: .same:: .same::an::(.sli (.p aY aY))::an::an::(.sli (.l (.i .u8)))::(.sli aY)::(.sli (.i .u8))::(.sli (.p aY (.p (.l (.l (.i .u8))) (.l aY))))::an::(.sli (.l (.i .u8)))::(.sli aY)::(.sli (.i .u8))::(.sli (.p aY (.p (.l (.l (.i .u8))) (.l aY))))::(.sli (.i .u8))::an::(.sli (.p (.l (.p (.i .u8) aY)) aY))::an::an::(.sli aY)::an::(.sli (.p (.l (.p (.i .u8) aY)) aY))::an::an::(.sli aY)::an::(.sli (.p (.l (.p (.i .u8) aY)) aY))::an::an::(.sli aY)::an::an::(.int .u64)::(.sli (.i .u8))::(.sli (.i .u8))::(.sli (.i .u8)):: .same::[])
abbrev lf:Pt:=(.dat Uc [none,none,none,none,none,none,none,none,none,none,none,none,none,none,none,none,none,none,none])
abbrev QL6:List Pt:=((.sli .s)::(.sli (.p aY aY))::(.sli aY)::(.sli .s)::(.sli (.p aY (.p .ex (.l (.p aY .ex)))))::(.sli (.l .ex))::(.sli (.l aY))::(.sli aY)::(.sli (.l aY))::an::(.sli (.p aY aY))::an::an::(.sli (.l (.i .u8)))::(.sli aY)::(.sli (.i .u8))::(.sli (.p aY (.p (.l (.l (.i .u8))) (.l aY))))::an::(.sli (.l (.i .u8)))::(.sli aY)::(.sli (.i .u8))::(.sli (.p aY (.p (.l (.l (.i .u8))) (.l aY))))::(.sli (.i .u8))::an::(.sli (.p (.l (.p (.i .u8) aY)) aY))::an::an::(.sli aY)::an::(.sli (.p (.l (.p (.i .u8) aY)) aY))::an::an::(.sli aY)::an::(.sli (.p (.l (.p (.i .u8) aY)) aY))::an::an::(.sli aY)::an::an::(.int .u64)::(.sli (.i .u8))::(.sli (.i .u8))::(.sli (.i .u8))::an::[])
abbrev eU:Ty:=(.p aY (.p (.l (.l (.i .u8))) (.l aY)))
abbrev cE:Pt:=(.bx 196 0 true [.same,an,.same,an,an,an])
abbrev iF:Pt:=(.bx 196 0 true [(.own (.p aY (.p .s (.p aY aY))) 142 false),an,(.own .s 9 false),an,an,an])
abbrev aP:Ty:=(.i .u8)
abbrev eO:Pt:=(.bx 196 0 true [(.sli (.p aY (.p .s (.p aY aY)))),an,(.sli .s),an,an,an])
abbrev Mf:Ty:=(.p (.l .s) (.p (.l (.p aY aY)) (.p (.l aY) (.p (.l .s) (.l (.p aY (.p .ex (.l (.p aY .ex)))))))))
abbrev ag0:Ty:=(.p aP (.p aP (.p aP (.p aP (.p aP (.p aP (.p aP (.p aP (.p aP (.p aP (.p aP (.p aP (.p aP (.p aP (.p aP (.p aP (.p aP (.p aP (.p aP (.p aP (.p aP (.p aP (.p aP (.p aP (.p aP (.p aP (.p aP (.p aP (.p aP (.p aP (.p aP (.p aP (.p aP (.p aP (.p aP (.p aP (.p aP (.p aP (.p aP (.p aP (.p aP (.p aP (.p aP (.p aP (.p aP (.p aP (.p aP (.p aP (.p aP (.p aP (.p aP (.p aP (.p aP (.p aP (.p aP (.p aP (.p aP (.p aP (.p aP (.p aP (.p aP (.p aP (.p aP aP)))))))))))))))))))))))))))))))))))))))))))))))))))))))))))))))
abbrev E3:Ty:=(.p aY (.p aY (.p (.i .u64) (.p (.l aP) (.p (.l aP) (.l aP))))))
abbrev bG:Pt:=(.dat .ex [some 159])
abbrev dD:Ty:=(.p aY aY)
abbrev lS:Ty:=(.l (.l aY))
abbrev kV:Ty:=(.p (.l (.p aP aY)) aY)
abbrev sO:Ty:=(.p aY (.p .ex (.l (.p aY .ex))))
abbrev aS:Pt:=(.sli aY)
abbrev iD:Pt:=(.own (.l aY) 23 true)
abbrev jk:Pt:=(.bx 287 0 false [(.own .bo 4 false)])
abbrev Ql:Ty:=(.p (.l (.l .ex)) (.p lS (.p (.l aY) lS)))
abbrev Wo:Ty:=(.p aY (.p aY (.p aY (.p (.i .u64) dD))))
abbrev wI:Ty:=(.p aY (.p (.l kV) (.p aY (.p aY (.l aY)))))
abbrev fq:Pt:=(.own aY 3 true)
abbrev alr:Ty:=(.p aP (.p aP (.p aP (.p aP (.p aP (.p aP (.p aP (.p aP (.p aP (.p aP (.p aP (.p aP (.p aP (.p aP (.p aP (.p aP (.p aP (.p aP (.p aP (.p aP (.p aP (.p aP (.p aP aP)))))))))))))))))))))))
abbrev aaP:Pt:=(.bx 138 0 true [(.own (.p aY (.p .s dD)) 142 false),an,(.own .s 9 false),(.own dD 156 false),(.own aY 3 false),(.own .s 9 false),(.own sO 299 false)])
abbrev W2:Ty:=(.p aY (.p aY (.p aY (.p (.l aY) (.p lS lS)))))
abbrev nL:Ty:=(.p aY (.p .s dD))
abbrev gu:Pt:=(.own aP 5 true)
abbrev tZ:Ty:=(.p (.i .u64) (.i .u64))
abbrev ag8:Pt:=(.bx 81 0 true [.str,.str,an,an,an,(.int .u64),an,an,(.sli .s),(.sli dD),aS,(.sli .s),(.sli sO),an,an,an,(.sli .ex),an,an,an,aS,iD,iD])
abbrev aiz:Pt:=(.bx 81 0 true [.same,.same,.same,.same,.same,.same,.same,.same,.same,.same,.same,.same,.same,.same,.same,.same,.same,an,an,an,aS,iD,iD])
abbrev dR:Pt:=(.own .bo 4 true)
abbrev aim:Pt:=(.bx 138 0 false [(.own nL 142 false),an,(.own .s 9 false),(.own dD 156 false),(.own aY 3 false),(.own .s 9 false),(.own sO 299 false)])
abbrev Mp:Pt:=(.dat (.p (.l eU) (.p eU (.l aP))) [none,none,none,none])
abbrev xT:Pt:=(.dat Mf [none,none,none,none,none])
abbrev MC:Pt:=(.bx 176 0 false [(.sli (.l aY)),an])
abbrev dj:Pt:=(.sli aP)
abbrev fJ:Pt:=(.dat .ex [none])
abbrev K9:Pt:=(.bx 287 0 false [(.sli .bo)])
abbrev QL:Pt:=(.bx 138 0 true [.same,an,.same,.same,.same,.same,.same])
abbrev XR:Ty:=(.p aP (.p aP (.p aP (.p aP (.p aP (.p aP (.p aP aP)))))))
abbrev gI:Ty:=(.l aP)
abbrev uh:Pt:=(.dat E3 [none,none,none])
abbrev LG:Pt:=(.bx 79 0 true [an,an,an,(.own .ex 79 true)])
abbrev IP:Pt:=(.bx 79 0 true [.same,.same,.same,.same])
abbrev aa4:Pt:=(.bx 457 0 true [.same,(.own kV 352 true),.same,.same,fq,.same])
abbrev aqa:Ty:=(.p (.i .u64) (.p (.i .u64) (.p (.i .u64) (.p (.i .u64) (.p (.i .u64) (.p (.i .u64) (.p (.i .u64) (.p (.i .u64) (.p (.i .u64) (.p (.i .u64) (.p (.i .u64) (.p (.i .u64) (.p (.i .u64) (.p (.i .u64) (.p (.i .u64) (.p (.i .u64) (.p (.i .u64) (.p (.i .u64) tZ))))))))))))))))))
abbrev E7:Pt:=(.ifc 470 (.bx 468 0 true [fq]))
abbrev apm:Pt:=(.bx 113 0 true [an,(.sli dD),an,an,(.sli gI),aS,dj,(.sli eU),an,(.sli gI),aS,dj,(.sli eU),dj,an,(.sli kV),an,an,aS,an,(.sli kV),an,an,aS,an,(.sli kV),an,an,aS,an,an,(.int .u64),dj,dj,dj])
abbrev IC:Pt:=(.bx 234 0 true [(.own .ex 79 true)])
abbrev KX:Pt:=(.bx 236 0 true [(.own tZ 239 true)])
abbrev Ld:Pt:=(.dat (.p (.l eU) gI) [none,none])
abbrev yi:Ty:=(.p (.l aY) lS)
abbrev Mg:Pt:=(.dat Ql [none,none,none,none])
abbrev EI:Pt:=(.ifc 134 (.agg [an,an]))
abbrev ED:Pt:=(.bx 56 0 true [.sfp,gu])
abbrev gH:Pt:=(.sli dD)
abbrev Qv:Pt:=(.dat (.p eU gI) [none,none,none])
abbrev xX:Pt:=(.sli (.l aY))
abbrev WJ:Pt:=(.bx 122 0 true [.same,.same,.same,.same])
abbrev Xw:Pt:=(.bx 79 0 false [an,an,an,(.sli .ex)])
abbrev aqv:Ty:=(.p .s (.p .s (.p .s (.p .s (.p .s (.p .s (.p .s (.p .s (.p .s (.p .s (.p .s (.p .s (.p .s (.p .s (.p .s (.p .s (.p .s (.p .s (.p .s (.p .s (.p .s (.p .s (.p .s (.p .s .s))))))))))))))))))))))))
abbrev j9:Ty:=(.p aP aY)
abbrev aip:Pt:=(.bx 433 0 true [(.own eU 349 true),(.fn 319 [(.ptr 0 0)] [])])
abbrev ah6:Pt:=(.bx 101 0 true [(.own eU 96 true),.same,.same,.same,.same])
abbrev QZ:Pt:=(.dat (.p lS lS) [none,none])
abbrev ahu:Pt:=(.bx 76 0 false [(.sli .s),gH,aS,(.sli .s),(.sli sO)])
abbrev eB:Pt:=(.cB [])
abbrev lz:Pt:=(.dat .un [])
abbrev FG:Pt:=(.dat eU [none,none])
abbrev mC:Pt:=(.int .u64)
abbrev wo:Pt:=(.own .s 9 true)
abbrev ya:Pt:=(.cB [an,.bool])
abbrev Wt:Pt:=(.fn 379 [] [(.bx 4 0 true [.bool])])
abbrev alW:Pt:=(.bx 457 0 true [.same,(.own kV 352 true),.same,.same,fq,(.mp aY .bo true)])
abbrev MU:Pt:=(.dat (.p lS aY) [none])
abbrev B8:Pt:=(.bx 3 0 true [an])
abbrev agB:Pt:=(.bx 433 0 false [(.sli eU),(.fn 323 [(.ptr 0 0)] [])])
abbrev alJ:Pt:=(.bx 457 0 true [an,(.own kV 352 true),an,an,fq,(.mp aY .bo false)])
abbrev amJ:Pt:=(.bx 457 0 true [an,(.own kV 352 true),an,an,fq,(.mp aY .bo true)])
abbrev adA:Pt:=(.bx 270 0 true [iD,(.mp .s .bo true)])
abbrev iE:Pt:=(.int .u8)
abbrev QM:Pt:=(.ifc 164 (.agg [an,aS]))
abbrev ahK:Ty:=(.p (.i .u32) (.p (.i .u32) (.p aP (.p aP .bo))))
abbrev aiA:Pt:=(.bx 101 0 true [.same,.same,.same,.same,.same])
abbrev aik:Ty:=(.p (.l nL) (.p aY (.p (.l .s) (.p aY dD))))
abbrev ahl:Ty:=(.p .s (.p .s (.p Wo (.p Mf (.p .ex W2)))))
abbrev Eg:Pt:=(.cB [.bool,an])
abbrev MS:Pt:=(.bx 23 0 false [aS])
abbrev A5:Pt:=(.own .s 9 false)
abbrev ags:Pt:=(.bx 98 0 false [an,(.sli gI),aS,dj])
abbrev QD:Pt:=(.own sO 299 true)
abbrev Ih:Pt:=(.bx 169 0 true QL4)
abbrev sy:Ty:=(.p gI aY)
abbrev ahD:Pt:=(.bx 433 0 true [(.own eU 349 true),.same])
abbrev nO:Pt:=(.int .u32)
abbrev Iz:Pt:=(.own dD 156 true)
abbrev Ny:Ty:=(.p .s (.p .s (.p .s .s)))
abbrev agt:Pt:=(.bx 33 0 true [.same,.same,.same,.same,.same,.same])
abbrev HN:Pt:=(.bx 31 0 true [mC])
abbrev Au:Pt:=(.cB [lf,an])
abbrev SD:Pt:=(.ifc 166 (.agg [xX,xX]))
abbrev aas:Pt:=(.bx 282 0 true [(.mp tZ .bo true)])
abbrev I7:Pt:=(.own nL 142 false)
abbrev aao:Pt:=(.bx 237 0 true [(.mp tZ aY true)])
abbrev uA:Pt:=(.dat Wo [])
abbrev Nv:Pt:=(.cB [lf,.bool,an])
abbrev Nd:Pt:=(.bx 4 0 false [.bool])
abbrev UC:Ty:=(.p (.l eU) (.p eU gI))
abbrev rQ:Ty:=(.p aY .ex)
abbrev agY:Pt:=(.dat Ql [some 155,some 47,some 7,some 47])
abbrev Nu:Pt:=(.own dD 156 false)
abbrev Nf:Pt:=(.own yi 277 false)
abbrev aaB:Ty:=(.p Mf (.p Ql (.p Uc aY)))
abbrev IY:Pt:=(.own aY 3 false)
abbrev ahx:Pt:=(.bx 98 0 true [an,(.sli gI),aS,dj])
abbrev aau:Ty:=(.p aY (.p aY (.p .bo aP)))
abbrev anr:Ty:=(.p aP (.p aP (.p aP (.p aP (.p aP (.p aP (.p aP (.p aP alr))))))))
abbrev Vg:Pt:=(.dat wI [none,none])
abbrev Ng:Pt:=(.bx 169 0 true QL6)
abbrev aak:Pt:=(.dat W2 [none,none,none])
abbrev ank:Pt:=(.bx 283 0 true [(.fn 156 [] [(.ptr 0 0),(.ptr 2 0),(.ptr 4 0),(.ptr 7 0)])])
abbrev ahk:Pt:=(.bx 217 0 true [iD,(.mp .s .bo true)])
abbrev aaE:Ty:=(.p (.l nL) (.p aY Mf))
abbrev aar:Pt:=(.bx 395 0 true [gu,an])
abbrev Dt:Ty:=(.p lS lS)
abbrev NC:Pt:=(.sli (.i .u32))
abbrev aan:Pt:=(.bx 261 0 true [.same])
abbrev am6:Pt:=(.bx 138 0 true [.same,an,.same,.same,.same,.same,QD])
abbrev anb:Pt:=(.bx 196 0 false [(.sli nL),an,(.sli .s),an,an,an])
abbrev anB:Pt:=(.bx 122 0 true [(.own (.l .ex) 77 true),iD,.same,.same])
abbrev aav:Pt:=(.bx 468 0 true [fq])
abbrev Sf:Ty:=(.p (.l eU) gI)
abbrev D7:Pt:=(.ifc 3 an)
abbrev ane:Pt:=(.bx 138 0 true [.same,an,wo,Iz,fq,wo,QD])
abbrev M9:Pt:=(.fn 227 [] [])
abbrev Nz:Pt:=(.fn 221 [] [])
abbrev M8:Pt:=(.fn 219 [] [])
abbrev M6:Pt:=(.fn 184 [] [])
abbrev aaC:Pt:=(.bx 23 0 true [aS])
abbrev aaA:Pt:=(.bx 4 0 true [.bool])
abbrev ahC:Pt:=(.fn 200 [] [K9,K9,MC])
abbrev ahP:Pt:=(.fn 201 [] [K9,K9,MC])
open Tryz
theorem aiR:amG Tryz.prog 38:=λv w=>by rw [run_callFunc_extern func38 (by kernel_rfl) (by kernel_rfl) (by kernel_rfl) (e:=Extern.AbiNoEscape.same) (by kernel_rfl)];rfl
noncomputable def Yd:Cx:=⟨Tryz.prog,[(2,aY),(3,aY),(4,.bo),(5,aP),(6,aP),(7,aau),(8,aau),(9,.s),(10,.s),(11,.s),(12,(.i .u64)),(13,(.p .s (.i .u64))),(14,(.p .s (.i .u64))),(21,(.i .i32)),(22,aY),(23,(.l aY)),(24,lS),(25,Dt),(26,Dt),(27,W2),(28,W2),(31,(.i .u64)),(32,Wo),(33,Wo),(38,(.i .u32)),(39,ahK),(40,ahK),(43,(.l .s)),(49,(.p .s Ny)),(50,(.p aY (.p aY (.p aY dD)))),(54,gI),(62,Ny),(73,(.l dD)),(74,(.l sO)),(75,Mf),(76,Mf),(77,(.l .ex)),(78,(.p aY (.p aY (.p aY (.l .ex))))),(79,.ex),(80,ahl),(81,ahl),(83,(.l dD)),(84,dD),(85,dD),(94,(.l gI)),(95,eU),(96,eU),(97,(.p eU gI)),(98,(.p eU gI)),(99,(.l eU)),(100,UC),(101,UC),(102,(.l eU)),(103,Sf),(104,Sf),(105,(.l kV)),(106,wI),(107,wI),(108,(.p wI (.p wI wI))),(109,(.p gI (.p gI gI))),(110,E3),(111,E3),(112,Uc),(113,Uc),(120,(.l (.l .ex))),(121,Ql),(122,Ql),(129,(.i .u64)),(130,(.l nL)),(133,dD),(134,dD),(137,aaE),(138,aaE),(141,nL),(142,nL),(148,(.l .n)),(153,.n),(155,dD),(156,dD),(163,(.p aY (.l aY))),(164,(.p aY (.l aY))),(165,Dt),(166,Dt),(168,aaB),(169,aaB),(175,(.p lS aY)),(176,(.p lS aY)),(178,alr),(195,aik),(196,aik),(202,(.l .bo)),(205,dD),(206,.un),(207,.un),(208,.un),(209,.un),(210,.un),(211,.un),(225,(.l yi)),(229,dD),(230,dD),(233,(.l .ex)),(234,(.l .ex)),(236,(.l tZ)),(238,tZ),(239,tZ),(250,aqa),(251,(.p aP ag0)),(276,yi),(277,yi),(284,(.l lS)),(287,(.l .bo)),(297,(.l rQ)),(298,sO),(299,sO),(300,rQ),(301,rQ),(319,dD),(322,anr),(323,ag0),(325,(.p .s (.p .s (.p .s (.p .s (.p .s Ny)))))),(328,aqv),(338,.un),(339,.un),(340,.un),(341,aP),(342,aP),(344,(.i .i32)),(345,(.i .i32)),(348,eU),(349,eU),(350,(.l j9)),(351,kV),(352,kV),(373,sy),(374,sy),(381,eU),(382,eU),(383,eU),(384,eU),(392,sy),(393,sy),(394,sy),(395,sy),(435,(.l (.i .u32))),(442,XR),(443,XR),(461,j9),(462,j9),(468,(.l aY))],[],[38],(List.forall_mem_cons.2 ⟨aiR,(λ_ h=>nomatch h)⟩),az,[207,208,209,210,211],[],(λ_ h=>nomatch h),[(25,21),(66,40),(83,44)]⟩
noncomputable def X0:Cx:=⟨Tryz.prog,[(2,aY),(3,aY),(4,.bo),(5,aP),(6,aP),(7,aau),(8,aau),(9,.s),(10,.s),(11,.s),(12,(.i .u64)),(13,(.p .s (.i .u64))),(14,(.p .s (.i .u64))),(21,(.i .i32)),(22,aY),(23,(.l aY)),(24,lS),(25,Dt),(26,Dt),(27,W2),(28,W2),(31,(.i .u64)),(32,Wo),(33,Wo),(38,(.i .u32)),(39,ahK),(40,ahK),(43,(.l .s)),(49,(.p .s Ny)),(50,(.p aY (.p aY (.p aY dD)))),(54,gI),(62,Ny),(73,(.l dD)),(74,(.l sO)),(75,Mf),(76,Mf),(77,(.l .ex)),(78,(.p aY (.p aY (.p aY (.l .ex))))),(79,.ex),(80,ahl),(81,ahl),(83,(.l dD)),(84,dD),(85,dD),(94,(.l gI)),(95,eU),(96,eU),(97,(.p eU gI)),(98,(.p eU gI)),(99,(.l eU)),(100,UC),(101,UC),(102,(.l eU)),(103,Sf),(104,Sf),(105,(.l kV)),(106,wI),(107,wI),(108,(.p wI (.p wI wI))),(109,(.p gI (.p gI gI))),(110,E3),(111,E3),(112,Uc),(113,Uc),(120,(.l (.l .ex))),(121,Ql),(122,Ql),(129,(.i .u64)),(130,(.l nL)),(133,dD),(134,dD),(137,aaE),(138,aaE),(141,nL),(142,nL),(148,(.l .n)),(153,.n),(155,dD),(156,dD),(163,(.p aY (.l aY))),(164,(.p aY (.l aY))),(165,Dt),(166,Dt),(168,aaB),(169,aaB),(175,(.p lS aY)),(176,(.p lS aY)),(178,alr),(195,aik),(196,aik),(202,(.l .bo)),(205,dD),(206,.un),(207,.un),(208,.un),(209,.un),(210,.un),(211,.un),(225,(.l yi)),(229,dD),(230,dD),(233,(.l .ex)),(234,(.l .ex)),(236,(.l tZ)),(238,tZ),(239,tZ),(250,aqa),(251,(.p aP ag0)),(276,yi),(277,yi),(284,(.l lS)),(287,(.l .bo)),(297,(.l rQ)),(298,sO),(299,sO),(300,rQ),(301,rQ),(319,dD),(322,anr),(323,ag0),(325,(.p .s (.p .s (.p .s (.p .s (.p .s Ny)))))),(328,aqv),(338,.un),(339,.un),(340,.un),(341,aP),(342,aP),(344,(.i .i32)),(345,(.i .i32)),(348,eU),(349,eU),(350,(.l j9)),(351,kV),(352,kV),(373,sy),(374,sy),(381,eU),(382,eU),(383,eU),(384,eU),(392,sy),(393,sy),(394,sy),(395,sy),(435,(.l (.i .u32))),(442,XR),(443,XR),(461,j9),(462,j9),(468,(.l aY))],[(0,0,⟨.l .s,lM⟩),(1,0,⟨.l .s,ko⟩),(2,0,⟨.un,()⟩),(3,0,⟨.l (.i .u64),rM⟩),(6,0,⟨.l .s,IG⟩),(7,0,⟨.l .s,xt⟩)],[38],(List.forall_mem_cons.2 ⟨aiR,(λ_ h=>nomatch h)⟩),az,[207,208,209,210,211],[⟨270,λargs H st K=>QR Yd Tryz.f270 args H st K⟩,⟨261,λargs H st K=>QR Yd Tryz.f261 args H st K⟩,⟨379,λargs H st K=>QR Yd Tryz.f379 args H st K⟩,⟨380,λargs H st K=>QR Yd Tryz.f380 args H st K⟩],(List.forall_mem_cons.2 ⟨SE (X:=Yd) call270 func270 rfl,(List.forall_mem_cons.2 ⟨SE (X:=Yd) call261 func261 rfl,(List.forall_mem_cons.2 ⟨SE (X:=Yd) call379 func379 rfl,(List.forall_mem_cons.2 ⟨SE (X:=Yd) call380 func380 rfl,(λ_ h=>nomatch h)⟩)⟩)⟩)⟩),[(25,21),(66,40),(83,44)]⟩
abbrev Ko(e:aq):=e.Ok X0.P X0.Γ
abbrev pK(e:bI):=e.Ok X0.P X0.Γ
theorem aw{X:Cx}{tb:List aq}{fn:Func}{e:aq}(h:HT)(c:Enters X.P e.f)(b:X.P.funcs[e.f]? =some fn)(a:∀e∈tb,e.Ok X.P X.Γ)(eq:∀s,adB X tb [] [] h fn e s=e.m s:=by intro _;kernel_rfl):e.Ok X.P X.Γ:=aX h c b a al al eq
theorem acE{X:Cx}{tb:List aq}{fn:Func}{e:bI}(h:HT)(c:Enters X.P e.f)(b:X.P.funcs[e.f]? =some fn)(a:∀e∈tb,e.Ok X.P X.Γ)(eq:∀s,alc X tb [] [] h fn e s=e.m s:=by intro _;kernel_rfl):e.Ok X.P X.Γ:=oV h c b a al al eq
abbrev U2{a z r:Type}(F:a->z->r)(s:a×z):r:=F s.1 s.2
abbrev U3{a b z r:Type}(F:a->b->z->r)(s:a×b×z):r:=F s.1 s.2.1 s.2.2
abbrev U4{a b c z r:Type}(F:a->b->c->z->r)(s:a×b×c×z):r:=F s.1 s.2.1 s.2.2.1 s.2.2.2
abbrev U5{a b c d z r:Type}(F:a->b->c->d->z->r)(s:a×b×c×d×z):r:=F s.1 s.2.1 s.2.2.1 s.2.2.2.1 s.2.2.2.2
abbrev U6{a b c d e z r:Type}(F:a->b->c->d->e->z->r)(s:a×b×c×d×e×z):r:=F s.1 s.2.1 s.2.2.1 s.2.2.2.1 s.2.2.2.2.1 s.2.2.2.2.2
abbrev U7{a b c d e f z r:Type}(F:a->b->c->d->e->f->z->r)(s:a×b×c×d×e×f×z):r:=F s.1 s.2.1 s.2.2.1 s.2.2.2.1 s.2.2.2.2.1 s.2.2.2.2.2.1 s.2.2.2.2.2.2
abbrev U8{a b c d e f g z r:Type}(F:a->b->c->d->e->f->g->z->r)(s:a×b×c×d×e×f×g×z):r:=F s.1 s.2.1 s.2.2.1 s.2.2.2.1 s.2.2.2.2.1 s.2.2.2.2.2.1 s.2.2.2.2.2.2.1 s.2.2.2.2.2.2.2
abbrev U9{a b c d e f g h z r:Type}(F:a->b->c->d->e->f->g->h->z->r)(s:a×b×c×d×e×f×g×h×z):r:=F s.1 s.2.1 s.2.2.1 s.2.2.2.1 s.2.2.2.2.1 s.2.2.2.2.2.1 s.2.2.2.2.2.2.1 s.2.2.2.2.2.2.2.1 s.2.2.2.2.2.2.2.2
def bl(x:Ex):Ex:=Ex.mk x.op x.n x.at_ x.l
theorem aJ:bl=id:=funext λx=>by cases x;rfl
def apF:aq:=⟨31,[.int .i64],.str,[],λs=>Nx s⟩
theorem YZ:Ko apF:=al5 (ρ:=Tryz.LP) Tryz.ak2 call31 (G:=3) (tab:=rM) (by kernel_rfl) (show gl 3 (rM.map (Value.int .u64))∈X0.Γ by first|exact b5 ..|exact (.tail _ (b5 ..))|exact (.tail _ (.tail _ (b5 ..)))|exact (.tail _ (.tail _ (.tail _ (b5 ..))))|exact (.tail _ (.tail _ (.tail _ (.tail _ (b5 ..)))))|exact (.tail _ (.tail _ (.tail _ (.tail _ (.tail _ (b5 ..))))))) (by decide+kernel) Nx λn r h=>by obtain ⟨b,a⟩:=eo h;cases a;exact ⟨b,rfl⟩
def apH:aq:=⟨217,[.own aP 5 true,.int .u64,.int .i64],.own aP 5 true,[],U3 ag1⟩
theorem ai6:Ko apH:=amW (ρ:=Tryz.OQ) Tryz.aoY call217 (G:=3) (tab:=rM) (by kernel_rfl) (show gl 3 (rM.map (Value.int .u64))∈X0.Γ by first|exact b5 ..|exact (.tail _ (b5 ..))|exact (.tail _ (.tail _ (b5 ..)))|exact (.tail _ (.tail _ (.tail _ (b5 ..))))|exact (.tail _ (.tail _ (.tail _ (.tail _ (b5 ..)))))|exact (.tail _ (.tail _ (.tail _ (.tail _ (.tail _ (b5 ..))))))) (by decide+kernel) ag1 λl u b r h=>by obtain ⟨a,c⟩:=eo h;simp only [ae,kN,kR] at a;cases c;exact ⟨a.1.1,a.1.2.1,a.1.2.2,a.2,rfl⟩
def apV:aq:=⟨157,[.jg (.raw (.slice none 0 0)),.int .i64],.own (.l aY) 23 true,[],λs=>ahW s⟩
theorem aj8:Ko apV:=alk (ρ:=Tryz.YI) Tryz.aqA call157 (z:= .slice none 0 0) (bytes:=24) (t:= .l aY) (by unfold TI;kernel_rfl) rfl rfl (by decide) ahW λn r h=>by obtain ⟨a,b⟩:=eo h;simp only [ae,kR] at a;cases b;exact ⟨a.1,a.2,rfl⟩
def aqz:aq:=⟨26,[.str,.str],.cB [.str,.str,.bool],[],U2 aiq⟩
theorem amx:Ko aqz:=aoP (ρ:=Tryz.PR) Tryz.agb call26 (show glx 2∈X0.Γ by repeat (first|exact b5 ..|refine aW _ ?_)) aiq λs t r h=>by obtain ⟨b,a⟩:=eo h;cases a;exact ⟨qe b,rfl⟩
theorem ad6(W:World)(x:Nat):FnGives X0.P 29 #[] #[.int .i32 x] (.bool (x==32)) W:=by
 refine Calls.mono (iw (S:=λv w'=>v= .bool (x==32)/\w'=W) (Sp:=λ_ _=>False) func29 rfl Tryz.ntmps29 rfl ?_) (λe w' h=>?_)
 .refine bq<|bh<|aK (cK ar.c) rfl rfl rfl rfl<|bU<|bd<|bq<|bh<|aK (aL (ar.t rfl)) rfl rfl rfl rfl<|aK (px (ar.t rfl) ar.c) rfl rfl rfl rfl<|aK (cK (ar.t rfl)) rfl rfl rfl rfl<|bU<|bd<|uR ?_
  repeat refine ni ?_
  refine Nc rfl (jr.t rfl) ?_;exact ⟨by congr 1;rw [qE,kN,kN];omega,rfl⟩
 .cases e with
  |returned v=>obtain ⟨rfl,rfl⟩:=h;exact ⟨rfl,0,rfl⟩
  |panicked c=>exact h.elim
  |outgrown=>exact h.elim
def aqy:aq:=⟨28,[.str,.fn 29 [] []],.sli .s,[],λs=>ahc s⟩
theorem amN:Ko aqy:=ao9 (ρ:=Tryz.PL) Tryz.aoS call28 call29 ad6 ahc λs r h=>by obtain ⟨b,a⟩:=eo h;cases a;exact ⟨qe b,rfl⟩
theorem ajO{α:Type}{b:Nat}{s y r:List α}{k:Int}(h:adG b s k y=some r):y≠[]/\Rk k s.length=true/\aH (s.length+y.length) b=true/\r=mO s k y:=by
 unfold adG at h;split at h
 .cases h
 .obtain ⟨a,c⟩:=eo h;simp only [ae] at a;cases c;exact ⟨by simp,a.1,a.2,rfl⟩
def alx:aq:=⟨351,[.own j9 462 true,.int .i64,.own j9 462 true],.own j9 462 true,[],λs=>adG 16 s.1 s.2.1 s.2.2⟩
theorem aff:Ko alx:=an3 (t:=j9) (bytes:=16) call351 (λa d c b=>I351.ab4 a d c b) (adG 16) (λ_ _ _ _ h=>ajO h)
abbrev VK:=Q2->Option Q3
def ie(k:VK):aq:=⟨91,[iF,M9],bG,[(true,0,cE)],λs=>k (s.1,s.2.1,s.2.2.1,s.2.2.2.1,s.2.2.2.2.1,s.2.2.2.2.2)⟩
abbrev OK0(k:VK):Prop:=Ko (ie k)
abbrev Vi:=Q2->Option Q3
def il(k:Vi):aq:=⟨91,[iF,Nz],bG,[(true,0,cE)],λs=>k (s.1,s.2.1,s.2.2.1,s.2.2.2.1,s.2.2.2.2.1,s.2.2.2.2.2)⟩
abbrev OK1(k:Vi):Prop:=Ko (il k)
abbrev Up:=Q2->Option Q3
def im(k:Up):aq:=⟨91,[iF,M8],bG,[(true,0,cE)],λs=>k (s.1,s.2.1,s.2.2.1,s.2.2.2.1,s.2.2.2.2.1,s.2.2.2.2.2)⟩
abbrev OK2(k:Up):Prop:=Ko (im k)
abbrev Vx:=Q2->Option Q3
def ir(k:Vx):aq:=⟨91,[iF,M6],bG,[(true,0,cE)],λs=>k (s.1,s.2.1,s.2.2.1,s.2.2.2.1,s.2.2.2.2.1,s.2.2.2.2.2)⟩
abbrev OK3(k:Vx):Prop:=Ko (ir k)
abbrev cQ:=Q2->Option Q3
def iq(k:cQ):aq:=⟨91,[iF,(.fn 92 [] [])],bG,[(true,0,cE)],λs=>k (s.1,s.2.1,s.2.2.1,s.2.2.2.1,s.2.2.2.2.1,s.2.2.2.2.2)⟩
abbrev iY(k:cQ):Prop:=Ko (iq k)
abbrev TK5:=Ex->Option nV
def uZ(k:TK5):aq:=⟨59,[fJ],(.cB [an,an,an]),[],λs=>k s⟩
abbrev OK5(k:TK5):Prop:=Ko (uZ k)
abbrev Si:=Q2->Option Q3
def iN(k:Si):aq:=⟨91,[eO,M9],bG,[(true,0,cE)],λs=>k (s.1,s.2.1,s.2.2.1,s.2.2.2.1,s.2.2.2.2.1,s.2.2.2.2.2)⟩
abbrev OK6(k:Si):Prop:=Ko (iN k)
abbrev SP:=Q2->Option Q3
def iH(k:SP):aq:=⟨91,[eO,Nz],bG,[(true,0,cE)],λs=>k (s.1,s.2.1,s.2.2.1,s.2.2.2.1,s.2.2.2.2.1,s.2.2.2.2.2)⟩
abbrev OK7(k:SP):Prop:=Ko (iH k)
abbrev UE:=Q2->Option Q3
def iG(k:UE):aq:=⟨91,[eO,M8],bG,[(true,0,cE)],λs=>k (s.1,s.2.1,s.2.2.1,s.2.2.2.1,s.2.2.2.2.1,s.2.2.2.2.2)⟩
abbrev OK8(k:UE):Prop:=Ko (iG k)
abbrev Uw:=Q2->Option Q3
def iL(k:Uw):aq:=⟨91,[eO,M6],bG,[(true,0,cE)],λs=>k (s.1,s.2.1,s.2.2.1,s.2.2.2.1,s.2.2.2.2.1,s.2.2.2.2.2)⟩
abbrev OK9(k:Uw):Prop:=Ko (iL k)
abbrev bQ:=Q2->Option Q3
def ku(k:bQ):aq:=⟨91,[eO,(.fn 92 [] [])],bG,[(true,0,cE)],λs=>k (s.1,s.2.1,s.2.2.1,s.2.2.2.1,s.2.2.2.2.1,s.2.2.2.2.2)⟩
abbrev fm(k:bQ):Prop:=Ko (ku k)
abbrev ID:=O0->Option ji
def xf(k:ID):aq:=⟨139,[fJ,.bool,B8],fJ,[(true,2,B8)],λs=>k (s.1,s.2.1,s.2.2)⟩
abbrev amQ(k:ID):Prop:=Ko (xf k)
abbrev adR:=Int->x3
def vf(k:adR):aq:=⟨314,[an],an,[],λs=>k s⟩
abbrev ark(k:adR):Prop:=Ko (vf k)
abbrev aaN:=Q55->Option (Except Int Int)
def ln(k:aaN):bI:=⟨326,[agB,an,NC],D7,none,false,false,nO,[],λs=>k (s.2.1,s.2.2,s.1)⟩
abbrev aq9(k:aaN):Prop:=pK (ln k)
abbrev ab6:=Q55->Option Q66
def jm(k:ab6):aq:=⟨326,[aip,an,NC],nO,[(true,0,ahD)],λs=>k (s.2.1,s.2.2,s.1)⟩
abbrev art(k:ab6):Prop:=Ko (jm k)
abbrev acX:=Q48->Option Jv
def nX(k:acX):aq:=⟨343,[amJ,an,dj],an,[(true,0,alW)],λs=>k (s.2.2.2.2.2.2.1,s.2.2.2.2.2.2.2,s.1,s.2.1,s.2.2.1,s.2.2.2.1,s.2.2.2.2.1,s.2.2.2.2.2.1)⟩
abbrev ara(k:acX):Prop:=Ko (nX k)
abbrev aaR:=Q51->Option (Q4×Q1)
def lv(k:aaR):aq:=⟨344,[alJ,an],eB,[(true,0,aa4)],λs=>k (s.2.2.2.2.2.2,s.1,s.2.1,s.2.2.1,s.2.2.2.1,s.2.2.2.2.1,s.2.2.2.2.2.1)⟩
abbrev arc(k:aaR):Prop:=Ko (lv k)
abbrev acF:=(Ex×Q1)->x3
def um(k:acF):aq:=⟨162,[fJ,aS],an,[],λs=>k (s.1,s.2)⟩
abbrev ars(k:acF):Prop:=Ko (um k)
abbrev Qe:=(Ex×Ex)->xb
def uI(k:Qe):aq:=⟨155,[fJ,fJ],.bool,[],λs=>k (s.1,s.2)⟩
abbrev aqj(k:Qe):Prop:=Ko (uI k)
abbrev abe:=Q43->Option Jx
def gO(k:abe):aq:=⟨156,[mC,(.dat tZ []),aas,KX,(.bx 232 0 true [IC]),ank],eB,[(true,2,aas),(true,3,KX),(true,4,(.bx 232 0 true [.same])),(true,1005,IC),(true,5,(.bx 283 0 true [.same]))],λs=>k (s.1,s.2.1,s.2.2.1,s.2.2.2.1,s.2.2.2.2)⟩
abbrev arw(k:abe):Prop:=Ko (gO k)
abbrev adb:=(Ex×gY)->Option aU
def Aj(k:adb):aq:=⟨121,[fJ,MU],dR,[],λs=>k (s.1,s.2)⟩
abbrev arx(k:adb):Prop:=Ko (Aj k)
abbrev aaU:=Int->Option aB
def gN(k:aaU):aq:=⟨25,[mC],.str,[],λs=>k s⟩
abbrev arj(k:aaU):Prop:=Ko (gN k)
def aa8:aq:=⟨17,[.str],(.sli .s),[],λs=>Ae s⟩
theorem Ue:Ko aa8:=
 aw .o call17 func17 (aj amN al)
def vZ:aq:=⟨18,[(.sli .s),.str],an,[],U2 cT⟩
theorem fX:Ko vZ:=
 aw (.l ⟨[(false,8,an)],[]⟩ .o) call18 func18 al
def Zb:aq:=⟨19,[.str],ya,[],λs=>w6 s⟩
theorem RC:Ko Zb:=
 aw (.c .o (.l ⟨[(false,4,an),(false,16,an)],[]⟩ .o)) call19 func19 al
def VS:aq:=⟨9,[.str],(.cB [uA,.bool]),[],λs=>fw s⟩
theorem rf:Ko VS:=
 aw (.c .o (.r [] (.s (.j ⟨[(false,6,an)],[]⟩ .o (.c .o (.l ⟨[(true,2,agt),(true,7,(.bx 50 0 true [an,an,an,an,an])),(false,37,an)],[]⟩ .o)))))) call9 func9 (aj Ue (aj fX (aj RC al)))
def aiy:aq:=⟨22,[.str,aS],.str,[],U2 kL⟩
theorem Jo:Ko aiy:=
 aw (.l ⟨[(false,0,.str),(false,9,an)],[]⟩ .o) call22 func22 (aj YZ al)
def ae6:aq:=⟨82,[iE],.bool,[],λs=>Yq s⟩
theorem VQ:Ko ae6:=
 aw .o call82 func82 al
def SC:aq:=⟨84,[iE],.bool,[],λs=>Jn s⟩
theorem Lw:Ko SC:=
 aw .o call84 func84 al
def ajz:aq:=⟨83,[.str,(.fn 84 [] [])],.str,[],λs=>af0 s⟩
theorem ack:Ko ajz:=
 aw (.l ⟨[(false,8,an)],[]⟩ .o) call83 func83 (aj Lw al)
def ab5:aq:=⟨127,[iE],.bool,[],λs=>Hh s⟩
theorem DY:Ko ab5:=
 aw .o call127 func127 al
def aeZ:aq:=⟨129,[iE],.bool,[],λs=>DX s⟩
theorem wu:Ko aeZ:=
 aw .o call129 func129 al
def acY:aq:=⟨128,[iE],.bool,[],λs=>Sz s⟩
theorem UO:Ko acY:=
 aw .o call128 func128 (aj DY (aj wu al))
def aaM:aq:=⟨83,[.str,(.fn 128 [] [])],.str,[],λs=>VH s⟩
theorem Sq:Ko aaM:=
 aw (.l ⟨[(false,8,an)],[]⟩ .o) call83 func83 (aj UO al)
def adp:aq:=⟨83,[.str,(.fn 129 [] [])],.str,[],λs=>Vm s⟩
theorem Vw:Ko adp:=
 aw (.l ⟨[(false,8,an)],[]⟩ .o) call83 func83 (aj wu al)
def aeA:aq:=⟨130,[.str],ya,[],λs=>Ye s⟩
def v8(a:(Int×aB×Nat)->Option jz):Int×aB×Nat->Option jz:=λ⟨c,s,b⟩=> bif decide (b<List.length s) then ( bif decide (1073741824<(i64.wrap ((i64.wrap (10*c))+(i64.wrap (i32.wrap ((B2 s b)-48)))))) then some (0,false) else a ((i64.wrap ((i64.wrap (10*c))+(i64.wrap (i32.wrap ((B2 s b)-48))))),s,(nk s b))) else ( some (c,true))
theorem OW(s:aB):∀(N:Nat) (n:Int) (p:Nat),ax v8 N (n,s,p)=ax (B4 s) N (n,p)
 |0,_,_=>rfl
 |N+1,n,p=>by rw [YO,YO];simp only [v8,B4,OW s N]
theorem VV:Ko aeA:=
 aX (.l ⟨[(false,4,an),(true,8,.it)],[]⟩ .o) call130 func130 al al al λs=>(show _=ax v8 az (0,s,0) from by kernel_rfl).trans (OW s az 0 0)
def aeL:aq:=⟨176,[],wo,[],λ_=>YL⟩
theorem XL:Ko aeL:=
 aw .o call176 func176 al
def rU:aq:=⟨202,[.str,.str],.bool,[],U2 ki⟩
theorem pj:Ko rU:=
 aw .o call202 func202 al
def Ka:aq:=⟨177,[.str,.str],.bool,[],U2 yV⟩
theorem Ez:Ko Ka:=
 aw .o call177 func177 (aj pj al)
def ah1:aq:=⟨131,[.str],.str,[],λs=>ach s⟩
theorem Zx:Ko ah1:=
 aw (.l ⟨[(false,7,an)],[]⟩ .o) call131 func131 (aj XL (aj Ez al))
def adZ:aq:=⟨85,[.str],(.cB [(.dat nL []),an]),[],λs=>XZ s⟩
theorem Wc:Ko adZ:=
 aw .o call85 func85 (aj DY (aj Sq (aj wu (aj Vw (aj VV (aj Zx al))))))
def abx:aq:=⟨55,[.str],(.cB [(.own nL 142 true),an,an]),[],λs=>Ar s⟩
theorem DC:Ko abx:=
 aw (.n 0 (.j ⟨[(false,5,(.own nL 142 true)),(false,6,an)],[]⟩ .o .o)) call55 func55 (aj VQ (aj ack (aj Wc al)))
def Ov:aq:=⟨88,[aim],(.dat nL []),[],U7 dH⟩
theorem dQ:Ko Ov:=
 aw (.r [2] .o) call88 func88 al
def UK:aq:=⟨89,[aim,an,.str],.bool,[],λs=>gG s.2.2.2.2.2.2.2.1 s.2.2.2.2.2.2.2.2 s.1 s.2.1 s.2.2.1 s.2.2.2.1 s.2.2.2.2.1 s.2.2.2.2.2.1 s.2.2.2.2.2.2.1⟩
theorem iy:Ko UK:=
 aw .o call89 func89 (aj dQ al)
def N5:bI:=⟨90,[aim,an],EI,none,true,false,eB,[],λs=>cH s.2.2.2.2.2.2.2 s.1 s.2.1 s.2.2.1 s.2.2.2.1 s.2.2.2.2.1 s.2.2.2.2.2.1 s.2.2.2.2.2.2.1⟩
theorem fa:pK N5:=
 acE .o call90 func90 (aj dQ al)
def tE:aq:=⟨203,[(.sli .s),.str],.bool,[],U2 ld⟩
theorem rk:Ko tE:=
 aw .o call203 func203 (aj fX al)
def aiE:aq:=⟨178,[.str],.bool,[],λs=>oK s⟩
theorem mW:Ko aiE:=
 aw .o call178 func178 (aj rk al)
def tF:aq:=⟨18,[A5,.str],an,[],U2 cW⟩
theorem fi:Ko tF:=
 aw (.l ⟨[(false,8,an)],[]⟩ .o) call18 func18 al
def pV:aq:=⟨203,[A5,.str],.bool,[],U2 fK⟩
theorem oa:Ko pV:=
 aw .o call203 func203 (aj fi al)
def Ll:aq:=⟨179,[aim,.str],.bool,[],λs=>BN s.2.2.2.2.2.2.2 s.1 s.2.1 s.2.2.1 s.2.2.2.1 s.2.2.2.2.1 s.2.2.2.2.2.1 s.2.2.2.2.2.2.1⟩
theorem G5:Ko Ll:=
 aw .o call179 func179 (aj oa al)
def Oh:bI:=⟨132,[aaP,.bool],EI,none,false,false,.str,[(true,0,QL)],λs=>uH s.2.2.2.2.2.2.2 s.1 s.2.1 s.2.2.1 s.2.2.2.1 s.2.2.2.2.1 s.2.2.2.2.2.1 s.2.2.2.2.2.2.1⟩
theorem uS:pK Oh:=
 oV (.s (.s (.j ⟨[],[]⟩ .o .o))) call132 func132 (aj dQ (aj mW (aj G5 al))) (aj fa al) al λ_=>by kernel_rfl
def Kg:bI:=⟨133,[aaP],EI,none,false,false,an,[(true,0,QL)],U7 lr⟩
theorem Ey:pK Kg:=
 oV (.s (.s (.j ⟨[(true,0,QL)],[]⟩ .o (.s (.j ⟨[],[]⟩ .o .o))))) call133 func133 (aj iy (aj dQ al)) (aj fa al) al λ_=>by kernel_rfl
def N8:bI:=⟨134,[aaP,.str],EI,none,false,false,eB,[(true,0,QL)],λs=>ez s.2.2.2.2.2.2.2 s.1 s.2.1 s.2.2.1 s.2.2.2.1 s.2.2.2.2.1 s.2.2.2.2.2.1 s.2.2.2.2.2.2.1⟩
theorem jj:pK N8:=
 oV (.j ⟨[],[]⟩ .o .o) call134 func134 (aj iy al) (aj fa al) al λ_=>by kernel_rfl
def Oz:aq:=⟨96,[(.dat dD [])],.bool,[],λs=>va s⟩
theorem tQ:Ko Oz:=
 aw .o call96 func96 al
def Gb:aq:=⟨95,[Nu,(.fn 96 [] [])],dR,[],λs=>vF s⟩
theorem B5:Ko Gb:=
 aw (.l ⟨[(true,5,dR),(false,13,an)],[]⟩ .o) call95 func95 (aj tQ al)
def Bf:aq:=⟨140,[(.sli .bo),.bool],an,[],U2 rI⟩
theorem xp:Ko Bf:=
 aw (.l ⟨[(false,8,an)],[]⟩ .o) call140 func140 al
def xz:aq:=⟨94,[(.sli .bo),.bool],.bool,[],U2 fU⟩
theorem gf:Ko xz:=
 aw .o call94 func94 (aj xp al)
def N9:aq:=⟨61,[Nu],.bool,[],λs=>DV s⟩
theorem IM:Ko N9:=
 aw .o call61 func61 (aj B5 (aj gf al))
def N0:aq:=⟨141,[(.dat dD []),an],.bool,[],U2 nR⟩
theorem lZ:Ko N0:=
 aw .o call141 func141 al
def WV:aq:=⟨97,[Nu,aS],an,[],U2 Lo⟩
theorem NX:Ko WV:=
 aw (.c .o (.l ⟨[(false,14,an)],[]⟩ .o)) call97 func97 (aj lZ al)
def Gs:bI:=⟨86,[(.bx 138 0 true [I7,an,wo,Iz,fq,A5,(.own sO 299 false)])],EI,none,false,false,eB,[(true,0,(.bx 138 0 true [.same,an,wo,Iz,fq,.same,.same]))],U7 vR⟩
theorem AP:pK Gs:=
 oV (.s (.s (.s (.s (.s (.j ⟨[],[]⟩ .o (.r [0] .o))))))) call86 func86 (aj dQ (aj IM (aj NX al))) (aj uS (aj Ey (aj jj al))) al λ_=>by kernel_rfl
def JQ:aq:=⟨136,[iF,an],bG,[(true,0,(.bx 196 0 true [.same,.same,.same,.same,an,an]))],λs=>bH s.2.2.2.2.2.2 s.1 s.2.1 s.2.2.1 s.2.2.2.1 s.2.2.2.2.1 s.2.2.2.2.2.1⟩
theorem dX:Ko JQ:=
 aw (.c (.r [0] .o) .o) call136 func136 al
def J0:aq:=⟨183,[(.bx 196 0 false [I7,an,A5,an,an,an])],(.dat nL []),[],U6 aQ⟩
theorem bO:Ko J0:=
 aw (.r [2] .o) call183 func183 al
def NP:aq:=⟨182,[(.bx 196 0 false [I7,an,A5,an,an,an]),aS],ya,[],λs=>bp s.2.2.2.2.2.2 s.1 s.2.1 s.2.2.1 s.2.2.2.1 s.2.2.2.2.1 s.2.2.2.2.2.1⟩
theorem cm:Ko NP:=
 aw (.c .o (.l ⟨[(false,27,an)],[]⟩ .o)) call182 func182 (aj bO (aj mW al))
def Ms(a:cQ):aq:=⟨228,[iF],bG,[(true,0,cE)],λs=>sw a s.1 s.2.1 s.2.2.1 s.2.2.2.1 s.2.2.2.2.1 s.2.2.2.2.2⟩
def oz(h:Ex->Ex)(C:Sh->(R:Type)->Option R->Option R)(B:Q2->Option Q3)(l:Q6)(at_:Int)(c:aE)(d:Int)(f:Int)(b:Int):Option Q3:= bif f != 0 then some ((Ex.mk 0 0 0 []),at_,d,f,b) else (aQ l at_ c d f b).bind λe=> (bp ([13,14]:y5) l at_ c d f b).bind λn=> bif n.2 then ( some ((Ex.mk n.1 0 e.2.2.2 []),(i64.wrap (at_+1)),d,f,b)) else ( bif e.1==2 then some ((Ex.mk 1 e.2.2.1 e.2.2.2 []),(i64.wrap (at_+1)),d,f,b) else ai (e.1==1) λp=> bw p default (oK e.2.1) λs=> ai (!s) λA=> ai (p&&A) λz=> bif z then ( (cW c e.2.1).bind λm=> bif decide (m<0) then (bH 3 l at_ c d f b).bind λj=> some ((h j.1),at_,d,j.2.1,j.2.2) else some ((Ex.mk 2 m e.2.2.2 []),(i64.wrap (at_+1)),d,f,b)) else ( ai (e.1==3) λy=> ai (e.2.1==[40]) λx=> ai (y&&x) λw=> bif w then ( (B (l,(i64.wrap (at_+1)),c,d,f,b)).bind λa=> ai (a.2.2.2.1==0) λk=> bw k default (aQ l a.2.1 c a.2.2.1 a.2.2.2.1 a.2.2.2.2) λr=> ai (r.1 != 3) λo=> bw (k&& !o) default (aQ l a.2.1 c a.2.2.1 a.2.2.2.1 a.2.2.2.2) λq=> ai (q.2.1 != [41]) λv=> ai (o||v) λu=> ai (k&&u) λt=> bif t then ( (bH 2 l a.2.1 c a.2.2.1 a.2.2.2.1 a.2.2.2.2).bind λi=> some ((h i.1),a.2.1,a.2.2.1,i.2.1,i.2.2)) else ( bif a.2.2.2.1==0 then some ((h a.1),(i64.wrap (a.2.1+1)),a.2.2.1,a.2.2.2.1,a.2.2.2.2) else some ((h a.1),a.2.1,a.2.2.1,a.2.2.2.1,a.2.2.2.2))) else ( (bH 2 l at_ c d f b).bind λg=> some ((h g.1),at_,d,g.2.1,g.2.2))))
theorem GH(a:cQ)(d:iY a):Ko (Ms a):=
 aX (.c .o (.c .o (.c .o (.c (.r [0] .o) .o)))) call228 func228 (aj bO (aj cm (aj mW (aj fi (aj dX (aj d al)))))) al al λs=>(show _=oz bl aM a s.1 s.2.1 s.2.2.1 s.2.2.2.1 s.2.2.2.2.1 s.2.2.2.2.2 from by kernel_rfl).trans ((congrArg (λb=>oz b aM a s.1 s.2.1 s.2.2.1 s.2.2.2.1 s.2.2.2.2.1 s.2.2.2.2.2) aJ).trans ((congrArg (λe=>oz id e a s.1 s.2.1 s.2.2.1 s.2.2.2.1 s.2.2.2.2.1 s.2.2.2.2.2) aN).trans (by kernel_rfl)))
def Gw(a:cQ)(b:VK):aq:=⟨222,[iF,M9,(.fn 228 [] []),aS],bG,[(true,0,cE)],λs=>nP a b s.2.2.2.2.2.2 s.1 s.2.1 s.2.2.1 s.2.2.2.1 s.2.2.2.2.1 s.2.2.2.2.2.1⟩
def lK(h:Ex->Ex)(m:Sh->(R:Type)->Option R->Option R)(k:Q2->Option Q3)(j:Q2->Option Q3)(ops:Q1)(l:Q6)(at_:Int)(b:aE)(c:Int)(f:Int)(a:Int):Option Q3:= (bp ops l at_ b c f a).bind λg=> bif !g.2 then (sw k l at_ b c f a).bind λe=> some ((h e.1),e.2.1,e.2.2.1,e.2.2.2.1,e.2.2.2.2) else (aQ l at_ b c f a).bind λi=> (j (l,(i64.wrap (at_+1)),b,c,f,a)).bind λd=> some ((Ex.mk g.1 0 i.2.2.2 ([(h d.1)]:List Ex)),d.2.1,d.2.2.1,d.2.2.2.1,d.2.2.2.2)
theorem BH(a:cQ)(e:iY a)(b:VK)(f:OK0 b):Ko (Gw a b):=
 aX (.c .o (.r [0,8] .o)) call222 func222 (aj cm (aj (GH a e) (aj bO (aj f al)))) al al λs=>(show _=lK bl aM a b s.2.2.2.2.2.2 s.1 s.2.1 s.2.2.1 s.2.2.2.1 s.2.2.2.2.1 s.2.2.2.2.2.1 from by kernel_rfl).trans ((congrArg (λd=>lK d aM a b s.2.2.2.2.2.2 s.1 s.2.1 s.2.2.1 s.2.2.2.1 s.2.2.2.2.1 s.2.2.2.2.2.1) aJ).trans ((congrArg (λg=>lK id g a b s.2.2.2.2.2.2 s.1 s.2.1 s.2.2.1 s.2.2.2.1 s.2.2.2.2.1 s.2.2.2.2.2.1) aN).trans (by kernel_rfl)))
def KC(a:cQ)(b:VK):aq:=⟨227,[iF],bG,[(true,0,cE)],λs=>sD a b s.1 s.2.1 s.2.2.1 s.2.2.2.1 s.2.2.2.2.1 s.2.2.2.2.2⟩
def oX(e:Ex->Ex)(i:Sh->(R:Type)->Option R->Option R)(h:Q2->Option Q3)(g:Q2->Option Q3)(l:Q6)(at_:Int)(c:aE)(d:Int)(f:Int)(b:Int):Option Q3:= (nP h g ([6]:y5) l at_ c d f b).bind λa=> some ((e a.1),a.2.1,a.2.2.1,a.2.2.2.1,a.2.2.2.2)
theorem GD(a:cQ)(d:iY a)(b:VK)(e:OK0 b):Ko (KC a b):=
 aX .o call227 func227 (aj (BH a d b e) al) al al λs=>(show _=oX bl aM a b s.1 s.2.1 s.2.2.1 s.2.2.2.1 s.2.2.2.2.1 s.2.2.2.2.2 from by kernel_rfl).trans ((congrArg (λc=>oX c aM a b s.1 s.2.1 s.2.2.1 s.2.2.2.1 s.2.2.2.2.1 s.2.2.2.2.2) aJ).trans ((congrArg (λf=>oX id f a b s.1 s.2.1 s.2.2.1 s.2.2.2.1 s.2.2.2.2.1 s.2.2.2.2.2) aN).trans (by kernel_rfl)))
def tf(a:cQ):aq:=⟨91,[iF,M9],bG,[(true,0,cE)],λs=>nH a s.1 s.2.1 s.2.2.1 s.2.2.2.1 s.2.2.2.2.1 s.2.2.2.2.2⟩
def jX(f:Ex->Ex)(j:Sh->(R:Type)->Option R->Option R)(i:Q2->Option Q3)(h:Q2->Option Q3)(l:Q6)(at_:Int)(d:aE)(a:Int)(g:Int)(c:Int):Option Q3:= bif decide (320<=a) then (bH 9 l at_ d a g c).bind λe=> some ((f e.1),at_,a,e.2.1,e.2.2) else (sD i h l at_ d (i64.wrap (a+1)) g c).bind λb=> some ((f b.1),b.2.1,(i64.wrap (b.2.2.1-1)),b.2.2.2.1,b.2.2.2.2)
def tv(a:cQ):VK->VK:=λb s=>sX a b s.1 s.2.1 s.2.2.1 s.2.2.2.1 s.2.2.2.2.1 s.2.2.2.2.2
theorem yu(a:cQ)(d:iY a)(b:VK)(e:OK0 b):(ie (tv a b)).Ok X0.P X0.Γ:=
 aX .o call91 func91 (aj dX (aj (GD a d b e) al)) al al λs=>(show _=jX bl aM a b s.1 s.2.1 s.2.2.1 s.2.2.2.1 s.2.2.2.2.1 s.2.2.2.2.2 from by kernel_rfl).trans ((congrArg (λc=>jX c aM a b s.1 s.2.1 s.2.2.1 s.2.2.2.1 s.2.2.2.2.1 s.2.2.2.2.2) aJ).trans ((congrArg (λf=>jX id f a b s.1 s.2.1 s.2.2.1 s.2.2.2.1 s.2.2.2.2.1 s.2.2.2.2.2) aN).trans (by kernel_rfl)))
theorem BG(a:cQ)(b:iY a):Ko (tf a):=(show tf a=ie (ax (tv a) az) by kernel_rfl)▸dO (X:=X0) (E:=ie) ⟨call91,λ_ _ h=>nomatch h⟩ (yu a b) az
def Fm(a:cQ):aq:=⟨226,[iF],bG,[(true,0,cE)],λs=>ga a s.1 s.2.1 s.2.2.1 s.2.2.2.1 s.2.2.2.2.1 s.2.2.2.2.2⟩
def kJ(e:Ex->Ex)(h:Sh->(R:Type)->Option R->Option R)(g:Q2->Option Q3)(l:Q6)(at_:Int)(c:aE)(d:Int)(f:Int)(b:Int):Option Q3:= (nH g l at_ c d f b).bind λa=> some ((e a.1),a.2.1,a.2.2.1,a.2.2.2.1,a.2.2.2.2)
theorem AH(a:cQ)(c:iY a):Ko (Fm a):=
 aX .o call226 func226 (aj (BG a c) al) al al λs=>(show _=kJ bl aM a s.1 s.2.1 s.2.2.1 s.2.2.2.1 s.2.2.2.2.1 s.2.2.2.2.2 from by kernel_rfl).trans ((congrArg (λb=>kJ b aM a s.1 s.2.1 s.2.2.1 s.2.2.2.1 s.2.2.2.2.1 s.2.2.2.2.2) aJ).trans ((congrArg (λd=>kJ id d a s.1 s.2.1 s.2.2.1 s.2.2.2.1 s.2.2.2.2.1 s.2.2.2.2.2) aN).trans (by kernel_rfl)))
def Iq(a:cQ):aq:=⟨214,[iF,(.fn 226 [] []),aS],bG,[(true,0,cE)],λs=>oC a s.2.2.2.2.2.2 s.1 s.2.1 s.2.2.1 s.2.2.2.1 s.2.2.2.2.1 s.2.2.2.2.2.1⟩
def CF(o:Ex->Ex)(q:Sh->(R:Type)->Option R->Option R)(p:Q2->Option Q3)(ops:Q1)(l:Q6)(a:aE)(g:yX->Option Q3):Int×Int×Int×Int×Int×Int×Int×(List Ex)->Option Q3:=λ⟨f,e,b,d,k,j,i,h⟩=> bif b==0 then (bp ops l f a e b d).bind λm=> bif !m.2 then some ((Ex.mk k j i h),f,e,b,d) else (aQ l f a e b d).bind λn=> (ga p l (i64.wrap (f+1)) a e b d).bind λc=> g (c.2.1,c.2.2.1,c.2.2.2.1,c.2.2.2.2,m.1,0,n.2.2.2,([(Ex.mk k j i h),(o c.1)]:List Ex)) else some ((Ex.mk k j i h),f,e,b,d)
def mw(e:Ex->Ex)(h:Sh->(R:Type)->Option R->Option R)(g:Q2->Option Q3)(ops:Q1)(l:Q6)(at_:Int)(b:aE)(d:Int)(f:Int)(c:Int):Option Q3:= (ga g l at_ b d f c).bind λa=> ax (CF e h g ops l b) az (a.2.1,a.2.2.1,a.2.2.2.1,a.2.2.2.2,a.1.op,a.1.n,a.1.at_,a.1.l)
theorem CT(a:cQ)(c:iY a):Ko (Iq a):=
 aX (.l ⟨[(true,0,cE),(true,6,IP),(true,7,LG)],[]⟩ .o) call214 func214 (aj (AH a c) (aj cm (aj bO al))) al al λs=>(show _=mw bl aM a s.2.2.2.2.2.2 s.1 s.2.1 s.2.2.1 s.2.2.2.1 s.2.2.2.2.1 s.2.2.2.2.2.1 from by kernel_rfl).trans ((congrArg (λb=>mw b aM a s.2.2.2.2.2.2 s.1 s.2.1 s.2.2.1 s.2.2.2.1 s.2.2.2.2.1 s.2.2.2.2.2.1) aJ).trans ((congrArg (λd=>mw id d a s.2.2.2.2.2.2 s.1 s.2.1 s.2.2.1 s.2.2.2.1 s.2.2.2.2.1 s.2.2.2.2.2.1) aN).trans (by kernel_rfl)))
def J7(a:cQ):aq:=⟨225,[iF],bG,[(true,0,cE)],λs=>je a s.1 s.2.1 s.2.2.1 s.2.2.2.1 s.2.2.2.2.1 s.2.2.2.2.2⟩
def nJ(e:Ex->Ex)(h:Sh->(R:Type)->Option R->Option R)(g:Q2->Option Q3)(l:Q6)(at_:Int)(c:aE)(d:Int)(f:Int)(b:Int):Option Q3:= (oC g ([5]:y5) l at_ c d f b).bind λa=> some ((e a.1),a.2.1,a.2.2.1,a.2.2.2.1,a.2.2.2.2)
theorem EM(a:cQ)(c:iY a):Ko (J7 a):=
 aX .o call225 func225 (aj (CT a c) al) al al λs=>(show _=nJ bl aM a s.1 s.2.1 s.2.2.1 s.2.2.2.1 s.2.2.2.2.1 s.2.2.2.2.2 from by kernel_rfl).trans ((congrArg (λb=>nJ b aM a s.1 s.2.1 s.2.2.1 s.2.2.2.1 s.2.2.2.2.1 s.2.2.2.2.2) aJ).trans ((congrArg (λd=>nJ id d a s.1 s.2.1 s.2.2.1 s.2.2.2.1 s.2.2.2.2.1 s.2.2.2.2.2) aN).trans (by kernel_rfl)))
def Hx(a:cQ):aq:=⟨214,[iF,(.fn 225 [] []),aS],bG,[(true,0,cE)],λs=>oM a s.2.2.2.2.2.2 s.1 s.2.1 s.2.2.1 s.2.2.2.1 s.2.2.2.2.1 s.2.2.2.2.2.1⟩
def CE(o:Ex->Ex)(q:Sh->(R:Type)->Option R->Option R)(p:Q2->Option Q3)(ops:Q1)(l:Q6)(a:aE)(g:yX->Option Q3):Int×Int×Int×Int×Int×Int×Int×(List Ex)->Option Q3:=λ⟨f,e,b,d,k,j,i,h⟩=> bif b==0 then (bp ops l f a e b d).bind λm=> bif !m.2 then some ((Ex.mk k j i h),f,e,b,d) else (aQ l f a e b d).bind λn=> (je p l (i64.wrap (f+1)) a e b d).bind λc=> g (c.2.1,c.2.2.1,c.2.2.2.1,c.2.2.2.2,m.1,0,n.2.2.2,([(Ex.mk k j i h),(o c.1)]:List Ex)) else some ((Ex.mk k j i h),f,e,b,d)
def mm(e:Ex->Ex)(h:Sh->(R:Type)->Option R->Option R)(g:Q2->Option Q3)(ops:Q1)(l:Q6)(at_:Int)(b:aE)(d:Int)(f:Int)(c:Int):Option Q3:= (je g l at_ b d f c).bind λa=> ax (CE e h g ops l b) az (a.2.1,a.2.2.1,a.2.2.2.1,a.2.2.2.2,a.1.op,a.1.n,a.1.at_,a.1.l)
theorem C4(a:cQ)(c:iY a):Ko (Hx a):=
 aX (.l ⟨[(true,0,cE),(true,6,IP),(true,7,LG)],[]⟩ .o) call214 func214 (aj (EM a c) (aj cm (aj bO al))) al al λs=>(show _=mm bl aM a s.2.2.2.2.2.2 s.1 s.2.1 s.2.2.1 s.2.2.2.1 s.2.2.2.2.1 s.2.2.2.2.2.1 from by kernel_rfl).trans ((congrArg (λb=>mm b aM a s.2.2.2.2.2.2 s.1 s.2.1 s.2.2.1 s.2.2.2.1 s.2.2.2.2.1 s.2.2.2.2.2.1) aJ).trans ((congrArg (λd=>mm id d a s.2.2.2.2.2.2 s.1 s.2.1 s.2.2.1 s.2.2.2.1 s.2.2.2.2.1 s.2.2.2.2.2.1) aN).trans (by kernel_rfl)))
def KI(a:cQ):aq:=⟨224,[iF],bG,[(true,0,cE)],λs=>jM a s.1 s.2.1 s.2.2.1 s.2.2.2.1 s.2.2.2.2.1 s.2.2.2.2.2⟩
def pd(e:Ex->Ex)(h:Sh->(R:Type)->Option R->Option R)(g:Q2->Option Q3)(l:Q6)(at_:Int)(c:aE)(d:Int)(f:Int)(b:Int):Option Q3:= (oM g ([3,4]:y5) l at_ c d f b).bind λa=> some ((e a.1),a.2.1,a.2.2.1,a.2.2.2.1,a.2.2.2.2)
theorem GP(a:cQ)(c:iY a):Ko (KI a):=
 aX .o call224 func224 (aj (C4 a c) al) al al λs=>(show _=pd bl aM a s.1 s.2.1 s.2.2.1 s.2.2.2.1 s.2.2.2.2.1 s.2.2.2.2.2 from by kernel_rfl).trans ((congrArg (λb=>pd b aM a s.1 s.2.1 s.2.2.1 s.2.2.2.1 s.2.2.2.2.1 s.2.2.2.2.2) aJ).trans ((congrArg (λd=>pd id d a s.1 s.2.1 s.2.2.1 s.2.2.2.1 s.2.2.2.2.1 s.2.2.2.2.2) aN).trans (by kernel_rfl)))
def KG(a:cQ):aq:=⟨223,[iF],bG,[(true,0,cE)],λs=>sK a s.1 s.2.1 s.2.2.1 s.2.2.2.1 s.2.2.2.2.1 s.2.2.2.2.2⟩
def oq(e:Ex->Ex)(o:Sh->(R:Type)->Option R->Option R)(n:Q2->Option Q3)(l:Q6)(at_:Int)(b:aE)(g:Int)(i:Int)(d:Int):Option Q3:= (jM n l at_ b g i d).bind λa=> (bp ([7,8,9,10,11,12]:y5) l a.2.1 b a.2.2.1 a.2.2.2.1 a.2.2.2.2).bind λf=> ai (a.2.2.2.1 != 0) λm=> ai (!f.2) λk=> ai (m||k) λj=> bif j then ( some ((e a.1),a.2.1,a.2.2.1,a.2.2.2.1,a.2.2.2.2)) else ( (aQ l a.2.1 b a.2.2.1 a.2.2.2.1 a.2.2.2.2).bind λh=> (jM n l (i64.wrap (a.2.1+1)) b a.2.2.1 a.2.2.2.1 a.2.2.2.2).bind λc=> some ((Ex.mk f.1 0 h.2.2.2 ([(e a.1),(e c.1)]:List Ex)),c.2.1,c.2.2.1,c.2.2.2.1,c.2.2.2.2))
theorem Gc(a:cQ)(c:iY a):Ko (KG a):=
 aX .o call223 func223 (aj (GP a c) (aj cm (aj bO al))) al al λs=>(show _=oq bl aM a s.1 s.2.1 s.2.2.1 s.2.2.2.1 s.2.2.2.2.1 s.2.2.2.2.2 from by kernel_rfl).trans ((congrArg (λb=>oq b aM a s.1 s.2.1 s.2.2.1 s.2.2.2.1 s.2.2.2.2.1 s.2.2.2.2.2) aJ).trans ((congrArg (λd=>oq id d a s.1 s.2.1 s.2.2.1 s.2.2.2.1 s.2.2.2.2.1 s.2.2.2.2.2) aN).trans (by kernel_rfl)))
def F4(a:cQ)(b:Vi):aq:=⟨222,[iF,Nz,(.fn 223 [] []),aS],bG,[(true,0,cE)],λs=>nD a b s.2.2.2.2.2.2 s.1 s.2.1 s.2.2.1 s.2.2.2.1 s.2.2.2.2.1 s.2.2.2.2.2.1⟩
def lD(h:Ex->Ex)(m:Sh->(R:Type)->Option R->Option R)(k:Q2->Option Q3)(j:Q2->Option Q3)(ops:Q1)(l:Q6)(at_:Int)(b:aE)(c:Int)(f:Int)(a:Int):Option Q3:= (bp ops l at_ b c f a).bind λg=> bif !g.2 then (sK k l at_ b c f a).bind λe=> some ((h e.1),e.2.1,e.2.2.1,e.2.2.2.1,e.2.2.2.2) else (aQ l at_ b c f a).bind λi=> (j (l,(i64.wrap (at_+1)),b,c,f,a)).bind λd=> some ((Ex.mk g.1 0 i.2.2.2 ([(h d.1)]:List Ex)),d.2.1,d.2.2.1,d.2.2.2.1,d.2.2.2.2)
theorem Bi(a:cQ)(e:iY a)(b:Vi)(f:OK1 b):Ko (F4 a b):=
 aX (.c .o (.r [0,8] .o)) call222 func222 (aj cm (aj (Gc a e) (aj bO (aj f al)))) al al λs=>(show _=lD bl aM a b s.2.2.2.2.2.2 s.1 s.2.1 s.2.2.1 s.2.2.2.1 s.2.2.2.2.1 s.2.2.2.2.2.1 from by kernel_rfl).trans ((congrArg (λd=>lD d aM a b s.2.2.2.2.2.2 s.1 s.2.1 s.2.2.1 s.2.2.2.1 s.2.2.2.2.1 s.2.2.2.2.2.1) aJ).trans ((congrArg (λg=>lD id g a b s.2.2.2.2.2.2 s.1 s.2.1 s.2.2.1 s.2.2.2.1 s.2.2.2.2.1 s.2.2.2.2.2.1) aN).trans (by kernel_rfl)))
def K2(a:cQ)(b:Vi):aq:=⟨221,[iF],bG,[(true,0,cE)],λs=>se a b s.1 s.2.1 s.2.2.1 s.2.2.2.1 s.2.2.2.2.1 s.2.2.2.2.2⟩
def oT(e:Ex->Ex)(i:Sh->(R:Type)->Option R->Option R)(h:Q2->Option Q3)(g:Q2->Option Q3)(l:Q6)(at_:Int)(c:aE)(d:Int)(f:Int)(b:Int):Option Q3:= (nD h g ([15,20,21,22]:y5) l at_ c d f b).bind λa=> some ((e a.1),a.2.1,a.2.2.1,a.2.2.2.1,a.2.2.2.2)
theorem F8(a:cQ)(d:iY a)(b:Vi)(e:OK1 b):Ko (K2 a b):=
 aX .o call221 func221 (aj (Bi a d b e) al) al al λs=>(show _=oT bl aM a b s.1 s.2.1 s.2.2.1 s.2.2.2.1 s.2.2.2.2.1 s.2.2.2.2.2 from by kernel_rfl).trans ((congrArg (λc=>oT c aM a b s.1 s.2.1 s.2.2.1 s.2.2.2.1 s.2.2.2.2.1 s.2.2.2.2.2) aJ).trans ((congrArg (λf=>oT id f a b s.1 s.2.1 s.2.2.1 s.2.2.2.1 s.2.2.2.2.1 s.2.2.2.2.2) aN).trans (by kernel_rfl)))
def tn(a:cQ):aq:=⟨91,[iF,Nz],bG,[(true,0,cE)],λs=>nB a s.1 s.2.1 s.2.2.1 s.2.2.2.1 s.2.2.2.2.1 s.2.2.2.2.2⟩
def j4(f:Ex->Ex)(j:Sh->(R:Type)->Option R->Option R)(i:Q2->Option Q3)(h:Q2->Option Q3)(l:Q6)(at_:Int)(d:aE)(a:Int)(g:Int)(c:Int):Option Q3:= bif decide (320<=a) then (bH 9 l at_ d a g c).bind λe=> some ((f e.1),at_,a,e.2.1,e.2.2) else (se i h l at_ d (i64.wrap (a+1)) g c).bind λb=> some ((f b.1),b.2.1,(i64.wrap (b.2.2.1-1)),b.2.2.2.1,b.2.2.2.2)
def tr(a:cQ):Vi->Vi:=λb s=>sY a b s.1 s.2.1 s.2.2.1 s.2.2.2.1 s.2.2.2.2.1 s.2.2.2.2.2
theorem yj(a:cQ)(d:iY a)(b:Vi)(e:OK1 b):(il (tr a b)).Ok X0.P X0.Γ:=
 aX .o call91 func91 (aj dX (aj (F8 a d b e) al)) al al λs=>(show _=j4 bl aM a b s.1 s.2.1 s.2.2.1 s.2.2.2.1 s.2.2.2.2.1 s.2.2.2.2.2 from by kernel_rfl).trans ((congrArg (λc=>j4 c aM a b s.1 s.2.1 s.2.2.1 s.2.2.2.1 s.2.2.2.2.1 s.2.2.2.2.2) aJ).trans ((congrArg (λf=>j4 id f a b s.1 s.2.1 s.2.2.1 s.2.2.2.1 s.2.2.2.2.1 s.2.2.2.2.2) aN).trans (by kernel_rfl)))
theorem BQ(a:cQ)(b:iY a):Ko (tn a):=(show tn a=il (ax (tr a) az) by kernel_rfl)▸dO (X:=X0) (E:=il) ⟨call91,λ_ _ h=>nomatch h⟩ (yj a b) az
def Fp(a:cQ):aq:=⟨220,[iF],bG,[(true,0,cE)],λs=>mJ a s.1 s.2.1 s.2.2.1 s.2.2.2.1 s.2.2.2.2.1 s.2.2.2.2.2⟩
def kQ(e:Ex->Ex)(h:Sh->(R:Type)->Option R->Option R)(g:Q2->Option Q3)(l:Q6)(at_:Int)(c:aE)(d:Int)(f:Int)(b:Int):Option Q3:= (nB g l at_ c d f b).bind λa=> some ((e a.1),a.2.1,a.2.2.1,a.2.2.2.1,a.2.2.2.2)
theorem AB(a:cQ)(c:iY a):Ko (Fp a):=
 aX .o call220 func220 (aj (BQ a c) al) al al λs=>(show _=kQ bl aM a s.1 s.2.1 s.2.2.1 s.2.2.2.1 s.2.2.2.2.1 s.2.2.2.2.2 from by kernel_rfl).trans ((congrArg (λb=>kQ b aM a s.1 s.2.1 s.2.2.1 s.2.2.2.1 s.2.2.2.2.1 s.2.2.2.2.2) aJ).trans ((congrArg (λd=>kQ id d a s.1 s.2.1 s.2.2.1 s.2.2.2.1 s.2.2.2.2.1 s.2.2.2.2.2) aN).trans (by kernel_rfl)))
def Hm(a:cQ)(b:Up):aq:=⟨137,[iF,(.fn 220 [] []),M8,aS],bG,[(true,0,cE)],λs=>oO a b s.2.2.2.2.2.2 s.1 s.2.1 s.2.2.1 s.2.2.2.1 s.2.2.2.2.1 s.2.2.2.2.2.1⟩
def mb(e:Ex->Ex)(p:Sh->(R:Type)->Option R->Option R)(o:Q2->Option Q3)(n:Q2->Option Q3)(ops:Q1)(l:Q6)(at_:Int)(b:aE)(g:Int)(i:Int)(d:Int):Option Q3:= (mJ o l at_ b g i d).bind λa=> (bp ops l a.2.1 b a.2.2.1 a.2.2.2.1 a.2.2.2.2).bind λf=> ai (a.2.2.2.1 != 0) λm=> ai (!f.2) λk=> ai (m||k) λj=> bif j then ( some ((e a.1),a.2.1,a.2.2.1,a.2.2.2.1,a.2.2.2.2)) else ( (aQ l a.2.1 b a.2.2.1 a.2.2.2.1 a.2.2.2.2).bind λh=> (n (l,(i64.wrap (a.2.1+1)),b,a.2.2.1,a.2.2.2.1,a.2.2.2.2)).bind λc=> some ((Ex.mk f.1 0 h.2.2.2 ([(e a.1),(e c.1)]:List Ex)),c.2.1,c.2.2.1,c.2.2.2.1,c.2.2.2.2))
theorem CW(a:cQ)(d:iY a)(b:Up)(e:OK2 b):Ko (Hm a b):=
 aX .o call137 func137 (aj (AB a d) (aj cm (aj bO (aj e al)))) al al λs=>(show _=mb bl aM a b s.2.2.2.2.2.2 s.1 s.2.1 s.2.2.1 s.2.2.2.1 s.2.2.2.2.1 s.2.2.2.2.2.1 from by kernel_rfl).trans ((congrArg (λc=>mb c aM a b s.2.2.2.2.2.2 s.1 s.2.1 s.2.2.1 s.2.2.2.1 s.2.2.2.2.1 s.2.2.2.2.2.1) aJ).trans ((congrArg (λf=>mb id f a b s.2.2.2.2.2.2 s.1 s.2.1 s.2.2.1 s.2.2.2.1 s.2.2.2.2.1 s.2.2.2.2.2.1) aN).trans (by kernel_rfl)))
def IL(a:cQ)(b:Up):aq:=⟨219,[iF],bG,[(true,0,cE)],λs=>oU a b s.1 s.2.1 s.2.2.1 s.2.2.2.1 s.2.2.2.2.1 s.2.2.2.2.2⟩
def mB(e:Ex->Ex)(i:Sh->(R:Type)->Option R->Option R)(h:Q2->Option Q3)(g:Q2->Option Q3)(l:Q6)(at_:Int)(c:aE)(d:Int)(f:Int)(b:Int):Option Q3:= (oO h g ([23,24]:y5) l at_ c d f b).bind λa=> some ((e a.1),a.2.1,a.2.2.1,a.2.2.2.1,a.2.2.2.2)
theorem CQ(a:cQ)(d:iY a)(b:Up)(e:OK2 b):Ko (IL a b):=
 aX .o call219 func219 (aj (CW a d b e) al) al al λs=>(show _=mB bl aM a b s.1 s.2.1 s.2.2.1 s.2.2.2.1 s.2.2.2.2.1 s.2.2.2.2.2 from by kernel_rfl).trans ((congrArg (λc=>mB c aM a b s.1 s.2.1 s.2.2.1 s.2.2.2.1 s.2.2.2.2.1 s.2.2.2.2.2) aJ).trans ((congrArg (λf=>mB id f a b s.1 s.2.1 s.2.2.1 s.2.2.2.1 s.2.2.2.2.1 s.2.2.2.2.2) aN).trans (by kernel_rfl)))
def tx(a:cQ):aq:=⟨91,[iF,M8],bG,[(true,0,cE)],λs=>nN a s.1 s.2.1 s.2.2.1 s.2.2.2.1 s.2.2.2.2.1 s.2.2.2.2.2⟩
def jZ(f:Ex->Ex)(j:Sh->(R:Type)->Option R->Option R)(i:Q2->Option Q3)(h:Q2->Option Q3)(l:Q6)(at_:Int)(d:aE)(a:Int)(g:Int)(c:Int):Option Q3:= bif decide (320<=a) then (bH 9 l at_ d a g c).bind λe=> some ((f e.1),at_,a,e.2.1,e.2.2) else (oU i h l at_ d (i64.wrap (a+1)) g c).bind λb=> some ((f b.1),b.2.1,(i64.wrap (b.2.2.1-1)),b.2.2.2.1,b.2.2.2.2)
def tg(a:cQ):Up->Up:=λb s=>sZ a b s.1 s.2.1 s.2.2.1 s.2.2.2.1 s.2.2.2.2.1 s.2.2.2.2.2
theorem yf(a:cQ)(d:iY a)(b:Up)(e:OK2 b):(im (tg a b)).Ok X0.P X0.Γ:=
 aX .o call91 func91 (aj dX (aj (CQ a d b e) al)) al al λs=>(show _=jZ bl aM a b s.1 s.2.1 s.2.2.1 s.2.2.2.1 s.2.2.2.2.1 s.2.2.2.2.2 from by kernel_rfl).trans ((congrArg (λc=>jZ c aM a b s.1 s.2.1 s.2.2.1 s.2.2.2.1 s.2.2.2.2.1 s.2.2.2.2.2) aJ).trans ((congrArg (λf=>jZ id f a b s.1 s.2.1 s.2.2.1 s.2.2.2.1 s.2.2.2.2.1 s.2.2.2.2.2) aN).trans (by kernel_rfl)))
theorem Ch(a:cQ)(b:iY a):Ko (tx a):=(show tx a=im (ax (tg a) az) by kernel_rfl)▸dO (X:=X0) (E:=im) ⟨call91,λ_ _ h=>nomatch h⟩ (yf a b) az
def Cc(a:cQ):aq:=⟨218,[iF],bG,[(true,0,cE)],λs=>fA a s.1 s.2.1 s.2.2.1 s.2.2.2.1 s.2.2.2.2.1 s.2.2.2.2.2⟩
def jL(e:Ex->Ex)(h:Sh->(R:Type)->Option R->Option R)(g:Q2->Option Q3)(l:Q6)(at_:Int)(c:aE)(d:Int)(f:Int)(b:Int):Option Q3:= (nN g l at_ c d f b).bind λa=> some ((e a.1),a.2.1,a.2.2.1,a.2.2.2.1,a.2.2.2.2)
theorem xM(a:cQ)(c:iY a):Ko (Cc a):=
 aX .o call218 func218 (aj (Ch a c) al) al al λs=>(show _=jL bl aM a s.1 s.2.1 s.2.2.1 s.2.2.2.1 s.2.2.2.2.1 s.2.2.2.2.2 from by kernel_rfl).trans ((congrArg (λb=>jL b aM a s.1 s.2.1 s.2.2.1 s.2.2.2.1 s.2.2.2.2.1 s.2.2.2.2.2) aJ).trans ((congrArg (λd=>jL id d a s.1 s.2.1 s.2.2.1 s.2.2.2.1 s.2.2.2.2.1 s.2.2.2.2.2) aN).trans (by kernel_rfl)))
def Je(a:cQ):aq:=⟨214,[iF,(.fn 218 [] []),aS],bG,[(true,0,cE)],λs=>o6 a s.2.2.2.2.2.2 s.1 s.2.1 s.2.2.1 s.2.2.2.1 s.2.2.2.2.1 s.2.2.2.2.2.1⟩
def CZ(o:Ex->Ex)(q:Sh->(R:Type)->Option R->Option R)(p:Q2->Option Q3)(ops:Q1)(l:Q6)(a:aE)(g:yX->Option Q3):Int×Int×Int×Int×Int×Int×Int×(List Ex)->Option Q3:=λ⟨f,e,b,d,k,j,i,h⟩=> bif b==0 then (bp ops l f a e b d).bind λm=> bif !m.2 then some ((Ex.mk k j i h),f,e,b,d) else (aQ l f a e b d).bind λn=> (fA p l (i64.wrap (f+1)) a e b d).bind λc=> g (c.2.1,c.2.2.1,c.2.2.2.1,c.2.2.2.2,m.1,0,n.2.2.2,([(Ex.mk k j i h),(o c.1)]:List Ex)) else some ((Ex.mk k j i h),f,e,b,d)
def mn(e:Ex->Ex)(h:Sh->(R:Type)->Option R->Option R)(g:Q2->Option Q3)(ops:Q1)(l:Q6)(at_:Int)(b:aE)(d:Int)(f:Int)(c:Int):Option Q3:= (fA g l at_ b d f c).bind λa=> ax (CZ e h g ops l b) az (a.2.1,a.2.2.1,a.2.2.2.1,a.2.2.2.2,a.1.op,a.1.n,a.1.at_,a.1.l)
theorem Cu(a:cQ)(c:iY a):Ko (Je a):=
 aX (.l ⟨[(true,0,cE),(true,6,IP),(true,7,LG)],[]⟩ .o) call214 func214 (aj (xM a c) (aj cm (aj bO al))) al al λs=>(show _=mn bl aM a s.2.2.2.2.2.2 s.1 s.2.1 s.2.2.1 s.2.2.2.1 s.2.2.2.2.1 s.2.2.2.2.2.1 from by kernel_rfl).trans ((congrArg (λb=>mn b aM a s.2.2.2.2.2.2 s.1 s.2.1 s.2.2.1 s.2.2.2.1 s.2.2.2.2.1 s.2.2.2.2.2.1) aJ).trans ((congrArg (λd=>mn id d a s.2.2.2.2.2.2 s.1 s.2.1 s.2.2.1 s.2.2.2.1 s.2.2.2.2.1 s.2.2.2.2.2.1) aN).trans (by kernel_rfl)))
def K8(a:cQ):aq:=⟨215,[iF],bG,[(true,0,cE)],λs=>jJ a s.1 s.2.1 s.2.2.1 s.2.2.2.1 s.2.2.2.2.1 s.2.2.2.2.2⟩
def oQ(e:Ex->Ex)(h:Sh->(R:Type)->Option R->Option R)(g:Q2->Option Q3)(l:Q6)(at_:Int)(c:aE)(d:Int)(f:Int)(b:Int):Option Q3:= (o6 g ([16]:y5) l at_ c d f b).bind λa=> some ((e a.1),a.2.1,a.2.2.1,a.2.2.2.1,a.2.2.2.2)
theorem Gy(a:cQ)(c:iY a):Ko (K8 a):=
 aX .o call215 func215 (aj (Cu a c) al) al al λs=>(show _=oQ bl aM a s.1 s.2.1 s.2.2.1 s.2.2.2.1 s.2.2.2.2.1 s.2.2.2.2.2 from by kernel_rfl).trans ((congrArg (λb=>oQ b aM a s.1 s.2.1 s.2.2.1 s.2.2.2.1 s.2.2.2.2.1 s.2.2.2.2.2) aJ).trans ((congrArg (λd=>oQ id d a s.1 s.2.1 s.2.2.1 s.2.2.2.1 s.2.2.2.2.1 s.2.2.2.2.2) aN).trans (by kernel_rfl)))
def Kh(a:cQ):aq:=⟨214,[iF,(.fn 215 [] []),aS],bG,[(true,0,cE)],λs=>pW a s.2.2.2.2.2.2 s.1 s.2.1 s.2.2.1 s.2.2.2.1 s.2.2.2.2.1 s.2.2.2.2.2.1⟩
def Em(o:Ex->Ex)(q:Sh->(R:Type)->Option R->Option R)(p:Q2->Option Q3)(ops:Q1)(l:Q6)(a:aE)(g:yX->Option Q3):Int×Int×Int×Int×Int×Int×Int×(List Ex)->Option Q3:=λ⟨f,e,b,d,k,j,i,h⟩=> bif b==0 then (bp ops l f a e b d).bind λm=> bif !m.2 then some ((Ex.mk k j i h),f,e,b,d) else (aQ l f a e b d).bind λn=> (jJ p l (i64.wrap (f+1)) a e b d).bind λc=> g (c.2.1,c.2.2.1,c.2.2.2.1,c.2.2.2.2,m.1,0,n.2.2.2,([(Ex.mk k j i h),(o c.1)]:List Ex)) else some ((Ex.mk k j i h),f,e,b,d)
def nt(e:Ex->Ex)(h:Sh->(R:Type)->Option R->Option R)(g:Q2->Option Q3)(ops:Q1)(l:Q6)(at_:Int)(b:aE)(d:Int)(f:Int)(c:Int):Option Q3:= (jJ g l at_ b d f c).bind λa=> ax (Em e h g ops l b) az (a.2.1,a.2.2.1,a.2.2.2.1,a.2.2.2.2,a.1.op,a.1.n,a.1.at_,a.1.l)
theorem Ei(a:cQ)(c:iY a):Ko (Kh a):=
 aX (.l ⟨[(true,0,cE),(true,6,IP),(true,7,LG)],[]⟩ .o) call214 func214 (aj (Gy a c) (aj cm (aj bO al))) al al λs=>(show _=nt bl aM a s.2.2.2.2.2.2 s.1 s.2.1 s.2.2.1 s.2.2.2.1 s.2.2.2.2.1 s.2.2.2.2.2.1 from by kernel_rfl).trans ((congrArg (λb=>nt b aM a s.2.2.2.2.2.2 s.1 s.2.1 s.2.2.1 s.2.2.2.1 s.2.2.2.2.1 s.2.2.2.2.2.1) aJ).trans ((congrArg (λd=>nt id d a s.2.2.2.2.2.2 s.1 s.2.1 s.2.2.1 s.2.2.2.1 s.2.2.2.2.1 s.2.2.2.2.2.1) aN).trans (by kernel_rfl)))
def NR(a:cQ):aq:=⟨206,[iF],bG,[(true,0,cE)],λs=>uL a s.1 s.2.1 s.2.2.1 s.2.2.2.1 s.2.2.2.2.1 s.2.2.2.2.2⟩
def ri(e:Ex->Ex)(h:Sh->(R:Type)->Option R->Option R)(g:Q2->Option Q3)(l:Q6)(at_:Int)(c:aE)(d:Int)(f:Int)(b:Int):Option Q3:= (pW g ([17]:y5) l at_ c d f b).bind λa=> some ((e a.1),a.2.1,a.2.2.1,a.2.2.2.1,a.2.2.2.2)
theorem Hl(a:cQ)(c:iY a):Ko (NR a):=
 aX .o call206 func206 (aj (Ei a c) al) al al λs=>(show _=ri bl aM a s.1 s.2.1 s.2.2.1 s.2.2.2.1 s.2.2.2.2.1 s.2.2.2.2.2 from by kernel_rfl).trans ((congrArg (λb=>ri b aM a s.1 s.2.1 s.2.2.1 s.2.2.2.1 s.2.2.2.2.1 s.2.2.2.2.2) aJ).trans ((congrArg (λd=>ri id d a s.1 s.2.1 s.2.2.1 s.2.2.2.1 s.2.2.2.2.1 s.2.2.2.2.2) aN).trans (by kernel_rfl)))
def Iu(a:cQ)(b:Vx):aq:=⟨137,[iF,(.fn 206 [] []),M6,aS],bG,[(true,0,cE)],λs=>oh a b s.2.2.2.2.2.2 s.1 s.2.1 s.2.2.1 s.2.2.2.1 s.2.2.2.2.1 s.2.2.2.2.2.1⟩
def ml(e:Ex->Ex)(p:Sh->(R:Type)->Option R->Option R)(o:Q2->Option Q3)(n:Q2->Option Q3)(ops:Q1)(l:Q6)(at_:Int)(b:aE)(g:Int)(i:Int)(d:Int):Option Q3:= (uL o l at_ b g i d).bind λa=> (bp ops l a.2.1 b a.2.2.1 a.2.2.2.1 a.2.2.2.2).bind λf=> ai (a.2.2.2.1 != 0) λm=> ai (!f.2) λk=> ai (m||k) λj=> bif j then ( some ((e a.1),a.2.1,a.2.2.1,a.2.2.2.1,a.2.2.2.2)) else ( (aQ l a.2.1 b a.2.2.1 a.2.2.2.1 a.2.2.2.2).bind λh=> (n (l,(i64.wrap (a.2.1+1)),b,a.2.2.1,a.2.2.2.1,a.2.2.2.2)).bind λc=> some ((Ex.mk f.1 0 h.2.2.2 ([(e a.1),(e c.1)]:List Ex)),c.2.1,c.2.2.1,c.2.2.2.1,c.2.2.2.2))
theorem CY(a:cQ)(d:iY a)(b:Vx)(e:OK3 b):Ko (Iu a b):=
 aX .o call137 func137 (aj (Hl a d) (aj cm (aj bO (aj e al)))) al al λs=>(show _=ml bl aM a b s.2.2.2.2.2.2 s.1 s.2.1 s.2.2.1 s.2.2.2.1 s.2.2.2.2.1 s.2.2.2.2.2.1 from by kernel_rfl).trans ((congrArg (λc=>ml c aM a b s.2.2.2.2.2.2 s.1 s.2.1 s.2.2.1 s.2.2.2.1 s.2.2.2.2.1 s.2.2.2.2.2.1) aJ).trans ((congrArg (λf=>ml id f a b s.2.2.2.2.2.2 s.1 s.2.1 s.2.2.1 s.2.2.2.1 s.2.2.2.2.1 s.2.2.2.2.2.1) aN).trans (by kernel_rfl)))
def Mz(a:cQ)(b:Vx):aq:=⟨184,[iF],bG,[(true,0,cE)],λs=>sI a b s.1 s.2.1 s.2.2.1 s.2.2.2.1 s.2.2.2.2.1 s.2.2.2.2.2⟩
def oZ(e:Ex->Ex)(i:Sh->(R:Type)->Option R->Option R)(h:Q2->Option Q3)(g:Q2->Option Q3)(l:Q6)(at_:Int)(c:aE)(d:Int)(f:Int)(b:Int):Option Q3:= (oh h g ([18]:y5) l at_ c d f b).bind λa=> some ((e a.1),a.2.1,a.2.2.1,a.2.2.2.1,a.2.2.2.2)
theorem G9(a:cQ)(d:iY a)(b:Vx)(e:OK3 b):Ko (Mz a b):=
 aX .o call184 func184 (aj (CY a d b e) al) al al λs=>(show _=oZ bl aM a b s.1 s.2.1 s.2.2.1 s.2.2.2.1 s.2.2.2.2.1 s.2.2.2.2.2 from by kernel_rfl).trans ((congrArg (λc=>oZ c aM a b s.1 s.2.1 s.2.2.1 s.2.2.2.1 s.2.2.2.2.1 s.2.2.2.2.2) aJ).trans ((congrArg (λf=>oZ id f a b s.1 s.2.1 s.2.2.1 s.2.2.2.1 s.2.2.2.2.1 s.2.2.2.2.2) aN).trans (by kernel_rfl)))
def sR(a:cQ):aq:=⟨91,[iF,M6],bG,[(true,0,cE)],λs=>nF a s.1 s.2.1 s.2.2.1 s.2.2.2.1 s.2.2.2.2.1 s.2.2.2.2.2⟩
def jY(f:Ex->Ex)(j:Sh->(R:Type)->Option R->Option R)(i:Q2->Option Q3)(h:Q2->Option Q3)(l:Q6)(at_:Int)(d:aE)(a:Int)(g:Int)(c:Int):Option Q3:= bif decide (320<=a) then (bH 9 l at_ d a g c).bind λe=> some ((f e.1),at_,a,e.2.1,e.2.2) else (sI i h l at_ d (i64.wrap (a+1)) g c).bind λb=> some ((f b.1),b.2.1,(i64.wrap (b.2.2.1-1)),b.2.2.2.1,b.2.2.2.2)
def sQ(a:cQ):Vx->Vx:=λb s=>sU a b s.1 s.2.1 s.2.2.1 s.2.2.2.1 s.2.2.2.2.1 s.2.2.2.2.2
theorem yt(a:cQ)(d:iY a)(b:Vx)(e:OK3 b):(ir (sQ a b)).Ok X0.P X0.Γ:=
 aX .o call91 func91 (aj dX (aj (G9 a d b e) al)) al al λs=>(show _=jY bl aM a b s.1 s.2.1 s.2.2.1 s.2.2.2.1 s.2.2.2.2.1 s.2.2.2.2.2 from by kernel_rfl).trans ((congrArg (λc=>jY c aM a b s.1 s.2.1 s.2.2.1 s.2.2.2.1 s.2.2.2.2.1 s.2.2.2.2.2) aJ).trans ((congrArg (λf=>jY id f a b s.1 s.2.1 s.2.2.1 s.2.2.2.1 s.2.2.2.2.1 s.2.2.2.2.2) aN).trans (by kernel_rfl)))
theorem Cg(a:cQ)(b:iY a):Ko (sR a):=(show sR a=ir (ax (sQ a) az) by kernel_rfl)▸dO (X:=X0) (E:=ir) ⟨call91,λ_ _ h=>nomatch h⟩ (yt a b) az
def Fi(a:cQ):aq:=⟨138,[iF],bG,[(true,0,cE)],λs=>mK a s.1 s.2.1 s.2.2.1 s.2.2.2.1 s.2.2.2.2.1 s.2.2.2.2.2⟩
def kK(e:Ex->Ex)(h:Sh->(R:Type)->Option R->Option R)(g:Q2->Option Q3)(l:Q6)(at_:Int)(c:aE)(d:Int)(f:Int)(b:Int):Option Q3:= (nF g l at_ c d f b).bind λa=> some ((e a.1),a.2.1,a.2.2.1,a.2.2.2.1,a.2.2.2.2)
theorem Am(a:cQ)(c:iY a):Ko (Fi a):=
 aX .o call138 func138 (aj (Cg a c) al) al al λs=>(show _=kK bl aM a s.1 s.2.1 s.2.2.1 s.2.2.2.1 s.2.2.2.2.1 s.2.2.2.2.2 from by kernel_rfl).trans ((congrArg (λb=>kK b aM a s.1 s.2.1 s.2.2.1 s.2.2.2.1 s.2.2.2.2.1 s.2.2.2.2.2) aJ).trans ((congrArg (λd=>kK id d a s.1 s.2.1 s.2.2.1 s.2.2.2.1 s.2.2.2.2.1 s.2.2.2.2.2) aN).trans (by kernel_rfl)))
def Hk(a:cQ):aq:=⟨137,[iF,(.fn 138 [] []),(.fn 92 [] []),aS],bG,[(true,0,cE)],λs=>o7 a s.2.2.2.2.2.2 s.1 s.2.1 s.2.2.1 s.2.2.2.1 s.2.2.2.2.1 s.2.2.2.2.2.1⟩
def mH(e:Ex->Ex)(o:Sh->(R:Type)->Option R->Option R)(n:Q2->Option Q3)(ops:Q1)(l:Q6)(at_:Int)(b:aE)(g:Int)(i:Int)(d:Int):Option Q3:= (mK n l at_ b g i d).bind λa=> (bp ops l a.2.1 b a.2.2.1 a.2.2.2.1 a.2.2.2.2).bind λf=> ai (a.2.2.2.1 != 0) λm=> ai (!f.2) λk=> ai (m||k) λj=> bif j then ( some ((e a.1),a.2.1,a.2.2.1,a.2.2.2.1,a.2.2.2.2)) else ( (aQ l a.2.1 b a.2.2.1 a.2.2.2.1 a.2.2.2.2).bind λh=> (n (l,(i64.wrap (a.2.1+1)),b,a.2.2.1,a.2.2.2.1,a.2.2.2.2)).bind λc=> some ((Ex.mk f.1 0 h.2.2.2 ([(e a.1),(e c.1)]:List Ex)),c.2.1,c.2.2.1,c.2.2.2.1,c.2.2.2.2))
theorem CB(a:cQ)(c:iY a):Ko (Hk a):=
 aX .o call137 func137 (aj (Am a c) (aj cm (aj bO (aj c al)))) al al λs=>(show _=mH bl aM a s.2.2.2.2.2.2 s.1 s.2.1 s.2.2.1 s.2.2.2.1 s.2.2.2.2.1 s.2.2.2.2.2.1 from by kernel_rfl).trans ((congrArg (λb=>mH b aM a s.2.2.2.2.2.2 s.1 s.2.1 s.2.2.1 s.2.2.2.1 s.2.2.2.2.1 s.2.2.2.2.2.1) aJ).trans ((congrArg (λd=>mH id d a s.2.2.2.2.2.2 s.1 s.2.1 s.2.2.1 s.2.2.2.1 s.2.2.2.2.1 s.2.2.2.2.2.1) aN).trans (by kernel_rfl)))
def L4(a:cQ):aq:=⟨92,[iF],bG,[(true,0,cE)],λs=>sL a s.1 s.2.1 s.2.2.1 s.2.2.2.1 s.2.2.2.2.1 s.2.2.2.2.2⟩
def o9(e:Ex->Ex)(h:Sh->(R:Type)->Option R->Option R)(g:Q2->Option Q3)(l:Q6)(at_:Int)(c:aE)(d:Int)(f:Int)(b:Int):Option Q3:= (o7 g ([19]:y5) l at_ c d f b).bind λa=> some ((e a.1),a.2.1,a.2.2.1,a.2.2.2.1,a.2.2.2.2)
theorem GX(a:cQ)(c:iY a):Ko (L4 a):=
 aX .o call92 func92 (aj (CB a c) al) al al λs=>(show _=o9 bl aM a s.1 s.2.1 s.2.2.1 s.2.2.2.1 s.2.2.2.2.1 s.2.2.2.2.2 from by kernel_rfl).trans ((congrArg (λb=>o9 b aM a s.1 s.2.1 s.2.2.1 s.2.2.2.1 s.2.2.2.2.1 s.2.2.2.2.2) aJ).trans ((congrArg (λd=>o9 id d a s.1 s.2.1 s.2.2.1 s.2.2.2.1 s.2.2.2.2.1 s.2.2.2.2.2) aN).trans (by kernel_rfl)))
def ta:aq:=⟨91,[iF,(.fn 92 [] [])],bG,[(true,0,cE)],U6 nu⟩
def ka(f:Ex->Ex)(i:Sh->(R:Type)->Option R->Option R)(h:Q2->Option Q3)(l:Q6)(at_:Int)(d:aE)(a:Int)(g:Int)(c:Int):Option Q3:= bif decide (320<=a) then (bH 9 l at_ d a g c).bind λe=> some ((f e.1),at_,a,e.2.1,e.2.2) else (sL h l at_ d (i64.wrap (a+1)) g c).bind λb=> some ((f b.1),b.2.1,(i64.wrap (b.2.2.1-1)),b.2.2.2.1,b.2.2.2.2)
def s7:cQ->cQ:=λa s=>te a s.1 s.2.1 s.2.2.1 s.2.2.2.1 s.2.2.2.2.1 s.2.2.2.2.2
theorem yk(a:cQ)(c:iY a):(iq (s7 a)).Ok X0.P X0.Γ:=
 aX .o call91 func91 (aj dX (aj (GX a c) al)) al al λs=>(show _=ka bl aM a s.1 s.2.1 s.2.2.1 s.2.2.2.1 s.2.2.2.2.1 s.2.2.2.2.2 from by kernel_rfl).trans ((congrArg (λb=>ka b aM a s.1 s.2.1 s.2.2.1 s.2.2.2.1 s.2.2.2.2.1 s.2.2.2.2.2) aJ).trans ((congrArg (λd=>ka id d a s.1 s.2.1 s.2.2.1 s.2.2.2.1 s.2.2.2.2.1 s.2.2.2.2.2) aN).trans (by kernel_rfl)))
theorem BO:Ko ta:=(show ta=iq (ax (s7) az) by kernel_rfl)▸dO (X:=X0) (E:=iq) ⟨call91,λ_ _ h=>nomatch h⟩ (yk) az
def Va:aq:=⟨58,[I7,an,A5],(.cB [bG,an,an,an]),[],U3 xY⟩
def tJ(c:Ex->Ex)(d:Sh->(R:Type)->Option R->Option R)(l:Q6)(at_:Int)(b:aE):Option PW:= (nu l at_ b 0 0 0).bind λa=> bif a.2.2.2.1 != 0 then some ((Ex.mk 0 0 0 []),0,a.2.2.2.1,a.2.2.2.2) else some ((c a.1),a.2.1,0,0)
theorem MO:Ko Va:=
 aX (.c (.r [6] .o) (.r [6] .o)) call58 func58 (aj BO al) al al λs=>(show _=tJ bl aM s.1 s.2.1 s.2.2 from by kernel_rfl).trans ((congrArg (λa=>tJ a aM s.1 s.2.1 s.2.2) aJ).trans ((congrArg (λb=>tJ id b s.1 s.2.1 s.2.2) aN).trans (by kernel_rfl)))
def O5:aq:=⟨59,[fJ],(.cB [an,an,an]),[],λs=>kr s⟩
def Xc(k:Ex->Ex)(D:Sh->(R:Type)->Option R->Option R)(C:Ex->Option nV)(e:Ex)(g:Q64->Option nV):Bool×Bool×Bool×Int->Option nV:=λ⟨b,d,a,h⟩=> bif decide (h<(List.length e.l:Int)) then (idx e.l h).bind λm=> (C (k m)).bind λf=> bif f.2.1 != 0 then some (0,f.2.1,f.2.2) else ai (f.1==1) λB=> ai (b&&B) λA=> ai (f.1==2) λz=> ai (d&&z) λy=> ai (f.1 != 1) λx=> ai (a&&x) λw=> g (A,y,w,(i64.wrap (h+1))) else ai (decide (e.op<=6)) λv=> ai (v&&b) λu=> bif u then ( some (1,0,0)) else ( ai (λ(j:Bool)=>MN e a j) λc=> ai (decide (6<e.op)) λt=> ai (decide (e.op<=12)) λs=> ai (t&&s) λr=> ai (r&&b) λi=> bif i then ( c i) else ( bif e.op==13 then c (e.op==13) else bif e.op==14 then c (e.op==14) else ai (decide (15<=e.op)) λq=> ai (decide (e.op<=19)) λp=> ai (q&&p) λo=> ai (o&&d) λn=> c n))
def yC(a:Ex->Ex)(c:Sh->(R:Type)->Option R->Option R)(b:Ex->Option nV)(e:Ex):Option nV:= ax (Xc a c b e) az (true,true,true,0)
def OM:TK5->TK5:=λa s=>PC a s
theorem Qt(a:TK5)(d:OK5 a):(uZ (OM a)).Ok X0.P X0.Γ:=
 aX (.l ⟨[(false,5,.bool),(false,6,.bool),(false,7,.bool),(false,16,an)],[]⟩ (.c .o (.c .o (.j ⟨[(false,53,.bool)],[]⟩ .o .o)))) call59 func59 (aj d al) al al λs=>(show _=yC bl aM a s from by kernel_rfl).trans ((congrArg (λb=>yC b aM a s) aJ).trans ((congrArg (λe=>yC id e a s) aN).trans (by kernel_rfl)))
theorem pk:Ko O5:=(show O5=uZ (ax (OM) az) by kernel_rfl)▸dO (X:=X0) (E:=uZ) ⟨call59,λ_ _ h=>nomatch h⟩ (Qt) az
def V4:aq:=⟨59,[(.dat .ex [some 158])],(.cB [an,an,an]),[],λs=>Co s⟩
def N6(k:Ex->Ex)(C:Sh->(R:Type)->Option R->Option R)(e:Ex)(g:Q64->Option nV):Bool×Bool×Bool×Int->Option nV:=λ⟨b,d,a,h⟩=> bif decide (h<(List.length e.l:Int)) then (idx e.l h).bind λm=> (kr (k m)).bind λf=> bif f.2.1 != 0 then some (0,f.2.1,f.2.2) else ai (f.1==1) λB=> ai (b&&B) λA=> ai (f.1==2) λz=> ai (d&&z) λy=> ai (f.1 != 1) λx=> ai (a&&x) λw=> g (A,y,w,(i64.wrap (h+1))) else ai (decide (e.op<=6)) λv=> ai (v&&b) λu=> bif u then ( some (1,0,0)) else ( ai (λ(j:Bool)=>Df e a j) λc=> ai (decide (6<e.op)) λt=> ai (decide (e.op<=12)) λs=> ai (t&&s) λr=> ai (r&&b) λi=> bif i then ( c i) else ( bif e.op==13 then c (e.op==13) else bif e.op==14 then c (e.op==14) else ai (decide (15<=e.op)) λq=> ai (decide (e.op<=19)) λp=> ai (q&&p) λo=> ai (o&&d) λn=> c n))
def wm(a:Ex->Ex)(b:Sh->(R:Type)->Option R->Option R)(e:Ex):Option nV:= ax (N6 a b e) az (true,true,true,0)
theorem OC:Ko V4:=
 aX (.l ⟨[(false,5,.bool),(false,6,.bool),(false,7,.bool),(false,16,an)],[]⟩ (.c .o (.c .o (.j ⟨[(false,53,.bool)],[]⟩ .o .o)))) call59 func59 (aj pk al) al al λs=>(show _=wm bl aM s from by kernel_rfl).trans ((congrArg (λa=>wm a aM s) aJ).trans ((congrArg (λb=>wm id b s) aN).trans (by kernel_rfl)))
def CM:bI:=⟨180,[aaP,an],EI,none,false,false,bG,[(true,0,QL)],λs=>fR s.2.2.2.2.2.2.2 s.1 s.2.1 s.2.2.1 s.2.2.2.1 s.2.2.2.2.1 s.2.2.2.2.2.1 s.2.2.2.2.2.2.1⟩
def xU(b:Ex->Ex)(c:Sh->(R:Type)->Option R->Option R)(a:PW):Option (Except cz ji):= some (.ok ((b a.1),a.2.1))
def xZ(e:Ex->Ex)(h:Sh->(R:Type)->Option R->Option R)(a:Int)(g:Int)(b:PW)(d:nV):Option (Except cz ji):= ai (λ(f:Unit)=>xU e h b) λc=> bif d.1 != a then some (.error (4,b.1.at_)) else c ()
def yB(e:Ex->Ex)(g:Sh->(R:Type)->Option R->Option R)(b:Int)(at_:Int)(c:PW):Option (Except cz ji):= (Co (e c.1)).bind λa=> ai (λ(f:Unit)=>xZ e g b at_ c a) λd=> bif a.2.1 != 0 then some (.error a.2) else d ()
def j7(g:Ex->Ex)(k:Sh->(R:Type)->Option R->Option R)(c:Int)(l:Q6)(at_:Int)(b:aE)(e:Q8)(h:Q1)(f:aE)(j:Q9):Option (Except cz ji):= (xY l at_ b).bind λa=> ai (λ(i:Unit)=>yB g k c at_ a) λd=> bif a.2.2.1 != 0 then some (.error a.2.2) else d ()
theorem mU:pK CM:=
 oV (.r [0,40000] (.j ⟨[],[]⟩ .o (.s (.j ⟨[],[]⟩ .o (.j ⟨[],[]⟩ .o .o))))) call180 func180 (aj MO (aj OC al)) al al λs=>(show _=j7 bl aM s.2.2.2.2.2.2.2 s.1 s.2.1 s.2.2.1 s.2.2.2.1 s.2.2.2.2.1 s.2.2.2.2.2.1 s.2.2.2.2.2.2.1 from by kernel_rfl).trans ((congrArg (λa=>j7 a aM s.2.2.2.2.2.2.2 s.1 s.2.1 s.2.2.1 s.2.2.2.1 s.2.2.2.2.1 s.2.2.2.2.2.1 s.2.2.2.2.2.2.1) aJ).trans ((congrArg (λb=>j7 id b s.2.2.2.2.2.2.2 s.1 s.2.1 s.2.2.1 s.2.2.2.1 s.2.2.2.2.1 s.2.2.2.2.2.1 s.2.2.2.2.2.2.1) aN).trans (by kernel_rfl)))
def yw:aq:=⟨205,[(.dat rQ [none]),(.bx 3 0 false [an])],.bool,[],U2 jG⟩
theorem vp:Ko yw:=
 aw .o call205 func205 al
def nY:aq:=⟨213,[(.own rQ 301 false),(.fn 205 [] [(.bx 3 0 false [an])])],an,[],U2 iP⟩
def mD(e:Ex->Ex)(g:Sh->(R:Type)->Option R->Option R)(s:DI)(c:Int)(a:Int->x3)(b:Int):x3:= bif decide (b<(s.length:Int)) then (idx s b).bind λf=> (jG (f.1,(e f.2)) c).bind λd=> bif d then ( some b) else ( a (i64.wrap (b+1))) else some (-1)
def eA(a:Ex->Ex)(b:Sh->(R:Type)->Option R->Option R)(s:DI)(c:Int):x3:= ax (mD a b s c) az 0
theorem mF:Ko nY:=
 aX (.l ⟨[(false,8,an)],[]⟩ .o) call213 func213 (aj vp al) al al λs=>(show _=eA bl aM s.1 s.2 from by kernel_rfl).trans ((congrArg (λa=>eA a aM s.1 s.2) aJ).trans ((congrArg (λb=>eA id b s.1 s.2) aN).trans (by kernel_rfl)))
def l6:aq:=⟨204,[(.own rQ 301 false),(.fn 205 [] [(.bx 3 0 false [an])])],.bool,[],U2 ek⟩
theorem lh:Ko l6:=
 aw .o call204 func204 (aj mF al)
def yd:bI:=⟨181,[aaP,(.own rQ 301 false)],EI,none,false,false,(.dat rQ [some 159]),[(true,0,QL)],λs=>jH s.2.2.2.2.2.2.2 s.1 s.2.1 s.2.2.1 s.2.2.2.1 s.2.2.2.2.1 s.2.2.2.2.2.1 s.2.2.2.2.2.2.1⟩
def vw(i:Ex->Ex)(j:Sh->(R:Type)->Option R->Option R)(l:Q6)(at_:Int)(c:aE)(a:Q8)(d:Q1)(b:aE)(f:Q9)(h:Int):Option Q46:= cS (ez [61] l (i64.wrap (at_+1)) c a d b f) λg=> cS (fR 1 l g c a d b f) λe=> some (.ok ((h,(i e.1)),e.2))
def vu(m:Ex->Ex)(q:Sh->(R:Type)->Option R->Option R)(f:DI)(l:Q6)(at_:Int)(a:aE)(b:Q8)(d:Q1)(c:aE)(i:Q9)(p:DM):Option Q46:= (cW a p.2.1).bind λe=> ai (λ(o:Unit)=>vw m q l at_ a b d c i e) λg=> ai (decide (e<0)) λh=> bw (!h) default (ek f e) λk=> ai (h||k) λn=> bif n then ( cS (cH 3 l at_ a b d c i) λj=> j.elim) else ( g ())
def iT(i:Ex->Ex)(m:Sh->(R:Type)->Option R->Option R)(e:DI)(l:Q6)(at_:Int)(c:aE)(a:Q8)(d:Q1)(b:aE)(f:Q9):Option Q46:= (dH l at_ c a d b f).bind λj=> ai (λ(k:Unit)=>vu i m e l at_ c a d b f j) λg=> bif j.1 != 1 then cS (cH 2 l at_ c a d b f) λh=> h.elim else g ()
theorem vt:pK yd:=
 oV (.s (.s (.j ⟨[],[]⟩ .o (.r [0,40000] (.j ⟨[],[]⟩ .o (.r [0,4] .o)))))) call181 func181 (aj dQ (aj fi (aj lh al))) (aj jj (aj mU (aj fa al))) al λs=>(show _=iT bl aM s.2.2.2.2.2.2.2 s.1 s.2.1 s.2.2.1 s.2.2.2.1 s.2.2.2.2.1 s.2.2.2.2.2.1 s.2.2.2.2.2.2.1 from by kernel_rfl).trans ((congrArg (λa=>iT a aM s.2.2.2.2.2.2.2 s.1 s.2.1 s.2.2.1 s.2.2.2.1 s.2.2.2.2.1 s.2.2.2.2.2.1 s.2.2.2.2.2.2.1) aJ).trans ((congrArg (λb=>iT id b s.2.2.2.2.2.2.2 s.1 s.2.1 s.2.2.1 s.2.2.2.1 s.2.2.2.2.1 s.2.2.2.2.2.1 s.2.2.2.2.2.2.1) aN).trans (by kernel_rfl)))
def Ie:bI:=⟨135,[(.bx 138 0 true [I7,an,A5,Nu,IY,A5,QD])],EI,none,false,false,eB,[(true,0,am6)],U7 xO⟩
def CG(e:Ex->Ex)(o:Sh->(R:Type)->Option R->Option R)(l:Q6)(d:aE)(c:Q8)(h:Q1)(b:aE)(i:Q9)(j:ji)(g:(Int×DI)->Option Yb):Int×DI->Option Yb:=λ⟨n,f⟩=> cS (jH f l n d c h b i) λa=> aG (aH (List.length f+List.length ([(a.1.1,(e a.1.2))]:List Sw)) 56)<| (gG 3 [59] l a.2 d c h b i).bind λm=> bif m then ( aG (aH (List.length i+List.length ([((i64.wrap ((b.length:Int)-1)),(e j.1),(f++([(a.1.1,(e a.1.2))]:List Sw)))]:List Q65)) 80)<| some (.ok ((i64.wrap (a.2+1)),(i++([((i64.wrap ((b.length:Int)-1)),(e j.1),(f++([(a.1.1,(e a.1.2))]:List Sw)))]:List Q65))))) else ( cS (ez [44] l a.2 d c h b i) λk=> g (k,(f++([(a.1.1,(e a.1.2))]:List Sw))))
def CI(h:Ex->Ex)(i:Sh->(R:Type)->Option R->Option R)(l:Q6)(at_:Int)(c:aE)(a:Q8)(d:Q1)(b:aE)(e:Q9):Option Yb:= cS (fR 2 l at_ c a d b e) λf=> cS (ez [58] l f.2 c a d b e) λg=> ax (CG h i l c a d b e f) az (g,[])
def mE(h:Ex->Ex)(j:Sh->(R:Type)->Option R->Option R)(l:Q6)(at_:Int)(c:aE)(a:Q8)(d:Q1)(b:aE)(e:Q9):Option Yb:= ai (λ(i:Unit)=>CI h j l at_ c a d b e) λf=> bif decide (256<=(e.length:Int)) then cS (cH 9 l at_ c a d b e) λg=> g.elim else f ()
theorem CU:pK Ie:=
 oV (.j ⟨[],[]⟩ .o (.r [0,40000] (.l ⟨[(true,0,QL),(true,2,(.bx 299 0 true [.same,.same,.same,.same,.same,(.own rQ 301 true)]))],[]⟩ (.r [0,2] (.c (.r [0,2] .o) .o))))) call135 func135 (aj iy al) (aj mU (aj jj (aj vt (aj fa al)))) al λs=>(show _=mE bl aM s.1 s.2.1 s.2.2.1 s.2.2.2.1 s.2.2.2.2.1 s.2.2.2.2.2.1 s.2.2.2.2.2.2 from by kernel_rfl).trans ((congrArg (λa=>mE a aM s.1 s.2.1 s.2.2.1 s.2.2.2.1 s.2.2.2.2.1 s.2.2.2.2.2.1 s.2.2.2.2.2.2) aJ).trans ((congrArg (λb=>mE id b s.1 s.2.1 s.2.2.1 s.2.2.2.1 s.2.2.2.2.1 s.2.2.2.2.2.1 s.2.2.2.2.2.2) aN).trans (by kernel_rfl)))
def HC:bI:=⟨87,[(.bx 138 0 true [I7,an,A5,Nu,IY,wo,QD])],EI,none,false,false,eB,[(true,0,(.bx 138 0 true [.same,an,.same,.same,.same,wo,QD]))],U7 xE⟩
theorem Ct:pK HC:=
 oV (.r [0] (.l ⟨[(true,0,am6)],[]⟩ .o)) call87 func87 (aj iy al) (aj uS (aj jj (aj CU al))) al λ_=>by kernel_rfl
def QO:bI:=⟨57,[(.bx 138 0 true [I7,an,wo,Iz,fq,wo,QD])],EI,none,false,false,eB,[(true,0,ane)],U7 Gk⟩
theorem J9:pK QO:=
 oV (.l ⟨[(true,0,ane),(true,2,(.bx 190 0 true [.same,.same]))],[]⟩ .o) call57 func57 (aj dQ (aj iy al)) (aj AP (aj fa (aj Ct al))) al λ_=>by kernel_rfl
def ZH:aq:=⟨41,[.str],(.cB [xT,an,an]),[],λs=>O4 s⟩
theorem alw:(⟨56,Tryz.f56⟩:jV).Ok X0.P:=⟨call56,func56⟩
theorem P7:Ko ZH:=
 aX .o call41 func41 (aj DC al) (aj J9 al) (aj alw al) λ_=>by kernel_rfl
def Rc:aq:=⟨42,[(.bx 81 0 true [.str,.str,an,an,an,mC,an,an,A5,Nu,IY,A5,(.own sO 299 false),an,an,an,(.own .ex 79 false),an,an,an,fq,iD,iD]),an,an,aS],.bool,[(true,0,aiz)],λs=>G7 (d8 (d8 s)).2.2.2.2.2.2.2.1 (d8 (d8 (d8 s))).1 (d8 (d8 (d8 s))).2 s.1 s.2.1 s.2.2.1 s.2.2.2.1 s.2.2.2.2.1 s.2.2.2.2.2.1 s.2.2.2.2.2.2.1 s.2.2.2.2.2.2.2.1 s.2.2.2.2.2.2.2.2.1 (d8 s).2.1 (d8 s).2.2.1 (d8 s).2.2.2.1 (d8 s).2.2.2.2.1 (d8 s).2.2.2.2.2.1 (d8 s).2.2.2.2.2.2.1 (d8 s).2.2.2.2.2.2.2.1 (d8 (d8 s)).1 (d8 (d8 s)).2.1 (d8 (d8 s)).2.2.1 (d8 (d8 s)).2.2.2.1 (d8 (d8 s)).2.2.2.2.1 (d8 (d8 s)).2.2.2.2.2.1 (d8 (d8 s)).2.2.2.2.2.2.1⟩
theorem JL:Ko Rc:=
 aw .o call42 func42 al
def P3:aq:=⟨136,[eO,an],bG,[(true,0,(.bx 196 0 true [.same,.same,.same,.same,an,an]))],λs=>bZ s.2.2.2.2.2.2 s.1 s.2.1 s.2.2.1 s.2.2.2.1 s.2.2.2.2.1 s.2.2.2.2.2.1⟩
theorem fv:Ko P3:=
 aw (.c (.r [0] .o) .o) call136 func136 al
def RY:aq:=⟨183,[anb],(.dat nL []),[],U6 bc⟩
theorem cj:Ko RY:=
 aw (.r [2] .o) call183 func183 al
def XS:aq:=⟨182,[anb,aS],ya,[],λs=>bN s.2.2.2.2.2.2 s.1 s.2.1 s.2.2.1 s.2.2.2.1 s.2.2.2.2.1 s.2.2.2.2.2.1⟩
theorem cV:Ko XS:=
 aw (.c .o (.l ⟨[(false,27,an)],[]⟩ .o)) call182 func182 (aj cj (aj mW al))
def St(a:bQ):aq:=⟨228,[eO],bG,[(true,0,cE)],λs=>yb a s.1 s.2.1 s.2.2.1 s.2.2.2.1 s.2.2.2.2.1 s.2.2.2.2.2⟩
def tS(h:Ex->Ex)(C:Sh->(R:Type)->Option R->Option R)(B:Q2->Option Q3)(l:Q6)(at_:Int)(c:aE)(d:Int)(f:Int)(b:Int):Option Q3:= bif f != 0 then some ((Ex.mk 0 0 0 []),at_,d,f,b) else (bc l at_ c d f b).bind λe=> (bN ([13,14]:y5) l at_ c d f b).bind λn=> bif n.2 then ( some ((Ex.mk n.1 0 e.2.2.2 []),(i64.wrap (at_+1)),d,f,b)) else ( bif e.1==2 then some ((Ex.mk 1 e.2.2.1 e.2.2.2 []),(i64.wrap (at_+1)),d,f,b) else ai (e.1==1) λp=> bw p default (oK e.2.1) λs=> ai (!s) λA=> ai (p&&A) λz=> bif z then ( (cT c e.2.1).bind λm=> bif decide (m<0) then (bZ 3 l at_ c d f b).bind λj=> some ((h j.1),at_,d,j.2.1,j.2.2) else some ((Ex.mk 2 m e.2.2.2 []),(i64.wrap (at_+1)),d,f,b)) else ( ai (e.1==3) λy=> ai (e.2.1==[40]) λx=> ai (y&&x) λw=> bif w then ( (B (l,(i64.wrap (at_+1)),c,d,f,b)).bind λa=> ai (a.2.2.2.1==0) λk=> bw k default (bc l a.2.1 c a.2.2.1 a.2.2.2.1 a.2.2.2.2) λr=> ai (r.1 != 3) λo=> bw (k&& !o) default (bc l a.2.1 c a.2.2.1 a.2.2.2.1 a.2.2.2.2) λq=> ai (q.2.1 != [41]) λv=> ai (o||v) λu=> ai (k&&u) λt=> bif t then ( (bZ 2 l a.2.1 c a.2.2.1 a.2.2.2.1 a.2.2.2.2).bind λi=> some ((h i.1),a.2.1,a.2.2.1,i.2.1,i.2.2)) else ( bif a.2.2.2.1==0 then some ((h a.1),(i64.wrap (a.2.1+1)),a.2.2.1,a.2.2.2.1,a.2.2.2.2) else some ((h a.1),a.2.1,a.2.2.1,a.2.2.2.1,a.2.2.2.2))) else ( (bZ 2 l at_ c d f b).bind λg=> some ((h g.1),at_,d,g.2.1,g.2.2))))
theorem K6(a:bQ)(b:fm a):Ko (St a):=
 aX .o call228 func228 (aj cj (aj cV (aj mW (aj fX (aj fv (aj b al)))))) al al λs=>(show _=tS bl aM a s.1 s.2.1 s.2.2.1 s.2.2.2.1 s.2.2.2.2.1 s.2.2.2.2.2 from by kernel_rfl).trans ((congrArg (λc=>tS c aM a s.1 s.2.1 s.2.2.1 s.2.2.2.1 s.2.2.2.2.1 s.2.2.2.2.2) aJ).trans ((congrArg (λd=>tS id d a s.1 s.2.1 s.2.2.1 s.2.2.2.1 s.2.2.2.2.1 s.2.2.2.2.2) aN).trans (by kernel_rfl)))
def Ga(a:bQ)(b:Si):aq:=⟨222,[eO,M9,(.fn 228 [] []),aS],bG,[(true,0,cE)],λs=>nr a b s.2.2.2.2.2.2 s.1 s.2.1 s.2.2.1 s.2.2.2.1 s.2.2.2.2.1 s.2.2.2.2.2.1⟩
def lA(h:Ex->Ex)(m:Sh->(R:Type)->Option R->Option R)(k:Q2->Option Q3)(j:Q2->Option Q3)(ops:Q1)(l:Q6)(at_:Int)(b:aE)(c:Int)(f:Int)(a:Int):Option Q3:= (bN ops l at_ b c f a).bind λg=> bif !g.2 then (yb k l at_ b c f a).bind λe=> some ((h e.1),e.2.1,e.2.2.1,e.2.2.2.1,e.2.2.2.2) else (bc l at_ b c f a).bind λi=> (j (l,(i64.wrap (at_+1)),b,c,f,a)).bind λd=> some ((Ex.mk g.1 0 i.2.2.2 ([(h d.1)]:List Ex)),d.2.1,d.2.2.1,d.2.2.2.1,d.2.2.2.2)
theorem BI(a:bQ)(d:fm a)(b:Si)(f:OK6 b):Ko (Ga a b):=
 aX (.c .o (.r [0,8] .o)) call222 func222 (aj cV (aj (K6 a d) (aj cj (aj f al)))) al al λs=>(show _=lA bl aM a b s.2.2.2.2.2.2 s.1 s.2.1 s.2.2.1 s.2.2.2.1 s.2.2.2.2.1 s.2.2.2.2.2.1 from by kernel_rfl).trans ((congrArg (λe=>lA e aM a b s.2.2.2.2.2.2 s.1 s.2.1 s.2.2.1 s.2.2.2.1 s.2.2.2.2.1 s.2.2.2.2.2.1) aJ).trans ((congrArg (λg=>lA id g a b s.2.2.2.2.2.2 s.1 s.2.1 s.2.2.1 s.2.2.2.1 s.2.2.2.2.1 s.2.2.2.2.2.1) aN).trans (by kernel_rfl)))
def UR(a:bQ)(b:Si):aq:=⟨227,[eO],bG,[(true,0,cE)],λs=>yg a b s.1 s.2.1 s.2.2.1 s.2.2.2.1 s.2.2.2.2.1 s.2.2.2.2.2⟩
def uj(e:Ex->Ex)(i:Sh->(R:Type)->Option R->Option R)(h:Q2->Option Q3)(g:Q2->Option Q3)(l:Q6)(at_:Int)(c:aE)(d:Int)(f:Int)(b:Int):Option Q3:= (nr h g ([6]:y5) l at_ c d f b).bind λa=> some ((e a.1),a.2.1,a.2.2.1,a.2.2.2.1,a.2.2.2.2)
theorem Ly(a:bQ)(c:fm a)(b:Si)(e:OK6 b):Ko (UR a b):=
 aX .o call227 func227 (aj (BI a c b e) al) al al λs=>(show _=uj bl aM a b s.1 s.2.1 s.2.2.1 s.2.2.2.1 s.2.2.2.2.1 s.2.2.2.2.2 from by kernel_rfl).trans ((congrArg (λd=>uj d aM a b s.1 s.2.1 s.2.2.1 s.2.2.2.1 s.2.2.2.2.1 s.2.2.2.2.2) aJ).trans ((congrArg (λf=>uj id f a b s.1 s.2.1 s.2.2.1 s.2.2.2.1 s.2.2.2.2.1 s.2.2.2.2.2) aN).trans (by kernel_rfl)))
def tY(a:bQ):aq:=⟨91,[eO,M9],bG,[(true,0,cE)],λs=>oH a s.1 s.2.1 s.2.2.1 s.2.2.2.1 s.2.2.2.2.1 s.2.2.2.2.2⟩
def kY(f:Ex->Ex)(j:Sh->(R:Type)->Option R->Option R)(i:Q2->Option Q3)(h:Q2->Option Q3)(l:Q6)(at_:Int)(d:aE)(a:Int)(g:Int)(c:Int):Option Q3:= bif decide (320<=a) then (bZ 9 l at_ d a g c).bind λe=> some ((f e.1),at_,a,e.2.1,e.2.2) else (yg i h l at_ d (i64.wrap (a+1)) g c).bind λb=> some ((f b.1),b.2.1,(i64.wrap (b.2.2.1-1)),b.2.2.2.1,b.2.2.2.2)
def u4(a:bQ):Si->Si:=λb s=>ub a b s.1 s.2.1 s.2.2.1 s.2.2.2.1 s.2.2.2.2.1 s.2.2.2.2.2
theorem Ad(a:bQ)(c:fm a)(b:Si)(e:OK6 b):(iN (u4 a b)).Ok X0.P X0.Γ:=
 aX .o call91 func91 (aj fv (aj (Ly a c b e) al)) al al λs=>(show _=kY bl aM a b s.1 s.2.1 s.2.2.1 s.2.2.2.1 s.2.2.2.2.1 s.2.2.2.2.2 from by kernel_rfl).trans ((congrArg (λd=>kY d aM a b s.1 s.2.1 s.2.2.1 s.2.2.2.1 s.2.2.2.2.1 s.2.2.2.2.2) aJ).trans ((congrArg (λf=>kY id f a b s.1 s.2.1 s.2.2.1 s.2.2.2.1 s.2.2.2.2.1 s.2.2.2.2.2) aN).trans (by kernel_rfl)))
theorem Cs(a:bQ)(b:fm a):Ko (tY a):=(show tY a=iN (ax (u4 a) az) by kernel_rfl)▸dO (X:=X0) (E:=iN) ⟨call91,λ_ _ h=>nomatch h⟩ (Ad a b) az
def Kc(a:bQ):aq:=⟨226,[eO],bG,[(true,0,cE)],λs=>ja a s.1 s.2.1 s.2.2.1 s.2.2.2.1 s.2.2.2.2.1 s.2.2.2.2.2⟩
def nE(e:Ex->Ex)(h:Sh->(R:Type)->Option R->Option R)(g:Q2->Option Q3)(l:Q6)(at_:Int)(c:aE)(d:Int)(f:Int)(b:Int):Option Q3:= (oH g l at_ c d f b).bind λa=> some ((e a.1),a.2.1,a.2.2.1,a.2.2.2.1,a.2.2.2.2)
theorem Fl(a:bQ)(b:fm a):Ko (Kc a):=
 aX .o call226 func226 (aj (Cs a b) al) al al λs=>(show _=nE bl aM a s.1 s.2.1 s.2.2.1 s.2.2.2.1 s.2.2.2.2.1 s.2.2.2.2.2 from by kernel_rfl).trans ((congrArg (λc=>nE c aM a s.1 s.2.1 s.2.2.1 s.2.2.2.1 s.2.2.2.2.1 s.2.2.2.2.2) aJ).trans ((congrArg (λd=>nE id d a s.1 s.2.1 s.2.2.1 s.2.2.2.1 s.2.2.2.2.1 s.2.2.2.2.2) aN).trans (by kernel_rfl)))
def Kb(a:bQ):aq:=⟨214,[eO,(.fn 226 [] []),aS],bG,[(true,0,cE)],λs=>pZ a s.2.2.2.2.2.2 s.1 s.2.1 s.2.2.1 s.2.2.2.1 s.2.2.2.2.1 s.2.2.2.2.2.1⟩
def Fv(o:Ex->Ex)(q:Sh->(R:Type)->Option R->Option R)(p:Q2->Option Q3)(ops:Q1)(l:Q6)(a:aE)(g:yX->Option Q3):Int×Int×Int×Int×Int×Int×Int×(List Ex)->Option Q3:=λ⟨f,e,b,d,k,j,i,h⟩=> bif b==0 then (bN ops l f a e b d).bind λm=> bif !m.2 then some ((Ex.mk k j i h),f,e,b,d) else (bc l f a e b d).bind λn=> (ja p l (i64.wrap (f+1)) a e b d).bind λc=> g (c.2.1,c.2.2.1,c.2.2.2.1,c.2.2.2.2,m.1,0,n.2.2.2,([(Ex.mk k j i h),(o c.1)]:List Ex)) else some ((Ex.mk k j i h),f,e,b,d)
def ny(e:Ex->Ex)(h:Sh->(R:Type)->Option R->Option R)(g:Q2->Option Q3)(ops:Q1)(l:Q6)(at_:Int)(b:aE)(d:Int)(f:Int)(c:Int):Option Q3:= (ja g l at_ b d f c).bind λa=> ax (Fv e h g ops l b) az (a.2.1,a.2.2.1,a.2.2.2.1,a.2.2.2.2,a.1.op,a.1.n,a.1.at_,a.1.l)
theorem EZ(a:bQ)(b:fm a):Ko (Kb a):=
 aX (.l ⟨[(true,0,cE),(true,6,IP),(true,7,LG)],[]⟩ .o) call214 func214 (aj (Fl a b) (aj cV (aj cj al))) al al λs=>(show _=ny bl aM a s.2.2.2.2.2.2 s.1 s.2.1 s.2.2.1 s.2.2.2.1 s.2.2.2.2.1 s.2.2.2.2.2.1 from by kernel_rfl).trans ((congrArg (λc=>ny c aM a s.2.2.2.2.2.2 s.1 s.2.1 s.2.2.1 s.2.2.2.1 s.2.2.2.2.1 s.2.2.2.2.2.1) aJ).trans ((congrArg (λd=>ny id d a s.2.2.2.2.2.2 s.1 s.2.1 s.2.2.1 s.2.2.2.1 s.2.2.2.2.1 s.2.2.2.2.2.1) aN).trans (by kernel_rfl)))
def P1(a:bQ):aq:=⟨225,[eO],bG,[(true,0,cE)],λs=>lG a s.1 s.2.1 s.2.2.1 s.2.2.2.1 s.2.2.2.2.1 s.2.2.2.2.2⟩
def sC(e:Ex->Ex)(h:Sh->(R:Type)->Option R->Option R)(g:Q2->Option Q3)(l:Q6)(at_:Int)(c:aE)(d:Int)(f:Int)(b:Int):Option Q3:= (pZ g ([5]:y5) l at_ c d f b).bind λa=> some ((e a.1),a.2.1,a.2.2.1,a.2.2.2.1,a.2.2.2.2)
theorem JM(a:bQ)(b:fm a):Ko (P1 a):=
 aX .o call225 func225 (aj (EZ a b) al) al al λs=>(show _=sC bl aM a s.1 s.2.1 s.2.2.1 s.2.2.2.1 s.2.2.2.2.1 s.2.2.2.2.2 from by kernel_rfl).trans ((congrArg (λc=>sC c aM a s.1 s.2.1 s.2.2.1 s.2.2.2.1 s.2.2.2.2.1 s.2.2.2.2.2) aJ).trans ((congrArg (λd=>sC id d a s.1 s.2.1 s.2.2.1 s.2.2.2.1 s.2.2.2.2.1 s.2.2.2.2.2) aN).trans (by kernel_rfl)))
def JK(a:bQ):aq:=⟨214,[eO,(.fn 225 [] []),aS],bG,[(true,0,cE)],λs=>ra a s.2.2.2.2.2.2 s.1 s.2.1 s.2.2.1 s.2.2.2.1 s.2.2.2.2.1 s.2.2.2.2.2.1⟩
def EB(o:Ex->Ex)(q:Sh->(R:Type)->Option R->Option R)(p:Q2->Option Q3)(ops:Q1)(l:Q6)(a:aE)(g:yX->Option Q3):Int×Int×Int×Int×Int×Int×Int×(List Ex)->Option Q3:=λ⟨f,e,b,d,k,j,i,h⟩=> bif b==0 then (bN ops l f a e b d).bind λm=> bif !m.2 then some ((Ex.mk k j i h),f,e,b,d) else (bc l f a e b d).bind λn=> (lG p l (i64.wrap (f+1)) a e b d).bind λc=> g (c.2.1,c.2.2.1,c.2.2.2.1,c.2.2.2.2,m.1,0,n.2.2.2,([(Ex.mk k j i h),(o c.1)]:List Ex)) else some ((Ex.mk k j i h),f,e,b,d)
def nC(e:Ex->Ex)(h:Sh->(R:Type)->Option R->Option R)(g:Q2->Option Q3)(ops:Q1)(l:Q6)(at_:Int)(b:aE)(d:Int)(f:Int)(c:Int):Option Q3:= (lG g l at_ b d f c).bind λa=> ax (EB e h g ops l b) az (a.2.1,a.2.2.1,a.2.2.2.1,a.2.2.2.2,a.1.op,a.1.n,a.1.at_,a.1.l)
theorem ET(a:bQ)(b:fm a):Ko (JK a):=
 aX (.l ⟨[(true,0,cE),(true,6,IP),(true,7,LG)],[]⟩ .o) call214 func214 (aj (JM a b) (aj cV (aj cj al))) al al λs=>(show _=nC bl aM a s.2.2.2.2.2.2 s.1 s.2.1 s.2.2.1 s.2.2.2.1 s.2.2.2.2.1 s.2.2.2.2.2.1 from by kernel_rfl).trans ((congrArg (λc=>nC c aM a s.2.2.2.2.2.2 s.1 s.2.1 s.2.2.1 s.2.2.2.1 s.2.2.2.2.1 s.2.2.2.2.2.1) aJ).trans ((congrArg (λd=>nC id d a s.2.2.2.2.2.2 s.1 s.2.1 s.2.2.1 s.2.2.2.1 s.2.2.2.2.1 s.2.2.2.2.2.1) aN).trans (by kernel_rfl)))
def Uz(a:bQ):aq:=⟨224,[eO],bG,[(true,0,cE)],λs=>mS a s.1 s.2.1 s.2.2.1 s.2.2.2.1 s.2.2.2.2.1 s.2.2.2.2.2⟩
def uN(e:Ex->Ex)(h:Sh->(R:Type)->Option R->Option R)(g:Q2->Option Q3)(l:Q6)(at_:Int)(c:aE)(d:Int)(f:Int)(b:Int):Option Q3:= (ra g ([3,4]:y5) l at_ c d f b).bind λa=> some ((e a.1),a.2.1,a.2.2.1,a.2.2.2.1,a.2.2.2.2)
theorem KO(a:bQ)(b:fm a):Ko (Uz a):=
 aX .o call224 func224 (aj (ET a b) al) al al λs=>(show _=uN bl aM a s.1 s.2.1 s.2.2.1 s.2.2.2.1 s.2.2.2.2.1 s.2.2.2.2.2 from by kernel_rfl).trans ((congrArg (λc=>uN c aM a s.1 s.2.1 s.2.2.1 s.2.2.2.1 s.2.2.2.2.1 s.2.2.2.2.2) aJ).trans ((congrArg (λd=>uN id d a s.1 s.2.1 s.2.2.1 s.2.2.2.1 s.2.2.2.2.1 s.2.2.2.2.2) aN).trans (by kernel_rfl)))
def Sr(a:bQ):aq:=⟨223,[eO],bG,[(true,0,cE)],λs=>x9 a s.1 s.2.1 s.2.2.1 s.2.2.2.1 s.2.2.2.2.1 s.2.2.2.2.2⟩
def vl(e:Ex->Ex)(o:Sh->(R:Type)->Option R->Option R)(n:Q2->Option Q3)(l:Q6)(at_:Int)(b:aE)(g:Int)(i:Int)(d:Int):Option Q3:= (mS n l at_ b g i d).bind λa=> (bN ([7,8,9,10,11,12]:y5) l a.2.1 b a.2.2.1 a.2.2.2.1 a.2.2.2.2).bind λf=> ai (a.2.2.2.1 != 0) λm=> ai (!f.2) λk=> ai (m||k) λj=> bif j then ( some ((e a.1),a.2.1,a.2.2.1,a.2.2.2.1,a.2.2.2.2)) else ( (bc l a.2.1 b a.2.2.1 a.2.2.2.1 a.2.2.2.2).bind λh=> (mS n l (i64.wrap (a.2.1+1)) b a.2.2.1 a.2.2.2.1 a.2.2.2.2).bind λc=> some ((Ex.mk f.1 0 h.2.2.2 ([(e a.1),(e c.1)]:List Ex)),c.2.1,c.2.2.1,c.2.2.2.1,c.2.2.2.2))
theorem Lb(a:bQ)(b:fm a):Ko (Sr a):=
 aX .o call223 func223 (aj (KO a b) (aj cV (aj cj al))) al al λs=>(show _=vl bl aM a s.1 s.2.1 s.2.2.1 s.2.2.2.1 s.2.2.2.2.1 s.2.2.2.2.2 from by kernel_rfl).trans ((congrArg (λc=>vl c aM a s.1 s.2.1 s.2.2.1 s.2.2.2.1 s.2.2.2.2.1 s.2.2.2.2.2) aJ).trans ((congrArg (λd=>vl id d a s.1 s.2.1 s.2.2.1 s.2.2.2.1 s.2.2.2.2.1 s.2.2.2.2.2) aN).trans (by kernel_rfl)))
def Me(a:bQ)(b:SP):aq:=⟨222,[eO,Nz,(.fn 223 [] []),aS],bG,[(true,0,cE)],λs=>sd a b s.2.2.2.2.2.2 s.1 s.2.1 s.2.2.1 s.2.2.2.1 s.2.2.2.2.1 s.2.2.2.2.2.1⟩
def ph(h:Ex->Ex)(m:Sh->(R:Type)->Option R->Option R)(k:Q2->Option Q3)(j:Q2->Option Q3)(ops:Q1)(l:Q6)(at_:Int)(b:aE)(c:Int)(f:Int)(a:Int):Option Q3:= (bN ops l at_ b c f a).bind λg=> bif !g.2 then (x9 k l at_ b c f a).bind λe=> some ((h e.1),e.2.1,e.2.2.1,e.2.2.2.1,e.2.2.2.2) else (bc l at_ b c f a).bind λi=> (j (l,(i64.wrap (at_+1)),b,c,f,a)).bind λd=> some ((Ex.mk g.1 0 i.2.2.2 ([(h d.1)]:List Ex)),d.2.1,d.2.2.1,d.2.2.2.1,d.2.2.2.2)
theorem G0(a:bQ)(d:fm a)(b:SP)(f:OK7 b):Ko (Me a b):=
 aX (.c .o (.r [0,8] .o)) call222 func222 (aj cV (aj (Lb a d) (aj cj (aj f al)))) al al λs=>(show _=ph bl aM a b s.2.2.2.2.2.2 s.1 s.2.1 s.2.2.1 s.2.2.2.1 s.2.2.2.2.1 s.2.2.2.2.2.1 from by kernel_rfl).trans ((congrArg (λe=>ph e aM a b s.2.2.2.2.2.2 s.1 s.2.1 s.2.2.1 s.2.2.2.1 s.2.2.2.2.1 s.2.2.2.2.2.1) aJ).trans ((congrArg (λg=>ph id g a b s.2.2.2.2.2.2 s.1 s.2.1 s.2.2.1 s.2.2.2.1 s.2.2.2.2.1 s.2.2.2.2.2.1) aN).trans (by kernel_rfl)))
def UM(a:bQ)(b:SP):aq:=⟨221,[eO],bG,[(true,0,cE)],λs=>yp a b s.1 s.2.1 s.2.2.1 s.2.2.2.1 s.2.2.2.2.1 s.2.2.2.2.2⟩
def tV(e:Ex->Ex)(i:Sh->(R:Type)->Option R->Option R)(h:Q2->Option Q3)(g:Q2->Option Q3)(l:Q6)(at_:Int)(c:aE)(d:Int)(f:Int)(b:Int):Option Q3:= (sd h g ([15,20,21,22]:y5) l at_ c d f b).bind λa=> some ((e a.1),a.2.1,a.2.2.1,a.2.2.2.1,a.2.2.2.2)
theorem MA(a:bQ)(c:fm a)(b:SP)(e:OK7 b):Ko (UM a b):=
 aX .o call221 func221 (aj (G0 a c b e) al) al al λs=>(show _=tV bl aM a b s.1 s.2.1 s.2.2.1 s.2.2.2.1 s.2.2.2.2.1 s.2.2.2.2.2 from by kernel_rfl).trans ((congrArg (λd=>tV d aM a b s.1 s.2.1 s.2.2.1 s.2.2.2.1 s.2.2.2.2.1 s.2.2.2.2.2) aJ).trans ((congrArg (λf=>tV id f a b s.1 s.2.1 s.2.2.1 s.2.2.2.1 s.2.2.2.2.1 s.2.2.2.2.2) aN).trans (by kernel_rfl)))
def ux(a:bQ):aq:=⟨91,[eO,Nz],bG,[(true,0,cE)],λs=>og a s.1 s.2.1 s.2.2.1 s.2.2.2.1 s.2.2.2.2.1 s.2.2.2.2.2⟩
def kP(f:Ex->Ex)(j:Sh->(R:Type)->Option R->Option R)(i:Q2->Option Q3)(h:Q2->Option Q3)(l:Q6)(at_:Int)(d:aE)(a:Int)(g:Int)(c:Int):Option Q3:= bif decide (320<=a) then (bZ 9 l at_ d a g c).bind λe=> some ((f e.1),at_,a,e.2.1,e.2.2) else (yp i h l at_ d (i64.wrap (a+1)) g c).bind λb=> some ((f b.1),b.2.1,(i64.wrap (b.2.2.1-1)),b.2.2.2.1,b.2.2.2.2)
def tU(a:bQ):SP->SP:=λb s=>uU a b s.1 s.2.1 s.2.2.1 s.2.2.2.1 s.2.2.2.2.1 s.2.2.2.2.2
theorem AF(a:bQ)(c:fm a)(b:SP)(e:OK7 b):(iH (tU a b)).Ok X0.P X0.Γ:=
 aX .o call91 func91 (aj fv (aj (MA a c b e) al)) al al λs=>(show _=kP bl aM a b s.1 s.2.1 s.2.2.1 s.2.2.2.1 s.2.2.2.2.1 s.2.2.2.2.2 from by kernel_rfl).trans ((congrArg (λd=>kP d aM a b s.1 s.2.1 s.2.2.1 s.2.2.2.1 s.2.2.2.2.1 s.2.2.2.2.2) aJ).trans ((congrArg (λf=>kP id f a b s.1 s.2.1 s.2.2.1 s.2.2.2.1 s.2.2.2.2.1 s.2.2.2.2.2) aN).trans (by kernel_rfl)))
theorem Cz(a:bQ)(b:fm a):Ko (ux a):=(show ux a=iH (ax (tU a) az) by kernel_rfl)▸dO (X:=X0) (E:=iH) ⟨call91,λ_ _ h=>nomatch h⟩ (AF a b) az
def JO(a:bQ):aq:=⟨220,[eO],bG,[(true,0,cE)],λs=>pS a s.1 s.2.1 s.2.2.1 s.2.2.2.1 s.2.2.2.2.1 s.2.2.2.2.2⟩
def nw(e:Ex->Ex)(h:Sh->(R:Type)->Option R->Option R)(g:Q2->Option Q3)(l:Q6)(at_:Int)(c:aE)(d:Int)(f:Int)(b:Int):Option Q3:= (og g l at_ c d f b).bind λa=> some ((e a.1),a.2.1,a.2.2.1,a.2.2.2.1,a.2.2.2.2)
theorem ER(a:bQ)(b:fm a):Ko (JO a):=
 aX .o call220 func220 (aj (Cz a b) al) al al λs=>(show _=nw bl aM a s.1 s.2.1 s.2.2.1 s.2.2.2.1 s.2.2.2.2.1 s.2.2.2.2.2 from by kernel_rfl).trans ((congrArg (λc=>nw c aM a s.1 s.2.1 s.2.2.1 s.2.2.2.1 s.2.2.2.2.1 s.2.2.2.2.2) aJ).trans ((congrArg (λd=>nw id d a s.1 s.2.1 s.2.2.1 s.2.2.2.1 s.2.2.2.2.1 s.2.2.2.2.2) aN).trans (by kernel_rfl)))
def Ig(a:bQ)(b:UE):aq:=⟨137,[eO,(.fn 220 [] []),M8,aS],bG,[(true,0,cE)],λs=>ot a b s.2.2.2.2.2.2 s.1 s.2.1 s.2.2.1 s.2.2.2.1 s.2.2.2.2.1 s.2.2.2.2.2.1⟩
def ma(e:Ex->Ex)(p:Sh->(R:Type)->Option R->Option R)(o:Q2->Option Q3)(n:Q2->Option Q3)(ops:Q1)(l:Q6)(at_:Int)(b:aE)(g:Int)(i:Int)(d:Int):Option Q3:= (pS o l at_ b g i d).bind λa=> (bN ops l a.2.1 b a.2.2.1 a.2.2.2.1 a.2.2.2.2).bind λf=> ai (a.2.2.2.1 != 0) λm=> ai (!f.2) λk=> ai (m||k) λj=> bif j then ( some ((e a.1),a.2.1,a.2.2.1,a.2.2.2.1,a.2.2.2.2)) else ( (bc l a.2.1 b a.2.2.1 a.2.2.2.1 a.2.2.2.2).bind λh=> (n (l,(i64.wrap (a.2.1+1)),b,a.2.2.1,a.2.2.2.1,a.2.2.2.2)).bind λc=> some ((Ex.mk f.1 0 h.2.2.2 ([(e a.1),(e c.1)]:List Ex)),c.2.1,c.2.2.1,c.2.2.2.1,c.2.2.2.2))
theorem CH(a:bQ)(c:fm a)(b:UE)(e:OK8 b):Ko (Ig a b):=
 aX .o call137 func137 (aj (ER a c) (aj cV (aj cj (aj e al)))) al al λs=>(show _=ma bl aM a b s.2.2.2.2.2.2 s.1 s.2.1 s.2.2.1 s.2.2.2.1 s.2.2.2.2.1 s.2.2.2.2.2.1 from by kernel_rfl).trans ((congrArg (λd=>ma d aM a b s.2.2.2.2.2.2 s.1 s.2.1 s.2.2.1 s.2.2.2.1 s.2.2.2.2.1 s.2.2.2.2.2.1) aJ).trans ((congrArg (λf=>ma id f a b s.2.2.2.2.2.2 s.1 s.2.1 s.2.2.1 s.2.2.2.1 s.2.2.2.2.1 s.2.2.2.2.2.1) aN).trans (by kernel_rfl)))
def NO(a:bQ)(b:UE):aq:=⟨219,[eO],bG,[(true,0,cE)],λs=>uG a b s.1 s.2.1 s.2.2.1 s.2.2.2.1 s.2.2.2.2.1 s.2.2.2.2.2⟩
def rh(e:Ex->Ex)(i:Sh->(R:Type)->Option R->Option R)(h:Q2->Option Q3)(g:Q2->Option Q3)(l:Q6)(at_:Int)(c:aE)(d:Int)(f:Int)(b:Int):Option Q3:= (ot h g ([23,24]:y5) l at_ c d f b).bind λa=> some ((e a.1),a.2.1,a.2.2.1,a.2.2.2.1,a.2.2.2.2)
theorem IX(a:bQ)(c:fm a)(b:UE)(e:OK8 b):Ko (NO a b):=
 aX .o call219 func219 (aj (CH a c b e) al) al al λs=>(show _=rh bl aM a b s.1 s.2.1 s.2.2.1 s.2.2.2.1 s.2.2.2.2.1 s.2.2.2.2.2 from by kernel_rfl).trans ((congrArg (λd=>rh d aM a b s.1 s.2.1 s.2.2.1 s.2.2.2.1 s.2.2.2.2.1 s.2.2.2.2.2) aJ).trans ((congrArg (λf=>rh id f a b s.1 s.2.1 s.2.2.1 s.2.2.2.1 s.2.2.2.2.1 s.2.2.2.2.2) aN).trans (by kernel_rfl)))
def tL(a:bQ):aq:=⟨91,[eO,M8],bG,[(true,0,cE)],λs=>pb a s.1 s.2.1 s.2.2.1 s.2.2.2.1 s.2.2.2.2.1 s.2.2.2.2.2⟩
def kU(f:Ex->Ex)(j:Sh->(R:Type)->Option R->Option R)(i:Q2->Option Q3)(h:Q2->Option Q3)(l:Q6)(at_:Int)(d:aE)(a:Int)(g:Int)(c:Int):Option Q3:= bif decide (320<=a) then (bZ 9 l at_ d a g c).bind λe=> some ((f e.1),at_,a,e.2.1,e.2.2) else (uG i h l at_ d (i64.wrap (a+1)) g c).bind λb=> some ((f b.1),b.2.1,(i64.wrap (b.2.2.1-1)),b.2.2.2.1,b.2.2.2.2)
def uz(a:bQ):UE->UE:=λb s=>uD a b s.1 s.2.1 s.2.2.1 s.2.2.2.1 s.2.2.2.2.1 s.2.2.2.2.2
theorem Ax(a:bQ)(c:fm a)(b:UE)(e:OK8 b):(iG (uz a b)).Ok X0.P X0.Γ:=
 aX .o call91 func91 (aj fv (aj (IX a c b e) al)) al al λs=>(show _=kU bl aM a b s.1 s.2.1 s.2.2.1 s.2.2.2.1 s.2.2.2.2.1 s.2.2.2.2.2 from by kernel_rfl).trans ((congrArg (λd=>kU d aM a b s.1 s.2.1 s.2.2.1 s.2.2.2.1 s.2.2.2.2.1 s.2.2.2.2.2) aJ).trans ((congrArg (λf=>kU id f a b s.1 s.2.1 s.2.2.1 s.2.2.2.1 s.2.2.2.2.1 s.2.2.2.2.2) aN).trans (by kernel_rfl)))
theorem C0(a:bQ)(b:fm a):Ko (tL a):=(show tL a=iG (ax (uz a) az) by kernel_rfl)▸dO (X:=X0) (E:=iG) ⟨call91,λ_ _ h=>nomatch h⟩ (Ax a b) az
def G3(a:bQ):aq:=⟨218,[eO],bG,[(true,0,cE)],λs=>gR a s.1 s.2.1 s.2.2.1 s.2.2.2.1 s.2.2.2.2.1 s.2.2.2.2.2⟩
def lO(e:Ex->Ex)(h:Sh->(R:Type)->Option R->Option R)(g:Q2->Option Q3)(l:Q6)(at_:Int)(c:aE)(d:Int)(f:Int)(b:Int):Option Q3:= (pb g l at_ c d f b).bind λa=> some ((e a.1),a.2.1,a.2.2.1,a.2.2.2.1,a.2.2.2.2)
theorem B0(a:bQ)(b:fm a):Ko (G3 a):=
 aX .o call218 func218 (aj (C0 a b) al) al al λs=>(show _=lO bl aM a s.1 s.2.1 s.2.2.1 s.2.2.2.1 s.2.2.2.2.1 s.2.2.2.2.2 from by kernel_rfl).trans ((congrArg (λc=>lO c aM a s.1 s.2.1 s.2.2.1 s.2.2.2.1 s.2.2.2.2.1 s.2.2.2.2.2) aJ).trans ((congrArg (λd=>lO id d a s.1 s.2.1 s.2.2.1 s.2.2.2.1 s.2.2.2.2.1 s.2.2.2.2.2) aN).trans (by kernel_rfl)))
def JF(a:bQ):aq:=⟨214,[eO,(.fn 218 [] []),aS],bG,[(true,0,cE)],λs=>rm a s.2.2.2.2.2.2 s.1 s.2.1 s.2.2.1 s.2.2.2.1 s.2.2.2.2.1 s.2.2.2.2.2.1⟩
def Fz(o:Ex->Ex)(q:Sh->(R:Type)->Option R->Option R)(p:Q2->Option Q3)(ops:Q1)(l:Q6)(a:aE)(g:yX->Option Q3):Int×Int×Int×Int×Int×Int×Int×(List Ex)->Option Q3:=λ⟨f,e,b,d,k,j,i,h⟩=> bif b==0 then (bN ops l f a e b d).bind λm=> bif !m.2 then some ((Ex.mk k j i h),f,e,b,d) else (bc l f a e b d).bind λn=> (gR p l (i64.wrap (f+1)) a e b d).bind λc=> g (c.2.1,c.2.2.1,c.2.2.2.1,c.2.2.2.2,m.1,0,n.2.2.2,([(Ex.mk k j i h),(o c.1)]:List Ex)) else some ((Ex.mk k j i h),f,e,b,d)
def nA(e:Ex->Ex)(h:Sh->(R:Type)->Option R->Option R)(g:Q2->Option Q3)(ops:Q1)(l:Q6)(at_:Int)(b:aE)(d:Int)(f:Int)(c:Int):Option Q3:= (gR g l at_ b d f c).bind λa=> ax (Fz e h g ops l b) az (a.2.1,a.2.2.1,a.2.2.2.1,a.2.2.2.2,a.1.op,a.1.n,a.1.at_,a.1.l)
theorem Ek(a:bQ)(b:fm a):Ko (JF a):=
 aX (.l ⟨[(true,0,cE),(true,6,IP),(true,7,LG)],[]⟩ .o) call214 func214 (aj (B0 a b) (aj cV (aj cj al))) al al λs=>(show _=nA bl aM a s.2.2.2.2.2.2 s.1 s.2.1 s.2.2.1 s.2.2.2.1 s.2.2.2.2.1 s.2.2.2.2.2.1 from by kernel_rfl).trans ((congrArg (λc=>nA c aM a s.2.2.2.2.2.2 s.1 s.2.1 s.2.2.1 s.2.2.2.1 s.2.2.2.2.1 s.2.2.2.2.2.1) aJ).trans ((congrArg (λd=>nA id d a s.2.2.2.2.2.2 s.1 s.2.1 s.2.2.1 s.2.2.2.1 s.2.2.2.2.1 s.2.2.2.2.2.1) aN).trans (by kernel_rfl)))
def Uf(a:bQ):aq:=⟨215,[eO],bG,[(true,0,cE)],λs=>mV a s.1 s.2.1 s.2.2.1 s.2.2.2.1 s.2.2.2.2.1 s.2.2.2.2.2⟩
def uJ(e:Ex->Ex)(h:Sh->(R:Type)->Option R->Option R)(g:Q2->Option Q3)(l:Q6)(at_:Int)(c:aE)(d:Int)(f:Int)(b:Int):Option Q3:= (rm g ([16]:y5) l at_ c d f b).bind λa=> some ((e a.1),a.2.1,a.2.2.1,a.2.2.2.1,a.2.2.2.2)
theorem K5(a:bQ)(b:fm a):Ko (Uf a):=
 aX .o call215 func215 (aj (Ek a b) al) al al λs=>(show _=uJ bl aM a s.1 s.2.1 s.2.2.1 s.2.2.2.1 s.2.2.2.2.1 s.2.2.2.2.2 from by kernel_rfl).trans ((congrArg (λc=>uJ c aM a s.1 s.2.1 s.2.2.1 s.2.2.2.1 s.2.2.2.2.1 s.2.2.2.2.2) aJ).trans ((congrArg (λd=>uJ id d a s.1 s.2.1 s.2.2.1 s.2.2.2.1 s.2.2.2.2.1 s.2.2.2.2.2) aN).trans (by kernel_rfl)))
def Rj(a:bQ):aq:=⟨214,[eO,(.fn 215 [] []),aS],bG,[(true,0,cE)],λs=>wq a s.2.2.2.2.2.2 s.1 s.2.1 s.2.2.1 s.2.2.2.1 s.2.2.2.2.1 s.2.2.2.2.2.1⟩
def Ki(o:Ex->Ex)(q:Sh->(R:Type)->Option R->Option R)(p:Q2->Option Q3)(ops:Q1)(l:Q6)(a:aE)(g:yX->Option Q3):Int×Int×Int×Int×Int×Int×Int×(List Ex)->Option Q3:=λ⟨f,e,b,d,k,j,i,h⟩=> bif b==0 then (bN ops l f a e b d).bind λm=> bif !m.2 then some ((Ex.mk k j i h),f,e,b,d) else (bc l f a e b d).bind λn=> (mV p l (i64.wrap (f+1)) a e b d).bind λc=> g (c.2.1,c.2.2.1,c.2.2.2.1,c.2.2.2.2,m.1,0,n.2.2.2,([(Ex.mk k j i h),(o c.1)]:List Ex)) else some ((Ex.mk k j i h),f,e,b,d)
def sM(e:Ex->Ex)(h:Sh->(R:Type)->Option R->Option R)(g:Q2->Option Q3)(ops:Q1)(l:Q6)(at_:Int)(b:aE)(d:Int)(f:Int)(c:Int):Option Q3:= (mV g l at_ b d f c).bind λa=> ax (Ki e h g ops l b) az (a.2.1,a.2.2.1,a.2.2.2.1,a.2.2.2.2,a.1.op,a.1.n,a.1.at_,a.1.l)
theorem JE(a:bQ)(b:fm a):Ko (Rj a):=
 aX (.l ⟨[(true,0,cE),(true,6,IP),(true,7,LG)],[]⟩ .o) call214 func214 (aj (K5 a b) (aj cV (aj cj al))) al al λs=>(show _=sM bl aM a s.2.2.2.2.2.2 s.1 s.2.1 s.2.2.1 s.2.2.2.1 s.2.2.2.2.1 s.2.2.2.2.2.1 from by kernel_rfl).trans ((congrArg (λc=>sM c aM a s.2.2.2.2.2.2 s.1 s.2.1 s.2.2.1 s.2.2.2.1 s.2.2.2.2.1 s.2.2.2.2.2.1) aJ).trans ((congrArg (λd=>sM id d a s.2.2.2.2.2.2 s.1 s.2.1 s.2.2.1 s.2.2.2.1 s.2.2.2.2.1 s.2.2.2.2.2.1) aN).trans (by kernel_rfl)))
def Ww(a:bQ):aq:=⟨206,[eO],bG,[(true,0,cE)],λs=>Ce a s.1 s.2.1 s.2.2.1 s.2.2.2.1 s.2.2.2.2.1 s.2.2.2.2.2⟩
def wz(e:Ex->Ex)(h:Sh->(R:Type)->Option R->Option R)(g:Q2->Option Q3)(l:Q6)(at_:Int)(c:aE)(d:Int)(f:Int)(b:Int):Option Q3:= (wq g ([17]:y5) l at_ c d f b).bind λa=> some ((e a.1),a.2.1,a.2.2.1,a.2.2.2.1,a.2.2.2.2)
theorem NU(a:bQ)(b:fm a):Ko (Ww a):=
 aX .o call206 func206 (aj (JE a b) al) al al λs=>(show _=wz bl aM a s.1 s.2.1 s.2.2.1 s.2.2.2.1 s.2.2.2.2.1 s.2.2.2.2.2 from by kernel_rfl).trans ((congrArg (λc=>wz c aM a s.1 s.2.1 s.2.2.1 s.2.2.2.1 s.2.2.2.2.1 s.2.2.2.2.2) aJ).trans ((congrArg (λd=>wz id d a s.1 s.2.1 s.2.2.1 s.2.2.2.1 s.2.2.2.2.1 s.2.2.2.2.2) aN).trans (by kernel_rfl)))
def IU(a:bQ)(b:Uw):aq:=⟨137,[eO,(.fn 206 [] []),M6,aS],bG,[(true,0,cE)],λs=>oW a b s.2.2.2.2.2.2 s.1 s.2.1 s.2.2.1 s.2.2.2.1 s.2.2.2.2.1 s.2.2.2.2.2.1⟩
def mI(e:Ex->Ex)(p:Sh->(R:Type)->Option R->Option R)(o:Q2->Option Q3)(n:Q2->Option Q3)(ops:Q1)(l:Q6)(at_:Int)(b:aE)(g:Int)(i:Int)(d:Int):Option Q3:= (Ce o l at_ b g i d).bind λa=> (bN ops l a.2.1 b a.2.2.1 a.2.2.2.1 a.2.2.2.2).bind λf=> ai (a.2.2.2.1 != 0) λm=> ai (!f.2) λk=> ai (m||k) λj=> bif j then ( some ((e a.1),a.2.1,a.2.2.1,a.2.2.2.1,a.2.2.2.2)) else ( (bc l a.2.1 b a.2.2.1 a.2.2.2.1 a.2.2.2.2).bind λh=> (n (l,(i64.wrap (a.2.1+1)),b,a.2.2.1,a.2.2.2.1,a.2.2.2.2)).bind λc=> some ((Ex.mk f.1 0 h.2.2.2 ([(e a.1),(e c.1)]:List Ex)),c.2.1,c.2.2.1,c.2.2.2.1,c.2.2.2.2))
theorem CD(a:bQ)(c:fm a)(b:Uw)(e:OK9 b):Ko (IU a b):=
 aX .o call137 func137 (aj (NU a c) (aj cV (aj cj (aj e al)))) al al λs=>(show _=mI bl aM a b s.2.2.2.2.2.2 s.1 s.2.1 s.2.2.1 s.2.2.2.1 s.2.2.2.2.1 s.2.2.2.2.2.1 from by kernel_rfl).trans ((congrArg (λd=>mI d aM a b s.2.2.2.2.2.2 s.1 s.2.1 s.2.2.1 s.2.2.2.1 s.2.2.2.2.1 s.2.2.2.2.2.1) aJ).trans ((congrArg (λf=>mI id f a b s.2.2.2.2.2.2 s.1 s.2.1 s.2.2.1 s.2.2.2.1 s.2.2.2.2.1 s.2.2.2.2.2.1) aN).trans (by kernel_rfl)))
def UA(a:bQ)(b:Uw):aq:=⟨184,[eO],bG,[(true,0,cE)],λs=>yx a b s.1 s.2.1 s.2.2.1 s.2.2.2.1 s.2.2.2.2.1 s.2.2.2.2.2⟩
def uq(e:Ex->Ex)(i:Sh->(R:Type)->Option R->Option R)(h:Q2->Option Q3)(g:Q2->Option Q3)(l:Q6)(at_:Int)(c:aE)(d:Int)(f:Int)(b:Int):Option Q3:= (oW h g ([18]:y5) l at_ c d f b).bind λa=> some ((e a.1),a.2.1,a.2.2.1,a.2.2.2.1,a.2.2.2.2)
theorem KD(a:bQ)(c:fm a)(b:Uw)(e:OK9 b):Ko (UA a b):=
 aX .o call184 func184 (aj (CD a c b e) al) al al λs=>(show _=uq bl aM a b s.1 s.2.1 s.2.2.1 s.2.2.2.1 s.2.2.2.2.1 s.2.2.2.2.2 from by kernel_rfl).trans ((congrArg (λd=>uq d aM a b s.1 s.2.1 s.2.2.1 s.2.2.2.1 s.2.2.2.2.1 s.2.2.2.2.2) aJ).trans ((congrArg (λf=>uq id f a b s.1 s.2.1 s.2.2.1 s.2.2.2.1 s.2.2.2.2.1 s.2.2.2.2.2) aN).trans (by kernel_rfl)))
def uf(a:bQ):aq:=⟨91,[eO,M6],bG,[(true,0,cE)],λs=>oR a s.1 s.2.1 s.2.2.1 s.2.2.2.1 s.2.2.2.2.1 s.2.2.2.2.2⟩
def kW(f:Ex->Ex)(j:Sh->(R:Type)->Option R->Option R)(i:Q2->Option Q3)(h:Q2->Option Q3)(l:Q6)(at_:Int)(d:aE)(a:Int)(g:Int)(c:Int):Option Q3:= bif decide (320<=a) then (bZ 9 l at_ d a g c).bind λe=> some ((f e.1),at_,a,e.2.1,e.2.2) else (yx i h l at_ d (i64.wrap (a+1)) g c).bind λb=> some ((f b.1),b.2.1,(i64.wrap (b.2.2.1-1)),b.2.2.2.1,b.2.2.2.2)
def tR(a:bQ):Uw->Uw:=λb s=>ue a b s.1 s.2.1 s.2.2.1 s.2.2.2.1 s.2.2.2.2.1 s.2.2.2.2.2
theorem AA(a:bQ)(c:fm a)(b:Uw)(e:OK9 b):(iL (tR a b)).Ok X0.P X0.Γ:=
 aX .o call91 func91 (aj fv (aj (KD a c b e) al)) al al λs=>(show _=kW bl aM a b s.1 s.2.1 s.2.2.1 s.2.2.2.1 s.2.2.2.2.1 s.2.2.2.2.2 from by kernel_rfl).trans ((congrArg (λd=>kW d aM a b s.1 s.2.1 s.2.2.1 s.2.2.2.1 s.2.2.2.2.1 s.2.2.2.2.2) aJ).trans ((congrArg (λf=>kW id f a b s.1 s.2.1 s.2.2.1 s.2.2.2.1 s.2.2.2.2.1 s.2.2.2.2.2) aN).trans (by kernel_rfl)))
theorem CJ(a:bQ)(b:fm a):Ko (uf a):=(show uf a=iL (ax (tR a) az) by kernel_rfl)▸dO (X:=X0) (E:=iL) ⟨call91,λ_ _ h=>nomatch h⟩ (AA a b) az
def JP(a:bQ):aq:=⟨138,[eO],bG,[(true,0,cE)],λs=>ru a s.1 s.2.1 s.2.2.1 s.2.2.2.1 s.2.2.2.2.1 s.2.2.2.2.2⟩
def nz(e:Ex->Ex)(h:Sh->(R:Type)->Option R->Option R)(g:Q2->Option Q3)(l:Q6)(at_:Int)(c:aE)(d:Int)(f:Int)(b:Int):Option Q3:= (oR g l at_ c d f b).bind λa=> some ((e a.1),a.2.1,a.2.2.1,a.2.2.2.1,a.2.2.2.2)
theorem EA(a:bQ)(b:fm a):Ko (JP a):=
 aX .o call138 func138 (aj (CJ a b) al) al al λs=>(show _=nz bl aM a s.1 s.2.1 s.2.2.1 s.2.2.2.1 s.2.2.2.2.1 s.2.2.2.2.2 from by kernel_rfl).trans ((congrArg (λc=>nz c aM a s.1 s.2.1 s.2.2.1 s.2.2.2.1 s.2.2.2.2.1 s.2.2.2.2.2) aJ).trans ((congrArg (λd=>nz id d a s.1 s.2.1 s.2.2.1 s.2.2.2.1 s.2.2.2.2.1 s.2.2.2.2.2) aN).trans (by kernel_rfl)))
def Oa(a:bQ):aq:=⟨137,[eO,(.fn 138 [] []),(.fn 92 [] []),aS],bG,[(true,0,cE)],λs=>uy a s.2.2.2.2.2.2 s.1 s.2.1 s.2.2.1 s.2.2.2.1 s.2.2.2.2.1 s.2.2.2.2.2.1⟩
def rn(e:Ex->Ex)(o:Sh->(R:Type)->Option R->Option R)(n:Q2->Option Q3)(ops:Q1)(l:Q6)(at_:Int)(b:aE)(g:Int)(i:Int)(d:Int):Option Q3:= (ru n l at_ b g i d).bind λa=> (bN ops l a.2.1 b a.2.2.1 a.2.2.2.1 a.2.2.2.2).bind λf=> ai (a.2.2.2.1 != 0) λm=> ai (!f.2) λk=> ai (m||k) λj=> bif j then ( some ((e a.1),a.2.1,a.2.2.1,a.2.2.2.1,a.2.2.2.2)) else ( (bc l a.2.1 b a.2.2.1 a.2.2.2.1 a.2.2.2.2).bind λh=> (n (l,(i64.wrap (a.2.1+1)),b,a.2.2.1,a.2.2.2.1,a.2.2.2.2)).bind λc=> some ((Ex.mk f.1 0 h.2.2.2 ([(e a.1),(e c.1)]:List Ex)),c.2.1,c.2.2.1,c.2.2.2.1,c.2.2.2.2))
theorem IB(a:bQ)(b:fm a):Ko (Oa a):=
 aX .o call137 func137 (aj (EA a b) (aj cV (aj cj (aj b al)))) al al λs=>(show _=rn bl aM a s.2.2.2.2.2.2 s.1 s.2.1 s.2.2.1 s.2.2.2.1 s.2.2.2.2.1 s.2.2.2.2.2.1 from by kernel_rfl).trans ((congrArg (λc=>rn c aM a s.2.2.2.2.2.2 s.1 s.2.1 s.2.2.1 s.2.2.2.1 s.2.2.2.2.1 s.2.2.2.2.2.1) aJ).trans ((congrArg (λd=>rn id d a s.2.2.2.2.2.2 s.1 s.2.1 s.2.2.1 s.2.2.2.1 s.2.2.2.2.1 s.2.2.2.2.2.1) aN).trans (by kernel_rfl)))
def S4(a:bQ):aq:=⟨92,[eO],bG,[(true,0,cE)],λs=>xR a s.1 s.2.1 s.2.2.1 s.2.2.2.1 s.2.2.2.2.1 s.2.2.2.2.2⟩
def uY(e:Ex->Ex)(h:Sh->(R:Type)->Option R->Option R)(g:Q2->Option Q3)(l:Q6)(at_:Int)(c:aE)(d:Int)(f:Int)(b:Int):Option Q3:= (uy g ([19]:y5) l at_ c d f b).bind λa=> some ((e a.1),a.2.1,a.2.2.1,a.2.2.2.1,a.2.2.2.2)
theorem LJ(a:bQ)(b:fm a):Ko (S4 a):=
 aX .o call92 func92 (aj (IB a b) al) al al λs=>(show _=uY bl aM a s.1 s.2.1 s.2.2.1 s.2.2.2.1 s.2.2.2.2.1 s.2.2.2.2.2 from by kernel_rfl).trans ((congrArg (λc=>uY c aM a s.1 s.2.1 s.2.2.1 s.2.2.2.1 s.2.2.2.2.1 s.2.2.2.2.2) aJ).trans ((congrArg (λd=>uY id d a s.1 s.2.1 s.2.2.1 s.2.2.2.1 s.2.2.2.2.1 s.2.2.2.2.2) aN).trans (by kernel_rfl)))
def yL:aq:=⟨91,[eO,(.fn 92 [] [])],bG,[(true,0,cE)],U6 tP⟩
def nK(f:Ex->Ex)(i:Sh->(R:Type)->Option R->Option R)(h:Q2->Option Q3)(l:Q6)(at_:Int)(d:aE)(a:Int)(g:Int)(c:Int):Option Q3:= bif decide (320<=a) then (bZ 9 l at_ d a g c).bind λe=> some ((f e.1),at_,a,e.2.1,e.2.2) else (xR h l at_ d (i64.wrap (a+1)) g c).bind λb=> some ((f b.1),b.2.1,(i64.wrap (b.2.2.1-1)),b.2.2.2.1,b.2.2.2.2)
def yM:bQ->bQ:=λa s=>yD a s.1 s.2.1 s.2.2.1 s.2.2.2.1 s.2.2.2.2.1 s.2.2.2.2.2
theorem FA(a:bQ)(b:fm a):(ku (yM a)).Ok X0.P X0.Γ:=
 aX .o call91 func91 (aj fv (aj (LJ a b) al)) al al λs=>(show _=nK bl aM a s.1 s.2.1 s.2.2.1 s.2.2.2.1 s.2.2.2.2.1 s.2.2.2.2.2 from by kernel_rfl).trans ((congrArg (λc=>nK c aM a s.1 s.2.1 s.2.2.1 s.2.2.2.1 s.2.2.2.2.1 s.2.2.2.2.2) aJ).trans ((congrArg (λd=>nK id d a s.1 s.2.1 s.2.2.1 s.2.2.2.1 s.2.2.2.2.1 s.2.2.2.2.2) aN).trans (by kernel_rfl)))
theorem H9:Ko yL:=(show yL=ku (ax (yM) az) by kernel_rfl)▸dO (X:=X0) (E:=ku) ⟨call91,λ_ _ h=>nomatch h⟩ (FA) az
def abw:aq:=⟨58,[(.sli nL),an,(.sli .s)],(.cB [bG,an,an,an]),[],U3 Ij⟩
def A1(c:Ex->Ex)(d:Sh->(R:Type)->Option R->Option R)(l:Q6)(at_:Int)(b:aE):Option PW:= (tP l at_ b 0 0 0).bind λa=> bif a.2.2.2.1 != 0 then some ((Ex.mk 0 0 0 []),0,a.2.2.2.1,a.2.2.2.2) else some ((c a.1),a.2.1,0,0)
theorem S6:Ko abw:=
 aX (.c (.r [6] .o) (.r [6] .o)) call58 func58 (aj H9 al) al al λs=>(show _=A1 bl aM s.1 s.2.1 s.2.2 from by kernel_rfl).trans ((congrArg (λa=>A1 a aM s.1 s.2.1 s.2.2) aJ).trans ((congrArg (λb=>A1 id b s.1 s.2.1 s.2.2) aN).trans (by kernel_rfl)))
def ai4:aq:=⟨112,[fJ],.bool,[],λs=>pF s⟩
def Kl(a:Ex->Ex)(g:Sh->(R:Type)->Option R->Option R)(e:Ex):xb:= (kr (a e)).bind λd=> ai (d.2.1==0) λf=> ai (d.1==2) λc=> ai (f&&c) λb=> some b
theorem Cm:Ko ai4:=
 aX .o call112 func112 (aj pk al) al al λs=>(show _=Kl bl aM s from by kernel_rfl).trans ((congrArg (λa=>Kl a aM s) aJ).trans ((congrArg (λb=>Kl id b s) aN).trans (by kernel_rfl)))
def Zg(a:ID):aq:=⟨185,[an,.bool,Xw,(.bx 261 0 true [B8])],fJ,[(true,3,aan),(true,1003,B8)],λs=>bB a s.1 s.2.1 s.2.2.1 s.2.2.2.1 s.2.2.2.2.1 s.2.2.2.2.2.1 s.2.2.2.2.2.2⟩
def yn(b:Ex->Ex)(e:Sh->(R:Type)->Option R->Option R)(d:O0->Option ji)(i:Int)(not:Bool)(f:Int)(h:Int)(g:Int)(L:(List Ex))(x:Int):Option ji:= (idx L i).bind λc=> (d ((b c),not,x)).bind λa=> some ((b a.1),a.2)
theorem Bn(a:ID)(b:amQ a):Ko (Zg a):=
 aX (.r [3,6] .o) call185 func185 (aj b al) al al λs=>(show _=yn bl aM a s.1 s.2.1 s.2.2.1 s.2.2.2.1 s.2.2.2.2.1 s.2.2.2.2.2.1 s.2.2.2.2.2.2 from by kernel_rfl).trans ((congrArg (λc=>yn c aM a s.1 s.2.1 s.2.2.1 s.2.2.2.1 s.2.2.2.2.1 s.2.2.2.2.2.1 s.2.2.2.2.2.2) aJ).trans ((congrArg (λd=>yn id d a s.1 s.2.1 s.2.2.1 s.2.2.2.1 s.2.2.2.2.1 s.2.2.2.2.2.1 s.2.2.2.2.2.2) aN).trans (by kernel_rfl)))
def Z6:aq:=⟨186,[an,an,fJ,fJ,Nd,Xw],bG,[],U9 dW⟩
def Qy(d:Ex->Ex)(e:Sh->(R:Type)->Option R->Option R)(a:Ex)(b:Ex)(At:Int)(c:Int):Option Ex:= some (Ex.mk c 0 At ([(d a),(d b)]:List Ex))
def yr(f:Ex->Ex)(g:Sh->(R:Type)->Option R->Option R)(op:Int)(d:Int)(a:Ex)(b:Ex)(x:Bool)(h:Int)(i:Int)(At:Int)(j:(List Ex)):Option Ex:= ai (λ(e:Int)=>Qy f g a b At e) λc=> bif x then ( c d) else ( c op)
theorem Qk:Ko Z6:=
 aX (.s (.j ⟨[(false,0,an)],[]⟩ .o .o)) call186 func186 al al al λs=>(show _=yr bl aM s.1 s.2.1 s.2.2.1 s.2.2.2.1 s.2.2.2.2.1 s.2.2.2.2.2.1 s.2.2.2.2.2.2.1 s.2.2.2.2.2.2.2.1 s.2.2.2.2.2.2.2.2 from by kernel_rfl).trans ((congrArg (λa=>yr a aM s.1 s.2.1 s.2.2.1 s.2.2.2.1 s.2.2.2.2.1 s.2.2.2.2.2.1 s.2.2.2.2.2.2.1 s.2.2.2.2.2.2.2.1 s.2.2.2.2.2.2.2.2) aJ).trans ((congrArg (λb=>yr id b s.1 s.2.1 s.2.2.1 s.2.2.2.1 s.2.2.2.2.1 s.2.2.2.2.2.1 s.2.2.2.2.2.2.1 s.2.2.2.2.2.2.2.1 s.2.2.2.2.2.2.2.2) aN).trans (by kernel_rfl)))
def aad(a:ID):aq:=⟨188,[.bool,.bool,Xw,(.bx 304 0 true [(.fn 185 [] [(.ptr 0 0),(.bx 261 0 true [B8])])])],bG,[(true,3,(.bx 304 0 true [.same])),(true,1003,aan),(true,1004,B8)],λs=>rH a s.1 s.2.1 s.2.2.1 s.2.2.2.1 s.2.2.2.2.1 s.2.2.2.2.2.1 s.2.2.2.2.2.2⟩
def yy(d:Ex->Ex)(g:Sh->(R:Type)->Option R->Option R)(e:O0->Option ji)(x:Bool)(y:Bool)(f:Int)(N:Int)(At:Int)(L:(List Ex))(c:Int):Option ji:= (bB e 0 x f N At L c).bind λb=> (bB e 1 y f N At L b.2).bind λa=> some ((Ex.mk 16 0 At ([(d b.1),(d a.1)]:List Ex)),a.2)
theorem Ri(a:ID)(b:amQ a):Ko (aad a):=
 aX (.r [3,6] .o) call188 func188 (aj (Bn a b) al) al al λs=>(show _=yy bl aM a s.1 s.2.1 s.2.2.1 s.2.2.2.1 s.2.2.2.2.1 s.2.2.2.2.2.1 s.2.2.2.2.2.2 from by kernel_rfl).trans ((congrArg (λc=>yy c aM a s.1 s.2.1 s.2.2.1 s.2.2.2.1 s.2.2.2.2.1 s.2.2.2.2.2.1 s.2.2.2.2.2.2) aJ).trans ((congrArg (λd=>yy id d a s.1 s.2.1 s.2.2.1 s.2.2.2.1 s.2.2.2.2.1 s.2.2.2.2.2.1 s.2.2.2.2.2.2) aN).trans (by kernel_rfl)))
def aac:aq:=⟨187,[an,an,(.bx 261 0 true [B8]),Nd,Xw],bG,[(true,2,aan),(true,1001,B8)],λs=>rG s.1 s.2.1 s.2.2.2.1 s.2.2.2.2.1 s.2.2.2.2.2.1 s.2.2.2.2.2.2.1 s.2.2.2.2.2.2.2 s.2.2.1⟩
theorem QF:Ko aac:=
 aw .o call187 func187 al
def VM:aq:=⟨139,[fJ,.bool,B8],fJ,[(true,2,B8)],U3 RQ⟩
def Zw(b:Ex->Ex)(i:Sh->(R:Type)->Option R->Option R)(h:O0->Option ji)(e:Ex)(not:Bool)(c:Int)(a:Bool):Option ji:= (bB h 0 a e.op e.n e.at_ e.l (i64.wrap (c-1))).bind λf=> (bB h 1 not e.op e.n e.at_ e.l f.2).bind λd=> (dW 17 16 (b f.1) (b d.1) not e.op e.n e.at_ e.l).bind λg=> some ((b g),d.2)
def AY(a:Ex->Ex)(C:Sh->(R:Type)->Option R->Option R)(c:O0->Option ji)(e:Ex)(not:Bool)(b:Int):Option ji:= bif decide ((i64.wrap (b-1))<0) then some ((Ex.mk 0 0 0 []),(i64.wrap (b-1))) else (pF (a e)).bind λB=> bif B then ( bif not then ( some ((Ex.mk 15 0 e.at_ ([(a e)]:List Ex)),(i64.wrap (b-1)))) else ( some ((a e),(i64.wrap (b-1))))) else ( ai (λ(z:Bool)=>Zw a C c e not b z) λo=> bif e.op==15 then (bB c 0 (!not) e.op e.n e.at_ e.l (i64.wrap ((i64.wrap (b-1))+1))).bind λu=> some ((a u.1),u.2) else bif e.op==18 then o (!not) else bif e.op==17 then o not else bif e.op==16 then (bB c 0 not e.op e.n e.at_ e.l (i64.wrap (b-1))).bind λt=> (bB c 1 not e.op e.n e.at_ e.l t.2).bind λs=> (dW 16 17 (a t.1) (a s.1) not e.op e.n e.at_ e.l).bind λA=> some ((a A),s.2) else bif e.op==19 then (rH c false not e.op e.n e.at_ e.l (i64.wrap ((i64.wrap (b-1))-2))).bind λr=> (rH c true (!not) e.op e.n e.at_ e.l r.2).bind λq=> some ((Ex.mk 17 0 e.at_ ([(a r.1),(a q.1)]:List Ex)),q.2) else bif e.op==20 then (bB c 0 not e.op e.n e.at_ e.l (i64.wrap (b-1))).bind λp=> some ((Ex.mk 20 0 e.at_ ([(a p.1)]:List Ex)),p.2) else bif e.op==21 then (rG 13 14 not e.op e.n e.at_ e.l (i64.wrap (b-1))).bind λm=> (bB c 0 not e.op e.n e.at_ e.l m.2).bind λk=> (dW 23 24 (a m.1) (a k.1) not e.op e.n e.at_ e.l).bind λy=> some ((a y),k.2) else bif e.op==22 then (rG 14 13 not e.op e.n e.at_ e.l (i64.wrap (b-1))).bind λj=> (bB c 0 not e.op e.n e.at_ e.l j.2).bind λi=> (dW 24 23 (a j.1) (a i.1) not e.op e.n e.at_ e.l).bind λx=> some ((a x),i.2) else bif e.op==23 then (bB c 0 not e.op e.n e.at_ e.l (i64.wrap (b-1))).bind λh=> (bB c 1 not e.op e.n e.at_ e.l h.2).bind λg=> (dW 23 24 (a h.1) (a g.1) not e.op e.n e.at_ e.l).bind λw=> some ((a w),g.2) else (bB c 0 not e.op e.n e.at_ e.l (i64.wrap (b-1))).bind λf=> (bB c 1 not e.op e.n e.at_ e.l f.2).bind λd=> (dW 24 23 (a f.1) (a d.1) not e.op e.n e.at_ e.l).bind λv=> some ((a v),d.2))
def UD:ID->ID:=λa s=>VJ a s.1 s.2.1 s.2.2
theorem U1(a:ID)(b:amQ a):(xf (UD a)).Ok X0.P X0.Γ:=
 aX (.c .o (.c .o (.s (.s (.s (.s (.s (.s (.s (.s (.s (.s (.s (.s (.j ⟨[(true,6,IP),(true,7,(.bx 304 0 true [.same])),(true,5,aan),(true,2,(.bx 3 0 true [.same])),(false,10,.bool)],[]⟩ (.c .o (.c .o (.c .o (.c (.r [9,6] .o) (.c (.r [11,6] .o) (.c (.r [7,6] .o) (.c (.r [9,6] .o) (.c (.r [9,6] .o) (.c (.r [7,4,6] .o) (.r [7,4,6] .o)))))))))) (.r [7,4,6] .o)))))))))))))))) call139 func139 (aj Cm (aj (Bn a b) (aj Qk (aj (Ri a b) (aj QF al))))) al al λs=>(show _=AY bl aM a s.1 s.2.1 s.2.2 from by kernel_rfl).trans ((congrArg (λd=>AY d aM a s.1 s.2.1 s.2.2) aJ).trans ((congrArg (λe=>AY id e a s.1 s.2.1 s.2.2) aN).trans (by kernel_rfl)))
theorem ZE:Ko VM:=(show VM=xf (ax (UD) az) by kernel_rfl)▸dO (X:=X0) (E:=xf) ⟨call139,λ_ _ h=>nomatch h⟩ (U1) az
def ah3:aq:=⟨93,[fJ,.bool],(.cB [fJ,an]),[],U2 QY⟩
def Ho(b:Ex->Ex)(c:Sh->(R:Type)->Option R->Option R)(e:Ex)(not:Bool):Option ji:= (RQ (b e) not 24).bind λa=> bif decide (a.2<0) then some ((Ex.mk 0 0 0 []),9) else some ((b a.1),0)
theorem Z8:Ko ah3:=
 aX .o call93 func93 (aj ZE al) al al λs=>(show _=Ho bl aM s.1 s.2 from by kernel_rfl).trans ((congrArg (λa=>Ho a aM s.1 s.2) aJ).trans ((congrArg (λb=>Ho id b s.1 s.2) aN).trans (by kernel_rfl)))
def akc:aq:=⟨60,[fJ],(.cB [fJ,an]),[],λs=>Gr s⟩
def Lq(a:Ex->Ex)(c:Sh->(R:Type)->Option R->Option R)(e:Ex):Option ji:= (QY (a e) true).bind λb=> some ((a b.1),b.2)
theorem ME:Ko akc:=
 aX .o call60 func60 (aj Z8 al) al al λs=>(show _=Lq bl aM s from by kernel_rfl).trans ((congrArg (λa=>Lq a aM s) aJ).trans ((congrArg (λb=>Lq id b s) aN).trans (by kernel_rfl)))
def Uo:aq:=⟨43,[.str,(.sli .s)],(.cB [fJ,an,an]),[],U2 Jg⟩
def uk(d:Ex->Ex)(j:Sh->(R:Type)->Option R->Option R)(f:aB)(c:aE):Option (Ex×Int×Int):= (Ar f).bind λe=> bif e.2.1 != 0 then some ((Ex.mk 0 0 0 []),e.2.1,e.2.2) else (Ij e.1 0 c).bind λa=> bif a.2.2.1 != 0 then some ((Ex.mk 0 0 0 []),a.2.2.1,a.2.2.2) else (idx e.1 a.2.1).bind λi=> bif i.1 != 4 then (idx e.1 a.2.1).bind λh=> some ((Ex.mk 0 0 0 []),2,h.2.2.2) else (kr (d a.1)).bind λb=> bif b.2.1 != 0 then some ((Ex.mk 0 0 0 []),b.2.1,b.2.2) else bif b.1==1 then some ((Ex.mk 0 0 0 []),4,a.1.at_) else (Gr (d a.1)).bind λg=> bif g.2 != 0 then some ((Ex.mk 0 0 0 []),g.2,a.1.at_) else some ((d a.1),0,0)
theorem L9:Ko Uo:=
 aX (.c .o (.c .o (.c (.r [4] .o) (.c .o (.c (.r [4] .o) (.c (.r [4] .o) .o)))))) call43 func43 (aj DC (aj S6 (aj pk (aj ME al)))) al al λs=>(show _=uk bl aM s.1 s.2 from by kernel_rfl).trans ((congrArg (λa=>uk a aM s.1 s.2) aJ).trans ((congrArg (λb=>uk id b s.1 s.2) aN).trans (by kernel_rfl)))
def J5:aq:=⟨42,[ag8,an,an,aS],.bool,[(true,0,aiz)],λs=>iZ (d8 (d8 s)).2.2.2.2.2.2.2.1 (d8 (d8 (d8 s))).1 (d8 (d8 (d8 s))).2 s.1 s.2.1 s.2.2.1 s.2.2.2.1 s.2.2.2.2.1 s.2.2.2.2.2.1 s.2.2.2.2.2.2.1 s.2.2.2.2.2.2.2.1 s.2.2.2.2.2.2.2.2.1 (d8 s).2.1 (d8 s).2.2.1 (d8 s).2.2.2.1 (d8 s).2.2.2.2.1 (d8 s).2.2.2.2.2.1 (d8 s).2.2.2.2.2.2.1 (d8 s).2.2.2.2.2.2.2.1 (d8 (d8 s)).1 (d8 (d8 s)).2.1 (d8 (d8 s)).2.2.1 (d8 (d8 s)).2.2.2.1 (d8 (d8 s)).2.2.2.2.1 (d8 (d8 s)).2.2.2.2.2.1 (d8 (d8 s)).2.2.2.2.2.2.1⟩
theorem ij:Ko J5:=
 aw .o call42 func42 al
def On:aq:=⟨34,[(.bx 81 0 true [.str,.str,an,an,an,mC,an,an,wo,Iz,fq,wo,QD,an,an,an,(.own .ex 79 true),an,an,an,fq,iD,iD])],.bool,[(true,0,(.bx 81 0 true [.same,.same,.same,.same,.same,.same,.same,.same,(.sli .s),gH,aS,(.sli .s),(.sli sO),an,an,an,(.sli .ex),an,an,an,aS,iD,iD]))],λs=>Dw s.1 s.2.1 s.2.2.1 s.2.2.2.1 s.2.2.2.2.1 s.2.2.2.2.2.1 s.2.2.2.2.2.2.1 s.2.2.2.2.2.2.2.1 s.2.2.2.2.2.2.2.2.1 (d8 s).2.1 (d8 s).2.2.1 (d8 s).2.2.2.1 (d8 s).2.2.2.2.1 (d8 s).2.2.2.2.2.1 (d8 s).2.2.2.2.2.2.1 (d8 s).2.2.2.2.2.2.2.1 (d8 (d8 s)).1 (d8 (d8 s)).2.1 (d8 (d8 s)).2.2.1 (d8 (d8 s)).2.2.2.1 (d8 (d8 s)).2.2.2.2.1 (d8 (d8 s)).2.2.2.2.2.1 (d8 (d8 s)).2.2.2.2.2.2⟩
theorem I9:Ko On:=
 aw (.c .o (.r [40000] .o)) call34 func34 (aj P7 (aj JL (aj L9 (aj ij al))))
def KW:aq:=⟨95,[gH,(.fn 96 [] [])],dR,[],λs=>A8 s⟩
theorem Gh:Ko KW:=
 aw (.l ⟨[(true,5,dR),(false,13,an)],[]⟩ .o) call95 func95 (aj tQ al)
def WE:aq:=⟨61,[gH],.bool,[],λs=>BK s⟩
theorem yI:Ko WE:=
 aw .o call61 func61 (aj Gh (aj gf al))
def ZO:aq:=⟨62,[],(.sli .n),[],λ_=>wS⟩
theorem BU:Ko ZO:=
 aw .o call62 func62 al
def pQ:aq:=⟨63,[gH],Iz,[],λs=>fI s⟩
def pX(s:Q8):Option Q8:= wK s ( some []) ( aG (aH (List.length ([]:List cz)+List.length s) 16)<| some (([]:List cz)++s))
theorem hZ:Ko pQ:=
 aX .o call63 func63 al al al λs=>(show _=pX s from by kernel_rfl).trans kl
def Pl:aq:=⟨256,[an],(.cB [(.dat eU [some 109,some 7]),an]),[],λs=>oD s⟩
theorem vS:Ko Pl:=
 aw .o call256 func256 al
def aio:aq:=⟨251,[an],(.cB [(.dat (.p eU gI) [some 109,some 7,some 11]),an]),[],λs=>acC s⟩
theorem Zj:Ko aio:=
 aw .o call251 func251 (aj vS al)
def JW:aq:=⟨245,[lz,lf,uA],(.cB [(.dat Uc [none,some 109,some 7,some 11,none,none,none,none,none,none,none,none,none,none,none,none,none,none,none]),an]),[],U3 yG⟩
theorem Ff:Ko JW:=
 aw .o call245 func245 (aj Zj al)
def Hw:aq:=⟨291,[gH,an],(.cB [(.dat UC [some 193,some 109,some 7,some 11]),an]),[],U2 acn⟩
def Y5(g:Nat)(s:Q8)(e:Int)(f:(Q7×Int))(a:((List Q7)×Int)->Option (vL×Int)):(List Q7)×Int->Option (vL×Int):=λ⟨b,c⟩=> bif decide (c<(i64.wrap (Int.tdiv (i64.wrap ((i64.wrap ((s.length:Int)+2))-1)) 2))) then (oD e).bind λd=> aG (aH (List.length b+List.length ([d.1]:List Q7)) 56)<| a ((b++([d.1]:List Q7)),(i64.wrap (c+1))) else some ((b,f.1,[]),0)
def ahB(fl:Nat)(s:Q8)(a:Int):Option (vL×Int):= (oD a).bind λb=> bif b.2 != 0 then some (([],(0,[],[]),[]),b.2) else ax (Y5 fl s a b) fl ([],0)
theorem V3(fl:Nat)(s:ew (my Hw.ps)):adB { X0 with fl:=fl } [Pl] [] [] (.c .o (.l ⟨[(true,4,aiA),(true,8,ah6),(false,27,an)],[]⟩ .o)) Tryz.f291 Hw s=ahB fl s.1 s.2:=by kernel_rfl
theorem ZV:Ko Hw:=
 aX (.c .o (.l ⟨[(true,4,aiA),(true,8,ah6),(false,27,an)],[]⟩ .o)) call291 func291 (aj vS al) al al λs=>(V3 az s).trans (by kernel_rfl)
def Jc:aq:=⟨285,[lz,lf,uA],(.cB [(.dat Uc [none,none,none,none,some 193,some 109,some 7,some 11,none,none,none,none,none,none,none,none,none,none,none]),an]),[],U3 xD⟩
theorem CC:Ko Jc:=
 aw .o call285 func285 (aj ZV al)
def aer:aq:=⟨313,[an],(.cB [(.dat eU [some 109,some 7]),an]),[],λs=>XT s⟩
theorem VZ:Ko aer:=
 aw .o call313 func313 (aj vS al)
def PA:aq:=⟨314,[an],an,[],λs=>DE s⟩
def ON:adR->adR:=λa s=>Pr a s
theorem Re(a:adR)(b:ark a):(vf (ON a)).Ok X0.P X0.Γ:=
 aw .o call314 func314 (aj b al)
theorem wc:Ko PA:=(show PA=vf (ax (ON) az) by kernel_rfl)▸dO (X:=X0) (E:=vf) ⟨call314,λ_ _ h=>nomatch h⟩ (Re) az
def agW:aq:=⟨309,[gH,an],(.cB [(.dat Sf [some 699,some 11]),an]),[],U2 adT⟩
theorem Zq:Ko agW:=
 aw (.c .o (.r [30000,20006] (.l ⟨[(true,4,(.bx 104 0 true [.same,.same])),(true,8,(.bx 104 0 true [(.own eU 349 true),.same])),(false,23,an)],[]⟩ .o))) call309 func309 (aj VZ (aj wc al))
def HZ:aq:=⟨303,[lz,lf,uA],(.cB [(.dat Uc [none,none,none,none,none,none,none,none,some 699,some 11,none,none,none,none,none,none,none,none,none]),an]),[],U3 xg⟩
theorem C1:Ko HZ:=
 aw .o call303 func303 (aj Zq al)
def aee:aq:=⟨275,[mC],an,[],λs=>Md s⟩
theorem FL:Ko aee:=
 aw (.l ⟨[(false,0,mC),(false,3,an)],[]⟩ .o) call275 func275 al
def LK:aq:=⟨267,[(.dat dD [])],an,[],λs=>Cn s⟩
theorem GG:Ko LK:=
 aw .o call267 func267 (aj FL al)
def Ou:aq:=⟨266,[gH,(.fn 267 [] [])],fq,[],λs=>tN s⟩
theorem tI:Ko Ou:=
 aw (.l ⟨[(true,5,fq),(false,13,an)],[]⟩ .o) call266 func266 (aj GG al)
def Zy:aq:=⟨278,[gH],an,[],λs=>OL s⟩
theorem Rh:Ko Zy:=
 aw (.l ⟨[(false,3,an),(false,9,an)],[]⟩ .o) call278 func278 (aj tI al)
def W3:aq:=⟨269,[gH],an,[],λs=>BB s⟩
theorem yT:Ko W3:=
 aw .o call269 func269 (aj Rh al)
def ajp:aq:=⟨336,[an],(.cB [(.dat wI [some 705,some 7]),an]),[],λs=>afZ s⟩
theorem acB:Ko ajp:=
 aw .o call336 func336 al
def JN:aq:=⟨330,[lz,lf,uA],Au,[],U3 yS⟩
theorem Fu:Ko JN:=
 aw (.c .o (.l ⟨[(true,4,(.bx 113 0 true [.same,.same,.same,.same,.same,.same,.same,.same,.same,.same,.same,.same,.same,.same,an,(.sli kV),an,an,aS,an,(.sli kV),an,an,aS,an,(.sli kV),an,an,aS,.same,.same,.same,.same,.same,.same])),(true,6,(.bx 113 0 true [.same,.same,.same,.same,.same,.same,.same,.same,.same,.same,.same,.same,.same,.same,.same,.same,.same,.same,.same,.same,.same,.same,.same,.same,.same,.same,.same,.same,.same,.same,.same,.same,.same,.same,.same])),(false,18,an)],[]⟩ .o)) call330 func330 (aj yT (aj acB al))
def agX:aq:=⟨370,[an,an,mC],(.cB [(.dat E3 [some 11,some 11,some 11]),an]),[],U3 ab2⟩
theorem aaf:Ko agX:=
 aw (.c .o (.l ⟨[(true,6,(.bx 111 0 true [.same,.same,.same,.same,.same,.same])),(true,8,(.bx 111 0 true [.same,.same,.same,gu,gu,gu])),(false,29,an)],[]⟩ .o)) call370 func370 al
def JD:aq:=⟨364,[lz,lf,uA],Au,[],U3 yP⟩
theorem Eo:Ko JD:=
 aw .o call364 func364 (aj aaf al)
def ae5:aq:=⟨44,[gH,uA],Au,[],U2 DU⟩
theorem vU:Ko ae5:=
 aw (.r [] (.c .o (.r [3,40000] .o))) call44 func44 (aj yI (aj BU (aj hZ (aj Ff (aj CC (aj C1 (aj Fu (aj Eo al))))))))
def JV:aq:=⟨35,[ag8],.bool,[(true,0,aiz)],λs=>yK s.1 s.2.1 s.2.2.1 s.2.2.2.1 s.2.2.2.2.1 s.2.2.2.2.2.1 s.2.2.2.2.2.2.1 s.2.2.2.2.2.2.2.1 s.2.2.2.2.2.2.2.2.1 (d8 s).2.1 (d8 s).2.2.1 (d8 s).2.2.2.1 (d8 s).2.2.2.2.1 (d8 s).2.2.2.2.2.1 (d8 s).2.2.2.2.2.2.1 (d8 s).2.2.2.2.2.2.2.1 (d8 (d8 s)).1 (d8 (d8 s)).2.1 (d8 (d8 s)).2.2.1 (d8 (d8 s)).2.2.2.1 (d8 (d8 s)).2.2.2.2.1 (d8 (d8 s)).2.2.2.2.2.1 (d8 (d8 s)).2.2.2.2.2.2⟩
theorem FH:Ko JV:=
 aw (.r [40000] (.j ⟨[(false,4,an)],[]⟩ .o .o)) call35 func35 (aj vU (aj ij al))
def PT:aq:=⟨97,[gH,aS],an,[],U2 iC⟩
theorem eW:Ko PT:=
 aw (.c .o (.l ⟨[(false,14,an)],[]⟩ .o)) call97 func97 (aj lZ al)
def agD:aq:=⟨98,[lf],.ifn,[],λs=>HW s⟩
theorem yc:Ko agD:=
 aw (.r [1] .o) call98 func98 (aj BU al)
def ZK:aq:=⟨271,[dj],gu,[],λs=>EO s⟩
def ZP(b:Q1):Option Q1:= wK b ( some []) ( aG (aH (List.length ([]:y5)+List.length b) 1)<| some (([]:y5)++b))
theorem B7:Ko ZK:=
 aX .o call271 func271 al al al λs=>(show _=ZP s from by kernel_rfl).trans kl
def ajY:aq:=⟨276,[(.dat sy [none])],aar,[],λs=>afG s⟩
theorem abf:Ko ajY:=
 aw .o call276 func276 (aj B7 al)
def W0:aq:=⟨277,[aar,.bool],eB,[(true,0,aar)],λs=>LY s.2.2 s.1 s.2.1⟩
theorem OB:Ko W0:=
 aw (.j ⟨[(true,0,(.bx 395 0 true [gu,.same]))],[]⟩ .o (.j ⟨[(true,0,(.bx 395 0 true [gu,.same]))],[]⟩ (.c (.r [0] .o) .o) .o)) call277 func277 al
def ahX:aq:=⟨268,[(.dat sy [none]),mC,an],(.cB [(.dat sy [none]),an]),[],U3 acJ⟩
theorem Y3:Ko ahX:=
 aw (.c .o (.c .o (.l ⟨[(true,6,(.bx 374 0 true [.same,.same])),(true,8,aar),(false,9,an)],[]⟩ (.c (.r [8] .o) .o)))) call268 func268 (aj FL (aj abf (aj OB al)))
def Dd:aq:=⟨259,[gH,aS],(.cB [gu,an]),[],U2 mZ⟩
theorem om:Ko Dd:=
 aw (.c .o (.l ⟨[(true,7,(.bx 374 0 true [dj,an])),(false,20,an)],[]⟩ (.c (.r [7] .o) .o))) call259 func259 (aj eW (aj tI (aj Y3 (aj yT al))))
def aeC:aq:=⟨253,[lf,aS],dj,[],U2 eS⟩
theorem dV:Ko aeC:=
 aw .o call253 func253 (aj om al)
def ZR:aq:=⟨282,[HN],eB,[(true,0,HN)],λs=>PK s⟩
theorem R9:Ko ZR:=
 aw .o call282 func282 al
def aaa:aq:=⟨283,[HN],eB,[(true,0,HN)],λs=>OG s⟩
theorem RW:Ko aaa:=
 aw .o call283 func283 al
def Y9:aq:=⟨284,[HN],eB,[(true,0,HN)],λs=>Pn s⟩
theorem P5:Ko Y9:=
 aw .o call284 func284 al
def ahh:aq:=⟨280,[dj,mC],mC,[],U2 H2⟩
theorem xS:Ko ahh:=
 aw (.l ⟨[(true,5,HN),(false,15,an)],[]⟩ (.c .o (.n 50 .o))) call280 func280 (aj R9 (aj RW (aj P5 al)))
def ad2:aq:=⟨279,[mC,an],an,[],U2 DK⟩
theorem wA:Ko ad2:=
 aw .o call279 func279 al
def ZN:aq:=⟨281,[dj,dj],.bool,[],U2 FB⟩
theorem BT:Ko ZN:=
 aw .o call281 func281 al
def Ox:aq:=⟨273,[FG,dj],an,[],U2 ua⟩
theorem uC:Ko Ox:=
 aw (.n 0 (.j ⟨[(false,5,an)],[]⟩ .o .o)) call273 func273 (aj xS (aj wA (aj BT al)))
def Ow:aq:=⟨274,[FG,dj],ya,[],U2 DL⟩
theorem Hn:Ko Ow:=
 aw .o call274 func274 (aj uC al)
def abA:aq:=⟨265,[FG,dj],ya,[],U2 kq⟩
theorem kG:Ko abA:=
 aw .o call265 func265 (aj Hn al)
def HY:aq:=⟨273,[(.dat eU [some 108,some 6]),dj],an,[],U2 xx⟩
theorem C7:Ko HY:=
 aw (.n 0 (.j ⟨[(false,5,an)],[]⟩ .o .o)) call273 func273 (aj xS (aj wA (aj BT al)))
def ML:aq:=⟨272,[(.bx 384 0 true [an,(.own gI 54 true),aS]),an],eB,[(true,0,(.bx 384 0 true [.same,(.own gI 54 true),aS]))],λs=>Ci s.2.2.2 s.1 s.2.1 s.2.2.1⟩
theorem FO:Ko ML:=
 aw (.l ⟨[(true,0,(.bx 384 0 true [.same,(.own gI 54 true),fq])),(false,18,(.slr 1)),(false,20,an)],[]⟩ (.c (.r [0] .o) .o)) call272 func272 (aj C7 al)
def E5:aq:=⟨101,[aS],fq,[],λs=>cX s⟩
def EE(s:Q1):Option Q1:= wK s ( some []) ( aG (aH (List.length ([]:y5)+List.length s) 8)<| some (([]:y5)++s))
theorem dy:Ko E5:=
 aX .o call101 func101 al al al λs=>(show _=EE s from by kernel_rfl).trans kl
def FQ:aq:=⟨260,[FG,dj],(.cB [FG,an,.bool,an]),[],U2 gh⟩
theorem rb:Ko FQ:=
 aw (.c .o (.c .o (.s (.s (.j ⟨[(true,11,(.bx 384 0 true [.same,(.own gI 54 true),aS]))],[2]⟩ (.c .o (.r [11] .o)) .o))))) call260 func260 (aj kG (aj B7 (aj FO (aj dy (aj uC al)))))
def Y8:aq:=⟨254,[Qv,dj],(.cB [Qv,.bool,an]),[],U2 OI⟩
theorem Qa:Ko Y8:=
 aw (.c .o (.r [4,40000] .o)) call254 func254 (aj rb al)
def IJ:aq:=⟨247,[lz,lf,aS],Nv,[],U3 xn⟩
theorem CX:Ko IJ:=
 aw (.r [40000] .o) call247 func247 (aj dV (aj Qa al))
def Jt:aq:=⟨299,[gH,aS],(.fn 302 [] [(.bx 73 0 true [gH]),aaC]),[],U2 w8⟩
theorem Cf:Ko Jt:=
 aw .o call299 func299 al
def Jj:aq:=⟨300,[gu,aS],gu,[],U2 wU⟩
theorem Bb:Ko Jj:=
 aw (.l ⟨[(false,0,gu),(false,10,an)],[]⟩ (.c (.l ⟨[(false,0,gu),(false,14,an)],[]⟩ .o) .o)) call300 func300 al
def PO:aq:=⟨296,[Mp,gH,aS],an,[],U3 C9⟩
theorem Yn:(⟨302,Tryz.f302⟩:jV).Ok X0.P:=⟨call302,func302⟩
theorem Ge:Ko PO:=
 aX (.c (.c (.l ⟨[(false,4,an),(true,10006,B8),(true,10007,(.bx 54 0 true [gu]))],[]⟩ .o) .o) (.r [70000,6,7] .o)) call296 func296 (aj Cf (aj om (aj kG (aj Bb al)))) al (aj Yn al) λ_=>by kernel_rfl
def abO:aq:=⟨301,[FG],an,[],λs=>H3 s⟩
theorem Ed:Ko abO:=
 aw .o call301 func301 al
def Po:aq:=⟨297,[Mp],an,[],λs=>Ky s⟩
theorem VX:Ko Po:=
 aw .o call297 func297 (aj Ed al)
def jd:aq:=⟨298,[(.sli eU)],(.own eU 96 true),[],λs=>fL s⟩
def p9(s:(List Q7)):Option (List Q7):= wK s ( some []) ( aG (aH (List.length ([]:List Q7)+List.length s) 56)<| some (([]:List Q7)++s))
theorem nZ:Ko jd:=
 aX .o call298 func298 al al al λs=>(show _=p9 s from by kernel_rfl).trans kl
def yo:aq:=⟨293,[Mp,gH,aS],(.cB [Mp,.bool,an]),[],U3 PJ⟩
def Sb(n:Nat)(c:vL)(o:Q8)(b:(Q8×Q1))(e:(Int×(List Q7)×Q1)->Option Q61):Int×(List Q7)×Q1->Option Q61:=λ⟨a,d,j⟩=> bif decide ((i64.wrap (a*2))<(b.1.length:Int)) then aG (dp (i64.wrap (a*2)) (min (b.1.length:Int) (i64.wrap ((i64.wrap (a+1))*2))) (List.length b.1))<| aG (dp (i64.wrap (a*2)) (min (b.1.length:Int) (i64.wrap ((i64.wrap (a+1))*2))) (List.length b.2))<| (mZ (bD b.1 (i64.wrap (a*2)) (min (b.1.length:Int) (i64.wrap ((i64.wrap (a+1))*2)))) (bD b.2 (i64.wrap (a*2)) (min (b.1.length:Int) (i64.wrap ((i64.wrap (a+1))*2))))).bind λk=> (idx d a).bind λl=> (gh l k.1).bind λf=> (wU j ([f.2.1]:y5)).bind λg=> (idx d a).bind λm=> bif !true then (gh c.2.1 g).bind λi=> aG (jR 0 (c.2.2.length:Int) (c.2.2.length:Int) (List.length c.2.2)&&((c.2.2.length:Int)==(c.2.2.length:Int)))<| aG (aH (List.length (bD c.2.2 0 (c.2.2.length:Int))+List.length ([0]:y5)) 1)<| some (((List.set d (Int.toNat a) f.1),i.1,((bD c.2.2 0 (c.2.2.length:Int))++([0]:y5))),true,0) else e ((i64.wrap (a+1)),(List.set d (Int.toNat a) f.1),g) else (gh c.2.1 j).bind λh=> aG (jR 0 (c.2.2.length:Int) (c.2.2.length:Int) (List.length c.2.2)&&((c.2.2.length:Int)==(c.2.2.length:Int)))<| aG (aH (List.length (bD c.2.2 0 (c.2.2.length:Int))+List.length ([0]:y5)) 1)<| some ((d,h.1,((bD c.2.2 0 (c.2.2.length:Int))++([0]:y5))),true,0)
def ZW(fl:Nat)(c:vL)(s:Q8)(a:Q1):Option Q61:= (iC s a).bind λb=> bif b != 0 then some (c,false,b) else (C9 c s a).bind λg=> bif decide (0<=g) then some (c,false,0) else (Ky c).bind λf=> bif decide (c.2.1.1<=f) then some (c,false,7) else (fL c.1).bind λe=> (w8 s a).bind λd=> ax (Sb fl c s d) fl (0,e,[])
theorem Ol(fl:Nat)(s:ew (my yo.ps)):adB { X0 with fl:=fl } [PT,PO,Po,jd,Jt,Dd,FQ,Jj] [] [⟨302,Tryz.f302⟩] (.c .o (.c .o (.r [] (.c .o (.c (.c (.l ⟨[(false,4,an),(true,10003,ah6),(true,10006,aiA),(true,10010,(.bx 54 0 true [gu]))],[]⟩ .o) (.r [10,3] .o)) (.r [70000,3,6,10] .o)))))) Tryz.f293 yo s=ZW fl s.1 s.2.1 s.2.2:=by kernel_rfl
theorem Qu:Ko yo:=
 aX (.c .o (.c .o (.r [] (.c .o (.c (.c (.l ⟨[(false,4,an),(true,10003,ah6),(true,10006,aiA),(true,10010,(.bx 54 0 true [gu]))],[]⟩ .o) (.r [10,3] .o)) (.r [70000,3,6,10] .o)))))) call293 func293 (aj eW (aj Ge (aj VX (aj nZ (aj Cf (aj om (aj rb (aj Bb al)))))))) al (aj Yn al) λs=>(Ol az s).trans (by kernel_rfl)
def He:aq:=⟨287,[lz,lf,aS],Nv,[],U3 vD⟩
theorem Be:Ko He:=
 aw .o call287 func287 (aj Qu al)
def Xa:aq:=⟨321,[gH,aS],(.own (.i .u32) 38 true),[],U2 BX⟩
theorem yH:Ko Xa:=
 aw (.l ⟨[(false,5,(.own (.i .u32) 38 true)),(false,10,an)],[]⟩ .o) call321 func321 al
def aia:aq:=⟨328,[nO,nO],(.dat XR []),[],U2 P2⟩
theorem Js:Ko aia:=
 aw (.l ⟨[(true,4,(.bx 443 0 true [.same,.same,.same,.same,.same,.same,.same,.same])),(true,5,(.bx 443 0 true [iE,iE,iE,iE,iE,iE,iE,iE])),(false,7,an)],[]⟩ (.c (.r [5] .o) .o)) call328 func328 al
def R5:aq:=⟨329,[(.dat XR [])],dj,[],λs=>wG s⟩
theorem vC:Ko R5:=
 aw .o call329 func329 al
def acs:aq:=⟨327,[FG,nO,nO],ya,[],U3 UU⟩
theorem Vf:Ko acs:=
 aw .o call327 func327 (aj Js (aj vC (aj kG al)))
def Rn:bI:=⟨323,[agB,an,nO,nO],D7,none,false,false,nO,[],λs=>vT s.2.1 s.2.2.1 s.2.2.2 s.1⟩
theorem vz:pK Rn:=
 acE .o call323 func323 (aj Vf al)
def Cp:bI:=⟨326,[agB,an,NC],D7,none,false,false,nO,[],λs=>GY s.2.1 s.2.2 s.1⟩
def Bx:aaN->aaN:=λa s=>BL a s.1 s.2.1 s.2.2
theorem FN(a:aaN)(b:aq9 a):(ln (Bx a)).Ok X0.P X0.Γ:=
 oV (.c .o (.r [0] .o)) call326 func326 (aj wc al) (aj b (aj vz al)) al λ_=>by kernel_rfl
theorem Kf:pK Cp:=(show Cp=ln (ax (Bx) az) by kernel_rfl)▸acK (X:=X0) (E:=ln) ⟨call326,λ_ _ h=>nomatch h⟩ (FN) az
def Oq:bI:=⟨320,[agB,NC],D7,none,false,false,nO,[],λs=>DG s.2 s.1⟩
theorem Iy:pK Oq:=
 oV (.c (.r [0] .o) .o) call320 func320 al (aj vz (aj Kf al)) al λ_=>by kernel_rfl
def aeG:aq:=⟨316,[Ld,gH,aS],ya,[],U3 Kp⟩
theorem akp:(⟨322,Tryz.f322⟩:jV).Ok X0.P:=⟨call322,func322⟩
theorem FI:Ko aeG:=
 aX .o call316 func316 (aj yH al) (aj Iy al) (aj akp al) λ_=>by kernel_rfl
def aaH:aq:=⟨324,[FG],an,[],λs=>Uv s⟩
theorem SA:Ko aaH:=
 aw .o call324 func324 (aj Ed al)
def aeB:aq:=⟨317,[Ld],an,[],λs=>Yj s⟩
theorem Xt:Ko aeB:=
 aw .o call317 func317 (aj SA al)
def pY:aq:=⟨318,[(.sli eU)],(.own eU 349 true),[],λs=>jC s⟩
def rq(s:(List Q7)):Option (List Q7):= wK s ( some []) ( aG (aH (List.length ([]:List Q7)+List.length s) 56)<| some (([]:List Q7)++s))
theorem ob:Ko pY:=
 aX .o call318 func318 al al al λs=>(show _=rq s from by kernel_rfl).trans kl
def V5:aq:=⟨325,[FG,nO,nO],(.cB [FG,an,.bool,an]),[],U3 LI⟩
theorem Og:Ko V5:=
 aw (.r [40000] .o) call325 func325 (aj Js (aj vC (aj rb al)))
def KV:aq:=⟨319,[aip,an,nO,nO],nO,[(true,0,ahD)],λs=>sG s.2.1 s.2.2.1 s.2.2.2 s.1⟩
theorem s6:Ko KV:=
 aw (.r [0] .o) call319 func319 (aj Og al)
def vN:aq:=⟨326,[aip,an,NC],nO,[(true,0,ahD)],λs=>yF s.2.1 s.2.2 s.1⟩
def vQ:ab6->ab6:=λa s=>vI a s.1 s.2.1 s.2.2
theorem B1(a:ab6)(b:art a):(jm (vQ a)).Ok X0.P X0.Γ:=
 aw (.c .o (.r [0] .o)) call326 func326 (aj b (aj wc (aj s6 al)))
theorem Er:Ko vN:=(show vN=jm (ax (vQ) az) by kernel_rfl)▸dO (X:=X0) (E:=jm) ⟨call326,λ_ _ h=>nomatch h⟩ (B1) az
def IN:aq:=⟨320,[aip,NC],nO,[(true,0,ahD)],λs=>xo s.2 s.1⟩
theorem CA:Ko IN:=
 aw (.c (.r [0] .o) .o) call320 func320 (aj s6 (aj Er al))
def ZL:aq:=⟨311,[Ld,gH,aS],(.cB [Ld,.bool,an]),[],U3 Pp⟩
theorem RO:Ko ZL:=
 aw (.c .o (.c .o (.r [] (.c .o (.r [6,40000] .o))))) call311 func311 (aj eW (aj FI (aj Xt (aj ob (aj yH (aj CA al))))))
def FP:aq:=⟨305,[lz,lf,aS],Nv,[],U3 vK⟩
theorem AX:Ko FP:=
 aw .o call305 func305 (aj RO al)
def RN:aq:=⟨353,[iE],.bool,[],λs=>wL s⟩
theorem JX:Ko RN:=
 aw .o call353 func353 al
def Lv:aq:=⟨347,[iE,iE],an,[],U2 sk⟩
theorem tu:Ko Lv:=
 aw .o call347 func347 (aj JX al)
def ad7:aq:=⟨346,[(.dat j9 []),iE],an,[],U2 MG⟩
theorem WG:Ko ad7:=
 aw .o call346 func346 (aj tu al)
def jN:aq:=⟨345,[(.sli j9),iE,(.fn 346 [] [])],ya,[],U2 dn⟩
theorem dY:Ko jN:=
 aw (.l ⟨[(false,9,an),(false,10,an)],[]⟩ .o) call345 func345 (aj WG al)
def alN:aq:=⟨341,[Vg,an,iE],an,[],U3 ajr⟩
theorem afa:Ko alN:=
 aw .o call341 func341 (aj dY al)
def ai1:aq:=⟨338,[Vg,dj],.bool,[],U2 wN⟩
theorem vd:Ko ai1:=
 aw (.l ⟨[(false,5,an),(false,12,an)],[]⟩ .o) call338 func338 (aj afa al)
def ah0:aq:=⟨339,[Vg],an,[],λs=>ace s⟩
theorem ZI:Ko ah0:=
 aw .o call339 func339 al
def rV:aq:=⟨342,[(.sli kV)],(.own kV 352 true),[],λs=>kC s⟩
def sE(s:Q4):Option Q4:= wK s ( some []) ( aG (aH (List.length ([]:List (Q8×Int))+List.length s) 32)<| some (([]:List (Q8×Int))++s))
theorem py:Ko rV:=
 aX .o call342 func342 al al al λs=>(show _=sE s from by kernel_rfl).trans kl
def sa:aq:=⟨359,[(.sli j9),(.sli j9)],.bool,[],U2 kz⟩
theorem pD:Ko sa:=
 aw (.c .o (.l ⟨[(false,13,an)],[]⟩ .o)) call359 func359 al
def SU:aq:=⟨354,[(.bx 457 0 false [an,(.own kV 352 false),an,an,IY,(.mp aY .bo false)]),(.sli j9)],ya,[],λs=>Jq s.2.2.2.2.2.2 s.1 s.2.1 s.2.2.1 s.2.2.2.1 s.2.2.2.2.1 s.2.2.2.2.2.1⟩
theorem Mn:Ko SU:=
 aw (.l ⟨[(false,14,an)],[]⟩ .o) call354 func354 (aj pD al)
def Ii:aq:=⟨384,[IY],an,[],λs=>oF s⟩
theorem pI:Ko Ii:=
 aw .o call384 func384 al
def Gj:aq:=⟨386,[fq,an,an],eB,[(true,0,fq)],U3 jT⟩
theorem jI:Ko Gj:=
 aw (.r [0] .o) call386 func386 al
def GZ:aq:=⟨385,[IY,an,an],.bool,[],U3 jS⟩
theorem oE:Ko GZ:=
 aw .o call385 func385 al
def GU:aq:=⟨362,[E7,an,an],.bool,[(true,0,E7)],λs=>vA s.2.1 s.2.2 s.1⟩
theorem BD:Ko GU:=
 aw (.l ⟨[(true,0,E7),(false,7,an)],[]⟩ (.c .o (.s (.j ⟨[(false,9,an)],[]⟩ .o .o)))) call362 func362 (aj oE (aj jI al))
def Od:aq:=⟨387,[aav],D7,[(true,0,aav)],λs=>Dq s⟩
theorem Ix:Ko Od:=
 aw .o call387 func387 al
def HF:aq:=⟨360,[E7],D7,[(true,0,E7)],λs=>xB s⟩
theorem CK:Ko HF:=
 aw .o call360 func360 (aj pI (aj jI (aj BD (aj Ix al))))
def Qj:aq:=⟨355,[alJ],an,[(true,0,aa4)],U6 Gx⟩
theorem JG:Ko Qj:=
 aw .o call355 func355 (aj CK al)
def S1:aq:=⟨348,[amJ,(.sli j9)],an,[(true,0,alW)],λs=>x7 s.2.2.2.2.2.2 s.1 s.2.1 s.2.2.1 s.2.2.2.1 s.2.2.2.2.1 s.2.2.2.2.2.1⟩
theorem Lf:Ko S1:=
 aw (.c .o (.l ⟨[(true,0,(.bx 457 0 true [.same,(.own kV 352 true),.same,.same,.same,.same])),(false,35,an)],[]⟩ (.c (.r [0] .o) .o))) call348 func348 (aj Mn (aj JG al))
def ae4:aq:=⟨341,[(.dat wI [some 704,some 6]),an,iE],an,[],U3 Yl⟩
theorem XM:Ko ae4:=
 aw .o call341 func341 (aj dY al)
def NW:aq:=⟨350,[(.dat j9 []),iE],an,[],U2 uP⟩
theorem Hz:Ko NW:=
 aw .o call350 func350 (aj tu al)
def jf:aq:=⟨345,[(.own j9 462 false),iE,(.fn 350 [] [])],ya,[],U2 eD⟩
theorem iv:Ko jf:=
 aw (.l ⟨[(false,9,an),(false,10,an)],[]⟩ .o) call345 func345 (aj Hz al)
def sH:aq:=⟨349,[(.sli j9)],(.own j9 462 true),[],λs=>kD s⟩
def sh(s:Q8):Option Q8:= wK s ( some []) ( aG (aH (List.length ([]:List cz)+List.length s) 16)<| some (([]:List cz)++s))
theorem pB:Ko sH:=
 aX .o call349 func349 al al al λs=>(show _=sh s from by kernel_rfl).trans kl
def F7:aq:=⟨343,[amJ,an,dj],an,[(true,0,alW)],λs=>KN s.2.2.2.2.2.2.1 s.2.2.2.2.2.2.2 s.1 s.2.1 s.2.2.1 s.2.2.2.1 s.2.2.2.2.1 s.2.2.2.2.2.1⟩
def Gz:acX->acX:=λa s=>GI a s.1 s.2.1 s.2.2.1 s.2.2.2.1 s.2.2.2.2.1 s.2.2.2.2.2.1 s.2.2.2.2.2.2.1 s.2.2.2.2.2.2.2
theorem JZ(a:acX)(b:ara a):(nX (Gz a)).Ok X0.P X0.Γ:=
 aw (.c .o (.s (.j ⟨[(false,7,(.own j9 462 true))],[]⟩ .o (.r [0,40000] (.s (.j ⟨[(false,7,(.own j9 462 true))],[8]⟩ .o .o)))))) call343 func343 (aj Lf (aj XM (aj b (aj iv (aj aff (aj pB al))))))
theorem NH:Ko F7:=(show F7=nX (ax (Gz) az) by kernel_rfl)▸dO (X:=X0) (E:=nX) ⟨call343,λ_ _ h=>nomatch h⟩ (JZ) az
def LX:aq:=⟨388,[aav,D7],eB,[(true,0,aav)],λs=>Bl s.2 s.1⟩
theorem Hc:Ko LX:=
 aw (.r [0] .o) call388 func388 al
def EC:aq:=⟨358,[E7,an],eB,[(true,0,E7)],λs=>tO s.2 s.1⟩
theorem Ab:Ko EC:=
 aw (.l ⟨[(true,0,E7),(false,1,an)],[]⟩ .o) call358 func358 (aj oE (aj jI al))
def G6:aq:=⟨352,[E7,D7],eB,[(true,0,E7)],λs=>vE s.2 s.1⟩
theorem AZ:Ko G6:=
 aw .o call352 func352 (aj Hc (aj pI (aj Ab al)))
def A7:aq:=⟨344,[alJ,an],eB,[(true,0,aa4)],λs=>GR s.2.2.2.2.2.2 s.1 s.2.1 s.2.2.1 s.2.2.2.1 s.2.2.2.2.1 s.2.2.2.2.2.1⟩
def By:aaR->aaR:=λa s=>Bu a s.1 s.2.1 s.2.2.1 s.2.2.2.1 s.2.2.2.2.1 s.2.2.2.2.2.1 s.2.2.2.2.2.2
theorem FY(a:aaR)(b:arc a):(lv (By a)).Ok X0.P X0.Γ:=
 aw (.c .o (.l ⟨[(true,0,aa4),(false,42,an)],[]⟩ .o)) call344 func344 (aj b (aj AZ al))
theorem J3:Ko A7:=(show A7=lv (ax (By) az) by kernel_rfl)▸dO (X:=X0) (E:=lv) ⟨call344,λ_ _ h=>nomatch h⟩ (FY) az
def aaW:aq:=⟨340,[Vg,dj],(.cB [Vg,.bool,an]),[],U2 tG⟩
theorem De:Ko aaW:=
 aw (.c .o (.c .o (.r [7] (.r [7] (.j ⟨[(true,7,aa4)],[]⟩ .o .o))))) call340 func340 (aj vd (aj py (aj dy (aj NH (aj J3 al)))))
def Hg:aq:=⟨332,[lz,lf,aS],Nv,[],U3 xv⟩
theorem CO:Ko Hg:=
 aw .o call332 func332 (aj dV (aj vd (aj ZI (aj De al))))
def aci:aq:=⟨381,[dj,mC,an,an],fq,[],U4 pA⟩
theorem kx:Ko aci:=
 aw (.l ⟨[(false,9,fq),(false,13,an)],[]⟩ .o) call381 func381 (aj xS (aj wA al))
def aea:aq:=⟨378,[uh,dj,(.jg (.int .i64 0)),Wt],eB,[(true,3,Wt)],U3 Yp⟩
theorem Wb:Ko aea:=
 aw (.l ⟨[(true,3,Wt),(false,19,an)],[]⟩ (.c (.r [3] .o) .o)) call378 func378 (aj kx al)
def ahv:aq:=⟨375,[uh,dj,(.jg (.int .i64 0))],.bool,[],U2 adH⟩
theorem Zr:Ko ahv:=
 aw .o call375 func375 (aj Wb al)
def ZU:aq:=⟨376,[uh,dj],.bool,[],U2 E6⟩
theorem Cd:Ko ZU:=
 aw .o call376 func376 (aj Zr al)
def Bq:aq:=⟨263,[dj],gu,[],λs=>cY s⟩
def BC(s:Q1):Option Q1:= wK s ( some []) ( aG (aH (List.length ([]:y5)+List.length s) 1)<| some (([]:y5)++s))
theorem dM:Ko Bq:=
 aX .o call263 func263 al al al λs=>(show _=BC s from by kernel_rfl).trans kl
def V9:aq:=⟨378,[(.dat E3 [some 11,none,none]),dj,(.jg (.int .i64 0)),(.fn 380 [] [])],eB,[(true,0,(.agg [.same,.same,.same,gu,.same,.same]))],U2 BZ⟩
theorem yN:Ko V9:=
 aw (.l ⟨[(true,0,(.agg [.same,.same,.same,gu,.same,.same])),(false,19,an)],[]⟩ (.c (.r [4,0] .o) .o)) call378 func378 (aj kx al)
def agO:aq:=⟨377,[uh,dj,(.jg (.int .i64 0))],(.dat E3 [some 11,none,none]),[],U2 acW⟩
theorem ZX:Ko agO:=
 aw .o call377 func377 (aj dM (aj yN al))
def Z9:aq:=⟨372,[uh,dj],(.cB [uh,.bool]),[],U2 Pk⟩
theorem RG:Ko Z9:=
 aw .o call372 func372 (aj Cd (aj ZX al))
def HV:aq:=⟨366,[lz,lf,aS],Nv,[],U3 xr⟩
theorem CP:Ko HV:=
 aw (.r [40000] .o) call366 func366 (aj dV (aj RG al))
def Xx:aq:=⟨64,[lf,aS],Nv,[],U2 vm⟩
theorem yR:Ko Xx:=
 aw (.c .o (.r [2,4] .o)) call64 func64 (aj eW (aj yc (aj CX (aj Be (aj AX (aj CO (aj CP al)))))))
def aaL:aq:=⟨99,[xT,aS],(.fn 142 [] [(.bx 76 0 true [(.sli .s),gH,aS,(.sli .s),(.sli sO)]),aaC]),[],U2 S0⟩
theorem UT:Ko aaL:=
 aw .o call99 func99 al
def ac3:aq:=⟨198,[.bool],an,[],λs=>Aq s⟩
theorem SF:Ko ac3:=
 aw .o call198 func198 al
def PM:aq:=⟨162,[fJ,aS],an,[],U2 lV⟩
def XC(s:Ex->Ex)(A:Sh->(R:Type)->Option R->Option R)(z:(Ex×Q1)->x3)(e:Ex)(q:Q1)(b:nV->x3):Int×Int×Int->x3:=λ⟨a,c,d⟩=> bif decide (d<(List.length (bD e.l 0 (min (List.length e.l:Int) 2)):Int)) then (idx (bD e.l 0 (min (List.length e.l:Int) 2)) d).bind λu=> (z ((s u),q)).bind λk=> bif d==0 then b (k,c,(i64.wrap (d+1))) else bif d==1 then b (a,k,(i64.wrap (d+1))) else none else ai (λ(j:Int×Int×Bool)=>KS j.1 j.2.1 j.2.2) λp=> ai (λ(i:Int×Int×Bool)=>LO i.1 i.2.1 i.2.2) λo=> ai (λ(h:Int×Int×Bool)=>MF h.1 h.2.1 h.2.2) λg=> bif e.op==1 then some e.n else bif e.op==2 then ai (decide (e.n<0)) λx=> ai (decide ((q.length:Int)<=e.n)) λw=> ai (x||w) λv=> bif v then ( some 0) else ( (idx q e.n).bind λt=> some t) else bif e.op==3 then some (i64.wrap (a+c)) else bif e.op==5 then some (i64.wrap (a*c)) else bif e.op==6 then some (i64.wrap (0-a)) else bif e.op==4 then some (i64.wrap (a-c)) else bif e.op==8 then g (a,c,true) else ai (λ(y:Unit)=>LW e a c p o) λm=> ai (λ(r:Bool)=>KU a c g m r) λf=> bif e.op==7 then f (e.op==7) else f (e.op==19)
def ym(a:Ex->Ex)(d:Sh->(R:Type)->Option R->Option R)(c:(Ex×Q1)->x3)(e:Ex)(b:Q1):x3:= aG (dp 0 (min (List.length e.l:Int) 2) (List.length e.l))<| ax (XC a d c e b) az (0,0,0)
def Py:acF->acF:=λa s=>Pv a s.1 s.2
theorem P6(a:acF)(b:ars a):(um (Py a)).Ok X0.P X0.Γ:=
 aX (.l ⟨[(true,5,(.bx 319 0 true [an,an])),(false,19,an)],[]⟩ (.c .o (.r [] (.s (.s (.s (.s (.s (.s (.s (.s (.j ⟨[(false,8,an),(false,9,an),(false,10,.bool)],[2]⟩ (.s (.j ⟨[(false,8,an),(false,9,an),(false,10,.bool)],[2]⟩ (.s (.j ⟨[(false,8,an),(false,9,an),(false,10,.bool)],[2]⟩ (.c .o (.c .o (.c .o (.c .o (.c .o (.c .o (.c .o (.j ⟨[],[]⟩ (.j ⟨[(false,50,.bool)],[]⟩ .o .o) .o)))))))) .o)) .o)) .o)))))))))))) call162 func162 (aj b (aj SF al)) al al λs=>(show _=ym bl aM a s.1 s.2 from by kernel_rfl).trans ((congrArg (λd=>ym d aM a s.1 s.2) aJ).trans ((congrArg (λe=>ym id e a s.1 s.2) aN).trans (by kernel_rfl)))
theorem pw:Ko PM:=(show PM=um (ax (Py) az) by kernel_rfl)▸dO (X:=X0) (E:=um) ⟨call162,λ_ _ h=>nomatch h⟩ (P6) az
def XP:aq:=⟨143,[xT,aS],fq,[],U2 Kz⟩
def NS(f:Ex->Ex)(h:Sh->(R:Type)->Option R->Option R)(m:sS)(d:Q1)(a:fz->Option Q1):Q1×Int->Option Q1:=λ⟨b,c⟩=> bif decide (c<(m.2.2.2.2.length:Int)) then (idx m.2.2.2.2 c).bind λg=> (lV (f g.2.1) d).bind λe=> bif e==1 then aG (aH (List.length b+List.length ([c]:y5)) 8)<| a ((b++([c]:y5)),(i64.wrap (c+1))) else a (b,(i64.wrap (c+1))) else some b
def wj(b:Ex->Ex)(c:Sh->(R:Type)->Option R->Option R)(m:sS)(a:Q1):Option Q1:= ax (NS b c m a) az ([],0)
theorem Om:Ko XP:=
 aX (.l ⟨[(false,5,fq),(false,11,an)],[]⟩ .o) call143 func143 (aj pw al) al al λs=>(show _=wj bl aM s.1 s.2 from by kernel_rfl).trans ((congrArg (λa=>wj a aM s.1 s.2) aJ).trans ((congrArg (λb=>wj id b s.1 s.2) aN).trans (by kernel_rfl)))
def XO:aq:=⟨97,[gH,IY],an,[],U2 Bw⟩
theorem OE:Ko XO:=
 aw (.c .o (.l ⟨[(false,14,an)],[]⟩ .o)) call97 func97 (aj lZ al)
def aew:aq:=⟨144,[xT,aS,an],(.cB [fq,an]),[],U3 Yv⟩
def Xy(i:Ex->Ex)(k:Sh->(R:Type)->Option R->Option R)(m:sS)(f:Q1)(e:Q65)(a:fz->Option fz):Q1×Int->Option fz:=λ⟨b,c⟩=> bif decide (c<(e.2.2.length:Int)) then (idx e.2.2 c).bind λd=> (lV (i d.2) f).bind λh=> (idx b d.1).bind λj=> a ((List.set b (Int.toNat d.1) h),(i64.wrap (c+1))) else (Bw m.2.1 b).bind λg=> bif g != 0 then some ([],6) else some (b,0)
def Fq(c:Ex->Ex)(g:Sh->(R:Type)->Option R->Option R)(m:sS)(a:Q1)(k:Int):Option fz:= ai (decide (k<0)) λh=> ai (decide ((m.2.2.2.2.length:Int)<=k)) λf=> ai (h||f) λe=> bif e then ( some ([],10)) else ( (cX a).bind λb=> (idx m.2.2.2.2 k).bind λd=> ax (Xy c g m a d) az (b,0))
theorem Xl:Ko aew:=
 aX (.c .o (.l ⟨[(true,8,fq),(false,29,an)],[]⟩ (.c (.r [8] .o) .o))) call144 func144 (aj dy (aj pw (aj OE al))) al al λs=>(show _=Fq bl aM s.1 s.2.1 s.2.2 from by kernel_rfl).trans ((congrArg (λa=>Fq a aM s.1 s.2.1 s.2.2) aJ).trans ((congrArg (λb=>Fq id b s.1 s.2.1 s.2.2) aN).trans (by kernel_rfl)))
def xA:aq:=⟨30,[(.bx 56 0 true [.sfp,(.own aP 5 false)])],eB,[(true,0,(.bx 56 0 true [.sfp,.same]))],U2 fV⟩
theorem kH:Ko xA:=
 aw .o call30 func30 al
def vr:aq:=⟨21,[ED,.str],(.cB [an,(.jg (.raw .nilIface))]),[(true,0,ED)],λs=>bK s.2.2 s.1 s.2.1⟩
theorem jO:Ko vr:=
 aw .o call21 func21 (aj kH al)
def xP:aq:=⟨189,[ED,iE],(.jg (.raw .nilIface)),[(true,0,ED)],λs=>nS s.2.2 s.1 s.2.1⟩
theorem tX:Ko xP:=
 aw .o call189 func189 (aj kH al)
def Bc:aq:=⟨23,[ED],.str,[],U2 ia⟩
theorem lX:Ko Bc:=
 aw (.r [0] .o) call23 func23 al
def aey:aq:=⟨145,[aS],.str,[],λs=>Yg s⟩
theorem WA:Ko aey:=
 aw (.l ⟨[(true,3,ED),(false,8,an)],[]⟩ .o) call145 func145 (aj YZ (aj jO (aj tX (aj lX al))))
def SS:aq:=⟨100,[ahk,aS],eB,[(true,0,ahk)],λs=>rS s.2.2 s.1 s.2.1⟩
theorem Kk:Ko SS:=
 aw (.j ⟨[(true,0,(.bx 217 0 true [.same,(.mp .s .bo true)]))],[]⟩ .o .o) call100 func100 (aj WA al)
def ae8:aq:=⟨65,[xT,aS],(.cB [iD,an]),[],U2 DF⟩
theorem ajs:(⟨142,Tryz.f142⟩:jV).Ok X0.P:=⟨call142,func142⟩
theorem wb:Ko ae8:=
 aX (.c (.c (.l ⟨[(false,10,an),(true,10004,(.bx 24 0 true [.same])),(true,10005,(.bx 22 0 true [an])),(true,10006,ahk)],[]⟩ .o) .o) (.r [70000,4,5,6] .o)) call65 func65 (aj UT (aj Om (aj Xl (aj Kk (aj dy al))))) al (aj ajs al) λ_=>by kernel_rfl
def ZC:aq:=⟨45,[xT,uA],(.cB [an,aS]),[],U2 PF⟩
theorem Ro:Ko ZC:=
 aw (.c .o (.l ⟨[(true,6,apm),(false,10,an),(false,11,iD)],[]⟩ (.c (.r [] (.c .o (.l ⟨[(true,6,apm),(false,10,an),(false,11,iD),(false,61,an)],[]⟩ .o))) .o))) call45 func45 (aj vU (aj yR (aj wb al)))
def G4:aq:=⟨36,[ag8],.bool,[(true,0,aiz)],λs=>vG s.1 s.2.1 s.2.2.1 s.2.2.2.1 s.2.2.2.2.1 s.2.2.2.2.2.1 s.2.2.2.2.2.2.1 s.2.2.2.2.2.2.2.1 s.2.2.2.2.2.2.2.2.1 (d8 s).2.1 (d8 s).2.2.1 (d8 s).2.2.2.1 (d8 s).2.2.2.2.1 (d8 s).2.2.2.2.2.1 (d8 s).2.2.2.2.2.2.1 (d8 s).2.2.2.2.2.2.2.1 (d8 (d8 s)).1 (d8 (d8 s)).2.1 (d8 (d8 s)).2.2.1 (d8 (d8 s)).2.2.2.1 (d8 (d8 s)).2.2.2.2.1 (d8 (d8 s)).2.2.2.2.2.1 (d8 (d8 s)).2.2.2.2.2.2⟩
theorem Bg:Ko G4:=
 aw .o call36 func36 (aj Ro (aj ij al))
def ix(a:Qe):aq:=⟨197,[(.sli .ex),(.sli .ex),(.fn 155 [] [])],.bool,[],λs=>dT a s.1 s.2⟩
def gP(b:Ex->Ex)(j:Sh->(R:Type)->Option R->Option R)(h:(Ex×Ex)->xb)(f:(List Ex))(g:(List Ex))(a:Int->xb)(c:Int):xb:= bif decide (c<(f.length:Int)) then (idx f c).bind λi=> (idx g c).bind λe=> (h ((b i),(b e))).bind λd=> bif !d then some false else a (i64.wrap (c+1)) else some true
def cP(a:Ex->Ex)(e:Sh->(R:Type)->Option R->Option R)(d:(Ex×Ex)->xb)(c:(List Ex))(b:(List Ex)):xb:= bif (c.length:Int) != (b.length:Int) then some false else ax (gP a e d c b) az 0
theorem gQ(a:Qe)(b:aqj a):Ko (ix a):=
 aX (.c .o (.l ⟨[(false,17,an)],[]⟩ .o)) call197 func197 (aj b al) al al λs=>(show _=cP bl aM a s.1 s.2 from by kernel_rfl).trans ((congrArg (λd=>cP d aM a s.1 s.2) aJ).trans ((congrArg (λe=>cP id e a s.1 s.2) aN).trans (by kernel_rfl)))
def OO:aq:=⟨155,[fJ,fJ],.bool,[],U2 xJ⟩
def O3:Qe->Qe:=λa s=>Pf a s.1 s.2
theorem Qs(a:Qe)(b:aqj a):(uI (O3 a)).Ok X0.P X0.Γ:=
 aw .o call155 func155 (aj (gQ a b) al)
theorem GV:Ko OO:=(show OO=uI (ax (O3) az) by kernel_rfl)▸dO (X:=X0) (E:=uI) ⟨call155,λ_ _ h=>nomatch h⟩ (Qs) az
def Ob:aq:=⟨109,[IC,fJ],mC,[(true,0,IC)],λs=>gA s.2 s.1⟩
def Io(c:Ex->Ex)(i:Sh->(R:Type)->Option R->Option R)(e:Ex)(l:(List Ex))(d:Int->Option Q67)(a:Int):Option Q67:= bif decide (a<(l.length:Int)) then (idx l a).bind λg=> (xJ (c g) (c e)).bind λf=> bif f then ( aG (decide (0<=a))<| some ((bX .u64 1 a),l)) else ( d (i64.wrap (a+1))) else aG (aH (List.length l+List.length ([(Ex.mk 0 0 0 [])]:List Ex)) 48)<| (idx (l++([(Ex.mk 0 0 0 [])]:List Ex)) (l.length:Int)).bind λh=> i (.b .l .l) _ ( aG (decide (0<=(i64.wrap ((List.length (List.set (l++([(Ex.mk 0 0 0 [])]:List Ex)) (Int.toNat (l.length:Int)) (c e)):Int)-1))))<| some ((bX .u64 1 (i64.wrap ((List.length (List.set (l++([(Ex.mk 0 0 0 [])]:List Ex)) (Int.toNat (l.length:Int)) (c e)):Int)-1))),(List.set (l++([(Ex.mk 0 0 0 [])]:List Ex)) (Int.toNat (l.length:Int)) (c e))))
def pR(a:Ex->Ex)(b:Sh->(R:Type)->Option R->Option R)(e:Ex)(l:(List Ex)):Option Q67:= ax (Io a b e l) az 0
theorem uX:Ko Ob:=
 aX (.l ⟨[(true,0,(.bx 234 0 true [.same])),(false,12,an)],[]⟩ (.c .o (.r [0] .o))) call109 func109 (aj GV al) al al λs=>(show _=pR bl aM s.2 s.1 from by kernel_rfl).trans ((congrArg (λa=>pR a aM s.2 s.1) aJ).trans ((congrArg (λb=>pR id b s.2 s.1) aN).trans (by kernel_rfl)))
def rF:aq:=⟨156,[mC,(.dat tZ []),aas,KX,(.bx 232 0 true [IC]),ank],eB,[(true,2,aas),(true,3,KX),(true,4,(.bx 232 0 true [.same])),(true,1005,IC),(true,5,(.bx 283 0 true [.same]))],U5 uB⟩
def Ak(t:Ex->Ex)(y:Sh->(R:Type)->Option R->Option R)(o:Q43->Option Jx)(b:Int)(n:cz)(x:YW)(e:Q8)(l:(List Ex))(m:Int->Option Jx)(a:Int):Option Jx:= aG (decide (0<=a))<| bif (pU .u64 (bJ .u64 b n.1) (bX .u64 1 a))==0 then m (i64.wrap (a+1)) else (idx l a).bind λd=> aG (decide (0<=a))<| (pF (t d)).bind λu=> bif u then ( (o ((bJ .u64 (bJ .u64 b n.1) (bX .u64 1 a)),((dS .u64 n.1 (bX .u64 1 a)),n.2),x,e,l)).bind λs=> some (s.1,s.2.1,s.2.2)) else ( (idx d.l 0).bind λw=> (gA (t w) l).bind λf=> bif d.op==20 then (o ((bJ .u64 (bJ .u64 b n.1) (bX .u64 1 a)),((dS .u64 n.1 (bX .u64 1 a)),(dS .u64 n.2 f.1)),x,e,f.2)).bind λr=> some (r.1,r.2.1,r.2.2) else (idx d.l 1).bind λv=> (gA (t v) f.2).bind λc=> bif d.op==16 then (o ((dS .u64 (dS .u64 (bJ .u64 (bJ .u64 b n.1) (bX .u64 1 a)) f.1) c.1),((dS .u64 n.1 (bX .u64 1 a)),n.2),x,e,c.2)).bind λq=> some (q.1,q.2.1,q.2.2) else bif d.op==17 then (o ((dS .u64 (bJ .u64 (bJ .u64 b n.1) (bX .u64 1 a)) f.1),((dS .u64 n.1 (bX .u64 1 a)),n.2),x,e,c.2)).bind λp=> (o ((dS .u64 (bJ .u64 (bJ .u64 b n.1) (bX .u64 1 a)) c.1),((dS .u64 n.1 (bX .u64 1 a)),n.2),p.1,p.2.1,p.2.2)).bind λk=> some (k.1,k.2.1,k.2.2) else bif d.op==23 then (o ((dS .u64 (bJ .u64 (bJ .u64 b n.1) (bX .u64 1 a)) c.1),((dS .u64 n.1 (bX .u64 1 a)),n.2),x,e,c.2)).bind λj=> (o ((dS .u64 (bJ .u64 (bJ .u64 b n.1) (bX .u64 1 a)) f.1),((dS .u64 n.1 (bX .u64 1 a)),(dS .u64 n.2 (bX .u64 1 a))),j.1,j.2.1,j.2.2)).bind λi=> some (i.1,i.2.1,i.2.2) else bif d.op==24 then (o ((dS .u64 (dS .u64 (bJ .u64 (bJ .u64 b n.1) (bX .u64 1 a)) f.1) c.1),((dS .u64 n.1 (bX .u64 1 a)),n.2),x,e,c.2)).bind λh=> (o ((dS .u64 (bJ .u64 (bJ .u64 b n.1) (bX .u64 1 a)) c.1),((dS .u64 n.1 (bX .u64 1 a)),(dS .u64 n.2 (bX .u64 1 a))),h.1,h.2.1,h.2.2)).bind λg=> some (g.1,g.2.1,g.2.2) else some (x,e,c.2))
def jF(d:Ex->Ex)(e:Sh->(R:Type)->Option R->Option R)(f:Q43->Option Jx)(b:Int)(n:cz)(x:YW)(a:Q8)(l:(List Ex)):Option Jx:= bif (bJ .u64 b n.1)==0 then bif !(ll x n false) then (x).bind λc=> aG (aH (List.length a+List.length ([n]:List cz)) 16)<| some ((some (lR c n true)),(a++([n]:List cz)),l) else some (x,a,l) else ax (Ak d e f b n x a l) az 0
def rJ:abe->abe:=λa s=>rB a s.1 s.2.1 s.2.2.1 s.2.2.2.1 s.2.2.2.2
theorem xK(a:abe)(b:arw a):(gO (rJ a)).Ok X0.P X0.Γ:=
 aX (.c .o (.l ⟨[(true,7,(.bx 239 0 true [.same,.same])),(false,8,an)],[]⟩ (.c .o (.r [40000] (.c .o (.r [4,40000] (.c .o (.r [4,40000] .o)))))))) call156 func156 (aj Cm (aj b (aj uX al))) al al λs=>(show _=jF bl aM a s.1 s.2.1 s.2.2.1 s.2.2.2.1 s.2.2.2.2 from by kernel_rfl).trans ((congrArg (λd=>jF d aM a s.1 s.2.1 s.2.2.1 s.2.2.2.1 s.2.2.2.2) aJ).trans ((congrArg (λe=>jF id e a s.1 s.2.1 s.2.2.1 s.2.2.2.1 s.2.2.2.2) aN).trans (by kernel_rfl)))
theorem y7:Ko rF:=(show rF=gO (ax (rJ) az) by kernel_rfl)▸dO (X:=X0) (E:=gO) ⟨call156,λ_ _ h=>nomatch h⟩ (xK) az
def JS:aq:=⟨111,[IC,mC],(.own tZ 239 true),[(true,0,IC)],λs=>iX s.2 s.1⟩
theorem EG:Ko JS:=
 aw .o call111 func111 (aj y7 al)
def aeE:aq:=⟨110,[(.sli tZ),aao,KX],fq,[(true,1,aao),(true,2,KX)],U3 xG⟩
theorem WZ:Ko aeE:=
 aw (.l ⟨[(true,1,aao),(true,2,KX),(false,5,fq),(false,12,an)],[]⟩ .o) call110 func110 al
def Hj:aq:=⟨109,[(.bx 234 0 false [(.sli .ex)]),fJ],mC,[],λs=>pg s.2 s.1⟩
def CL(c:Ex->Ex)(g:Sh->(R:Type)->Option R->Option R)(e:Ex)(l:(List Ex))(a:Int->x3)(b:Int):x3:= bif decide (b<(l.length:Int)) then (idx l b).bind λf=> (xJ (c f) (c e)).bind λd=> bif d then ( aG (decide (0<=b))<| some (bX .u64 1 b)) else ( a (i64.wrap (b+1))) else none
def mz(a:Ex->Ex)(b:Sh->(R:Type)->Option R->Option R)(e:Ex)(l:(List Ex)):x3:= ax (CL a b e l) az 0
theorem CN:Ko Hj:=
 aX (.l ⟨[(false,12,an)],[]⟩ .o) call109 func109 (aj GV al) al al λs=>(show _=mz bl aM s.2 s.1 from by kernel_rfl).trans ((congrArg (λa=>mz a aM s.2 s.1) aJ).trans ((congrArg (λb=>mz id b s.2 s.1) aN).trans (by kernel_rfl)))
def akx:aq:=⟨70,[fJ],agY,[],λs=>abE s⟩
def ael(g:Ex->Ex)(n:Sh->(R:Type)->Option R->Option R)(j:(List Ex))(i:kg)(l:Int)(e:(kg×Int)->Option dm)(m:cz)(b:((List Ex)×Int)->Option dm):(List Ex)×Int->Option dm:=λ⟨c,a⟩=> bif decide (a<(j.length:Int)) then (idx j a).bind λd=> aG (decide (0<=a))<| ai ((pU .u64 m.1 (bX .u64 1 a)) != 0) λf=> bw f default (pF (g d)) λh=> ai (f&&h) λk=> bif k then ( aG (aH (List.length c+List.length ([(g d)]:List Ex)) 48)<| b ((c++([(g d)]:List Ex)),(i64.wrap (a+1)))) else ( b (c,(i64.wrap (a+1)))) else aG (aH (List.length i+List.length ([c]:List (List Ex))) 24)<| e ((i++([c]:List (List Ex))),(i64.wrap (l+1)))
def aec(h:Ex->Ex)(q:Sh->(R:Type)->Option R->Option R)(m:VC)(e:(List Ex))(o:(List Q1))(p:Q8)(n:kg)(a:gY->Option dm):(List Q1)×Int->Option dm:=λ⟨c,b⟩=> bif decide (b<(e.length:Int)) then (idx e b).bind λd=> (pF (h d)).bind λg=> ai (d.op != 23) λk=> ai (g||k) λj=> bif j then ( a (c,(i64.wrap (b+1)))) else ( (idx d.l 1).bind λi=> (pg (h i) e).bind λf=> ax (YQ p c b a f) az (([]:y5),0)) else some (n,o,m.1,c)
def aev(e:Ex->Ex)(j:Sh->(R:Type)->Option R->Option R)(g:VC)(f:(List Ex))(h:(List Q1))(c:Q8)(a:(kg×Int)->Option dm):kg×Int->Option dm:=λ⟨d,b⟩=> bif decide (b<(c.length:Int)) then (idx c b).bind λi=> ax (ael e j f d b a i) az ([],0) else ax (aec e j g f h c d) az ([],0)
def aex(j:Ex->Ex)(l:Sh->(R:Type)->Option R->Option R)(h:VC)(a:((List Ex)×(List Q1)×Q8×O9×Int)->Option dm):(List Ex)×(List Q1)×Q8×O9×Int->Option dm:=λ⟨g,d,c,i,e⟩=> bif decide (e<(c.length:Int)) then (idx c e).bind λk=> (iX k.2 g).bind λf=> (xG f.1 i c).bind λb=> aG (aH (List.length d+List.length ([b.1]:List Q1)) 24)<| a (f.2,(d++([b.1]:List Q1)),b.2.2,b.2.1,(i64.wrap (e+1))) else ax (aev j l h g d c) az ([],0)
def QX(d:Ex->Ex)(f:Sh->(R:Type)->Option R->Option R)(e:Ex):Option dm:= (gA (d e) []).bind λc=> (iX c.1 c.2).bind λb=> (xG b.1 (some []:O9) []).bind λa=> ax (aex d f a) az (b.2,[],a.2.2,a.2.1,0)
theorem aef:Ko akx:=
 aX (.l ⟨[(true,3,IC),(true,5,(.bx 122 0 true [.same,iD,.same,.same])),(true,6,KX),(true,8,(.fn 110 [] [aao,.same])),(false,9,an)],[]⟩ (.c (.r [8,3,5,40000] .o) (.l ⟨[(true,5,(.bx 122 0 true [(.own (.l .ex) 77 true),.same,.same,.same])),(false,56,an)],[]⟩ (.c (.l ⟨[(true,5,WJ),(false,12,(.own .ex 79 true)),(false,65,an)],[]⟩ (.c (.r [40000] .o) .o)) (.r [30000,20003] (.l ⟨[(true,2,WJ),(true,5,(.bx 122 0 true [.same,.same,.same,iD])),(false,97,an)],[]⟩ (.c (.c .o (.l ⟨[(true,5,WJ),(false,18,fq),(false,118,an)],[]⟩ (.c (.r [40000] .o) .o))) .o))))))) call70 func70 (aj uX (aj EG (aj WZ (aj Cm (aj CN al))))) al al λs=>(show _=QX bl aM s from by kernel_rfl).trans ((congrArg (λa=>QX a aM s) aJ).trans ((congrArg (λb=>QX id b s) aN).trans (by kernel_rfl)))
def IT:aq:=⟨107,[(.dat dD []),an],an,[],U2 kh⟩
theorem Cy:Ko IT:=
 aw .o call107 func107 al
def EW:aq:=⟨154,[aS,an],an,[],U2 tK⟩
theorem yZ:Ko EW:=
 aw (.l ⟨[(false,8,an)],[]⟩ .o) call154 func154 al
def Af:aq:=⟨108,[aS,an],.bool,[],U2 gL⟩
theorem lT:Ko Af:=
 aw .o call108 func108 (aj yZ al)
def aiu:aq:=⟨69,[Mg],agY,[],λs=>QI s⟩
theorem Z7:Ko aiu:=
 aw (.s (.s (.s (.j ⟨[(false,4,xX)],[]⟩ (.c (.l ⟨[(true,5,fq),(false,31,an)],[]⟩ .o) .o) (.l ⟨[(true,9,anB),(false,44,an)],[]⟩ (.c (.l ⟨[(true,9,anB),(false,48,an)],[]⟩ (.c (.s (.s (.s (.j ⟨[(false,12,an)],[]⟩ .o (.l ⟨[(true,9,WJ),(false,13,fq),(false,69,an)],[]⟩ (.c .o (.r [9] .o))))))) .o)) (.l ⟨[(true,9,(.bx 122 0 true [.same,.same,fq,.same])),(false,104,an)],[]⟩ (.c (.r [9] .o) (.l ⟨[(true,2,WJ),(true,9,WJ),(false,18,fq),(false,121,an)],[]⟩ .o))))))))) call69 func69 (aj Cy (aj lT al))
def N7:aq:=⟨47,[fJ],agY,[],λs=>Eb s⟩
def p6(a:Ex->Ex)(f:Sh->(R:Type)->Option R->Option R)(e:Ex):Option dm:= (Gr (a e)).bind λd=> (abE (a d.1)).bind λc=> (QI c).bind λb=> some b
theorem H4:Ko N7:=
 aX .o call47 func47 (aj ME (aj aef (aj Z7 al))) al al λs=>(show _=p6 bl aM s from by kernel_rfl).trans ((congrArg (λa=>p6 a aM s) aJ).trans ((congrArg (λb=>p6 id b s) aN).trans (by kernel_rfl)))
def Zf:aq:=⟨66,[xT,Mg],(.cB [Iz,an]),[],U2 PQ⟩
theorem Rx:Ko Zf:=
 aw (.c .o (.r [40000] .o)) call66 func66 (aj yI (aj hZ al))
def aeP:aq:=⟨146,[Mg,aS,aS],(.fn 190 [] [aaC,(.bx 122 0 true [(.sli (.l .ex)),xX,aS,xX]),aaC]),[],U3 MI⟩
theorem GM:Ko aeP:=
 aw .o call146 func146 al
def Zz:aq:=⟨208,[fJ,MS],.bool,[],U2 E9⟩
def yl(a:Ex->Ex)(c:Sh->(R:Type)->Option R->Option R)(e:Ex)(x:Q1):xb:= (lV (a e) x).bind λb=> some (b != 1)
theorem QW:Ko Zz:=
 aX .o call208 func208 (aj pw al) al al λs=>(show _=yl bl aM s.1 s.2 from by kernel_rfl).trans ((congrArg (λa=>yl a aM s.1 s.2) aJ).trans ((congrArg (λb=>yl id b s.1 s.2) aN).trans (by kernel_rfl)))
def ov:aq:=⟨216,[(.sli .ex),(.fn 208 [] [MS])],an,[],U2 jb⟩
def nc(e:Ex->Ex)(g:Sh->(R:Type)->Option R->Option R)(s:(List Ex))(c:Q1)(a:Int->x3)(b:Int):x3:= bif decide (b<(s.length:Int)) then (idx s b).bind λf=> (E9 (e f) c).bind λd=> bif d then ( some b) else ( a (i64.wrap (b+1))) else some (-1)
def eP(a:Ex->Ex)(b:Sh->(R:Type)->Option R->Option R)(s:(List Ex))(c:Q1):x3:= ax (nc a b s c) az 0
theorem mT:Ko ov:=
 aX (.l ⟨[(false,8,an)],[]⟩ .o) call216 func216 (aj QW al) al al λs=>(show _=eP bl aM s.1 s.2 from by kernel_rfl).trans ((congrArg (λa=>eP a aM s.1 s.2) aJ).trans ((congrArg (λb=>eP id b s.1 s.2) aN).trans (by kernel_rfl)))
def mY:aq:=⟨207,[(.sli .ex),(.fn 208 [] [MS])],.bool,[],U2 hU⟩
theorem lB:Ko mY:=
 aw .o call207 func207 (aj mT al)
def ail:aq:=⟨191,[Mg,an,aS],.bool,[],U3 QG⟩
theorem JB:Ko ail:=
 aw .o call191 func191 (aj lB al)
def tC:aq:=⟨209,[gu,an,an],gu,[],U3 lg⟩
theorem p7:Ko tC:=
 aw (.s (.s (.j ⟨[(false,0,gu),(false,7,mC)],[]⟩ .o .o))) call209 func209 (aj ai6 al)
def Eu:aq:=⟨192,[gu,an,an],gu,[],U3 tM⟩
theorem Aw:Ko Eu:=
 aw .o call192 func192 (aj p7 al)
def Wq:aq:=⟨147,[adA,aS],eB,[(true,0,adA)],λs=>A4 s.2.2 s.1 s.2.1⟩
theorem yU:Ko Wq:=
 aw (.j ⟨[(true,0,(.bx 270 0 true [.same,(.mp .s .bo true)]))],[]⟩ .o (.l ⟨[(true,0,(.bx 270 0 true [.same,.same])),(false,4,gu),(false,18,an)],[]⟩ (.c .o (.r [] (.c (.r [0] .o) .o))))) call147 func147 (aj Aw al)
def aeM:aq:=⟨102,[xT,Mg],iD,[],U2 YE⟩
theorem Yy:(⟨190,Tryz.f190⟩:jV).Ok X0.P:=⟨call190,func190⟩
theorem Xg:Ko aeM:=
 aX (.c (.c (.l ⟨[(false,9,an),(true,10005,adA)],[]⟩ (.c (.n 4 (.c .o .o)) .o)) .o) (.r [70000,5] .o)) call102 func102 (aj GM (aj JB (aj dy (aj yU al)))) al (aj Yy al) λ_=>by kernel_rfl
def JY:bI:=⟨103,[Ng,aS],QM,none,false,false,.bool,[(true,0,Ih)],λs=>lj (d8 (d8 (d8 (d8 (d8 s))))).2.2.2.2.2 s.1 s.2.1 s.2.2.1 s.2.2.2.1 s.2.2.2.2.1 s.2.2.2.2.2.1 s.2.2.2.2.2.2.1 s.2.2.2.2.2.2.2.1 s.2.2.2.2.2.2.2.2.1 (d8 s).2.1 (d8 s).2.2.1 (d8 s).2.2.2.1 (d8 s).2.2.2.2.1 (d8 s).2.2.2.2.2.1 (d8 s).2.2.2.2.2.2.1 (d8 s).2.2.2.2.2.2.2.1 (d8 (d8 s)).1 (d8 (d8 s)).2.1 (d8 (d8 s)).2.2.1 (d8 (d8 s)).2.2.2.1 (d8 (d8 s)).2.2.2.2.1 (d8 (d8 s)).2.2.2.2.2.1 (d8 (d8 s)).2.2.2.2.2.2.1 (d8 (d8 s)).2.2.2.2.2.2.2.1 (d8 (d8 (d8 s))).1 (d8 (d8 (d8 s))).2.1 (d8 (d8 (d8 s))).2.2.1 (d8 (d8 (d8 s))).2.2.2.1 (d8 (d8 (d8 s))).2.2.2.2.1 (d8 (d8 (d8 s))).2.2.2.2.2.1 (d8 (d8 (d8 s))).2.2.2.2.2.2.1 (d8 (d8 (d8 s))).2.2.2.2.2.2.2.1 (d8 (d8 (d8 (d8 s)))).1 (d8 (d8 (d8 (d8 s)))).2.1 (d8 (d8 (d8 (d8 s)))).2.2.1 (d8 (d8 (d8 (d8 s)))).2.2.2.1 (d8 (d8 (d8 (d8 s)))).2.2.2.2.1 (d8 (d8 (d8 (d8 s)))).2.2.2.2.2.1 (d8 (d8 (d8 (d8 s)))).2.2.2.2.2.2.1 (d8 (d8 (d8 (d8 s)))).2.2.2.2.2.2.2.1 (d8 (d8 (d8 (d8 (d8 s))))).1 (d8 (d8 (d8 (d8 (d8 s))))).2.1 (d8 (d8 (d8 (d8 (d8 s))))).2.2.1 (d8 (d8 (d8 (d8 (d8 s))))).2.2.2.1 (d8 (d8 (d8 (d8 (d8 s))))).2.2.2.2.1⟩
theorem kI:pK JY:=
 acE (.s (.s (.j ⟨[],[]⟩ .o .o))) call103 func103 (aj yR al)
def adX:aq:=⟨194,[aS],(.cB [aS,an]),[],λs=>Ia s⟩
theorem DZ:Ko adX:=
 aw .o call194 func194 al
def aep:aq:=⟨193,[xT,Mg,aS],(.cB [iD,an]),[],U3 YP⟩
theorem V1:Ko aep:=
 aX (.c .o (.l ⟨[(true,12,adA),(false,32,an)],[]⟩ (.c (.r [] (.c (.c (.l ⟨[(false,9,an),(true,10012,adA)],[]⟩ (.c (.n 4 (.c .o .o)) .o)) .o) (.r [70000,12] .o))) .o))) call193 func193 (aj DZ (aj wb (aj GM (aj JB (aj dy (aj yU al)))))) al (aj Yy al) λ_=>by kernel_rfl
def Gn:bI:=⟨148,[(.bx 169 0 false QL6),(.own yi 277 true),aS],QM,none,false,false,(.own yi 277 true),[],λs=>gT (d8 (d8 (d8 (d8 (d8 s))))).2.2.2.2.2.1 (d8 (d8 (d8 (d8 (d8 s))))).2.2.2.2.2.2 s.1 s.2.1 s.2.2.1 s.2.2.2.1 s.2.2.2.2.1 s.2.2.2.2.2.1 s.2.2.2.2.2.2.1 s.2.2.2.2.2.2.2.1 s.2.2.2.2.2.2.2.2.1 (d8 s).2.1 (d8 s).2.2.1 (d8 s).2.2.2.1 (d8 s).2.2.2.2.1 (d8 s).2.2.2.2.2.1 (d8 s).2.2.2.2.2.2.1 (d8 s).2.2.2.2.2.2.2.1 (d8 (d8 s)).1 (d8 (d8 s)).2.1 (d8 (d8 s)).2.2.1 (d8 (d8 s)).2.2.2.1 (d8 (d8 s)).2.2.2.2.1 (d8 (d8 s)).2.2.2.2.2.1 (d8 (d8 s)).2.2.2.2.2.2.1 (d8 (d8 s)).2.2.2.2.2.2.2.1 (d8 (d8 (d8 s))).1 (d8 (d8 (d8 s))).2.1 (d8 (d8 (d8 s))).2.2.1 (d8 (d8 (d8 s))).2.2.2.1 (d8 (d8 (d8 s))).2.2.2.2.1 (d8 (d8 (d8 s))).2.2.2.2.2.1 (d8 (d8 (d8 s))).2.2.2.2.2.2.1 (d8 (d8 (d8 s))).2.2.2.2.2.2.2.1 (d8 (d8 (d8 (d8 s)))).1 (d8 (d8 (d8 (d8 s)))).2.1 (d8 (d8 (d8 (d8 s)))).2.2.1 (d8 (d8 (d8 (d8 s)))).2.2.2.1 (d8 (d8 (d8 (d8 s)))).2.2.2.2.1 (d8 (d8 (d8 (d8 s)))).2.2.2.2.2.1 (d8 (d8 (d8 (d8 s)))).2.2.2.2.2.2.1 (d8 (d8 (d8 (d8 s)))).2.2.2.2.2.2.2.1 (d8 (d8 (d8 (d8 (d8 s))))).1 (d8 (d8 (d8 (d8 (d8 s))))).2.1 (d8 (d8 (d8 (d8 (d8 s))))).2.2.1 (d8 (d8 (d8 (d8 (d8 s))))).2.2.2.1 (d8 (d8 (d8 (d8 (d8 s))))).2.2.2.2.1⟩
theorem oJ:pK Gn:=
 acE (.s (.j ⟨[],[]⟩ .o (.r [] (.j ⟨[],[]⟩ .o .o)))) call148 func148 (aj V1 al)
def abM:aq:=⟨149,[Mg,aS],.bool,[],U2 Ud⟩
theorem Sv:Ko abM:=
 aw .o call149 func149 (aj DZ (aj lT al))
def Ah:aq:=⟨153,[Nf],eB,[],λs=>pL s⟩
theorem vW:Ko Ah:=
 aw .o call153 func153 al
def EP:aq:=⟨116,[aS,aS],.bool,[],U2 js⟩
theorem jq:Ko EP:=
 aw (.c .o (.l ⟨[(false,13,an)],[]⟩ .o)) call116 func116 al
def Zp:aq:=⟨151,[(.sli yi)],iD,[],λs=>E8 s⟩
theorem Qf:Ko Zp:=
 aw (.l ⟨[(false,3,iD),(false,8,an)],[]⟩ .o) call151 func151 al
def y9:bI:=⟨150,[Nf,aS,MS,(.bx 225 0 false [Nf])],SD,none,false,true,eB,[],U4 pN⟩
theorem wM:pK y9:=
 acE (.c (.r [80000] .o) .o) call150 func150 (aj jq (aj Qf al))
def aic:aq:=⟨264,[an],iE,[],λs=>QT s⟩
theorem Jw:Ko aic:=
 aw .o call264 func264 al
def ZT:aq:=⟨258,[an,iE,ags,aaA],eB,[(true,3,aaA)],U7 PU⟩
theorem Rg:Ko ZT:=
 aw .o call258 func258 al
def ajL:aq:=⟨257,[Qv,dj,an,(.fn 258 [] [ags,aaA])],an,[(true,3,(.fn 258 [] [.same,aaA]))],U8 agn⟩
theorem abN:Ko ajL:=
 aw .o call257 func257 (aj Jw (aj kG (aj Rg al)))
def aix:aq:=⟨252,[Qv,dj,an],Eg,[],U3 adx⟩
theorem Z1:Ko aix:=
 aw .o call252 func252 (aj abN al)
def NN:aq:=⟨246,[lz,lf,aS,an],Eg,[],U4 Dj⟩
theorem Ja:Ko NN:=
 aw (.r [5] .o) call246 func246 (aj dV (aj Z1 al))
def aj1:aq:=⟨295,[Mp,gH,aS,an],(.cB [an,an]),[],U4 Xz⟩
theorem Ma:Ko aj1:=
 aw .o call295 func295 (aj eW (aj Ge al))
def ahI:aq:=⟨292,[Mp,gH,aS,an],Eg,[],U4 adi⟩
theorem Z2:Ko ahI:=
 aw .o call292 func292 (aj Ma al)
def Km:aq:=⟨286,[lz,lf,aS,an],Eg,[],U4 BJ⟩
theorem G2:Ko Km:=
 aw .o call286 func286 (aj Z2 al)
def aiU:aq:=⟨315,[Ld,gH,aS,an],(.cB [an,an]),[],U4 Wf⟩
theorem KJ:Ko aiU:=
 aw .o call315 func315 (aj eW (aj FI al))
def agx:aq:=⟨310,[Ld,gH,aS,an],Eg,[],U4 abG⟩
theorem Ze:Ko agx:=
 aw .o call310 func310 (aj KJ al)
def Lg:aq:=⟨304,[lz,lf,aS,an],Eg,[],U4 Cq⟩
theorem F3:Ko Lg:=
 aw .o call304 func304 (aj Ze al)
def SZ:aq:=⟨337,[lf,aS,an],an,[],U3 yA⟩
theorem xi:Ko SZ:=
 aw (.c .o (.r [3] .o)) call337 func337 (aj dV (aj vd al))
def NM:aq:=⟨331,[lz,lf,aS,an],Eg,[],U4 DW⟩
theorem HE:Ko NM:=
 aw (.c .o (.r [5] .o)) call331 func331 (aj xi (aj dV (aj vd al)))
def ag5:aq:=⟨374,[uh,dj,an],an,[],U3 RT⟩
theorem Ji:Ko ag5:=
 aw .o call374 func374 (aj Cd al)
def Xk:aq:=⟨378,[uh,dj,an,Wt],eB,[(true,3,Wt)],U4 Lh⟩
theorem OD:Ko Xk:=
 aw (.l ⟨[(true,3,Wt),(false,19,an)],[]⟩ (.c (.r [3] .o) .o)) call378 func378 (aj kx al)
def Zv:aq:=⟨375,[uh,dj,an],.bool,[],U3 Pa⟩
theorem Rd:Ko Zv:=
 aw .o call375 func375 (aj OD al)
def ahE:aq:=⟨371,[uh,dj,an],Eg,[],U3 abi⟩
theorem ZQ:Ko ahE:=
 aw .o call371 func371 (aj Ji (aj Rd al))
def NQ:aq:=⟨365,[lz,lf,aS,an],Eg,[],U4 Dm⟩
theorem HX:Ko NQ:=
 aw (.r [5] .o) call365 func365 (aj dV (aj ZQ al))
def aeN:aq:=⟨195,[lf,aS,an],Eg,[],U3 Yz⟩
theorem V8:Ko aeN:=
 aw (.c .o (.r [3] .o)) call195 func195 (aj eW (aj yc (aj Ja (aj G2 (aj F3 (aj HE (aj HX al)))))))
def ZJ:aq:=⟨262,[an,iE,ags,ahx],eB,[(true,3,(.bx 98 0 true [.same,.same,.same,dj]))],λs=>OP s.1 s.2.1 s.2.2.1 s.2.2.2.1 s.2.2.2.2.1 s.2.2.2.2.2.1 s.2.2.2.2.2.2.1 s.2.2.2.2.2.2.2.1 s.2.2.2.2.2.2.2.2.1 (d8 s).2⟩
theorem Qq:Ko ZJ:=
 aw .o call262 func262 (aj dM al)
def abL:aq:=⟨257,[Qv,dj,an,(.fn 262 [] [ags,ahx])],an,[(true,3,(.fn 262 [] [.same,ahx]))],λs=>Uk s.1 s.2.1 s.2.2.1 s.2.2.2.1 s.2.2.2.2.1 s.2.2.2.2.2.1 s.2.2.2.2.2.2.1 s.2.2.2.2.2.2.2.1 s.2.2.2.2.2.2.2.2.1 (d8 s).2.1 (d8 s).2.2⟩
theorem UN:Ko abL:=
 aw .o call257 func257 (aj Jw (aj kG (aj Qq al)))
def ahd:aq:=⟨255,[Qv,dj,an],(.cB [Qv,an]),[],U3 abh⟩
theorem ZM:Ko ahd:=
 aw .o call255 func255 (aj UN al)
def Of:aq:=⟨250,[lz,lf,aS,an],Au,[],U4 Ea⟩
theorem IW:Ko Of:=
 aw (.r [40000] .o) call250 func250 (aj dV (aj ZM al))
def agA:aq:=⟨294,[Mp,gH,aS,an],(.cB [Mp,an]),[],U4 adL⟩
theorem Y4:Ko agA:=
 aw (.c .o (.r [4] .o)) call294 func294 (aj Ma (aj dM al))
def Li:aq:=⟨290,[lz,lf,aS,an],Au,[],U4 Ba⟩
theorem Ha:Ko Li:=
 aw .o call290 func290 (aj Y4 al)
def agK:aq:=⟨312,[Ld,gH,aS,an],(.cB [Ld,an]),[],U4 abS⟩
theorem aah:Ko agK:=
 aw (.c .o (.r [4] .o)) call312 func312 (aj KJ (aj dM al))
def LZ:aq:=⟨308,[lz,lf,aS,an],Au,[],U4 Bs⟩
theorem GC:Ko LZ:=
 aw .o call308 func308 (aj aah al)
def NJ:aq:=⟨335,[lz,lf,aS,an],Au,[],U4 DP⟩
theorem Jb:Ko NJ:=
 aw (.c .o (.r [5] .o)) call335 func335 (aj xi (aj dV (aj De al)))
def WH:aq:=⟨378,[(.dat E3 [none,some 11,none]),dj,(.jg (.int .i64 1)),(.fn 380 [] [])],eB,[(true,0,(.agg [.same,.same,.same,.same,gu,.same]))],U2 Kj⟩
theorem Oi:Ko WH:=
 aw (.l ⟨[(true,0,(.agg [.same,.same,.same,.same,gu,.same])),(false,19,an)],[]⟩ (.c (.r [4,0] .o) .o)) call378 func378 (aj kx al)
def Xo:aq:=⟨378,[(.dat E3 [none,none,some 11]),dj,(.jg (.int .i64 2)),(.fn 380 [] [])],eB,[(true,0,(.agg [.same,.same,.same,.same,.same,gu]))],U2 Lc⟩
theorem NY:Ko Xo:=
 aw (.l ⟨[(true,0,(.agg [.same,.same,.same,.same,.same,gu])),(false,19,an)],[]⟩ (.c (.r [4,0] .o) .o)) call378 func378 (aj kx al)
def Zl:aq:=⟨377,[uh,dj,an],uh,[],U3 Pu⟩
theorem P9:Ko Zl:=
 aw (.r [60000,2,0,0,1,2] (.c .o (.c .o (.c .o (.n 77777 .o))))) call377 func377 (aj dM (aj yN (aj Oi (aj NY al))))
def ag7:aq:=⟨373,[uh,dj,an],(.cB [uh,an]),[],U3 ads⟩
theorem Zc:Ko ag7:=
 aw .o call373 func373 (aj Ji (aj P9 al))
def NV:aq:=⟨369,[lz,lf,aS,an],Au,[],U4 Dz⟩
theorem HR:Ko NV:=
 aw (.r [40000] .o) call369 func369 (aj dV (aj Zc al))
def aeo:aq:=⟨196,[lf,aS,an],Au,[],U3 YX⟩
theorem WI:Ko aeo:=
 aw (.c .o (.r [3,6] .o)) call196 func196 (aj eW (aj yc (aj IW (aj Ha (aj GC (aj Jb (aj HR al)))))))
def JI:bI:=⟨152,[Ng,aS],QM,none,false,false,.bool,[(true,0,Ih)],λs=>yW (d8 (d8 (d8 (d8 (d8 s))))).2.2.2.2.2 s.1 s.2.1 s.2.2.1 s.2.2.2.1 s.2.2.2.2.1 s.2.2.2.2.2.1 s.2.2.2.2.2.2.1 s.2.2.2.2.2.2.2.1 s.2.2.2.2.2.2.2.2.1 (d8 s).2.1 (d8 s).2.2.1 (d8 s).2.2.2.1 (d8 s).2.2.2.2.1 (d8 s).2.2.2.2.2.1 (d8 s).2.2.2.2.2.2.1 (d8 s).2.2.2.2.2.2.2.1 (d8 (d8 s)).1 (d8 (d8 s)).2.1 (d8 (d8 s)).2.2.1 (d8 (d8 s)).2.2.2.1 (d8 (d8 s)).2.2.2.2.1 (d8 (d8 s)).2.2.2.2.2.1 (d8 (d8 s)).2.2.2.2.2.2.1 (d8 (d8 s)).2.2.2.2.2.2.2.1 (d8 (d8 (d8 s))).1 (d8 (d8 (d8 s))).2.1 (d8 (d8 (d8 s))).2.2.1 (d8 (d8 (d8 s))).2.2.2.1 (d8 (d8 (d8 s))).2.2.2.2.1 (d8 (d8 (d8 s))).2.2.2.2.2.1 (d8 (d8 (d8 s))).2.2.2.2.2.2.1 (d8 (d8 (d8 s))).2.2.2.2.2.2.2.1 (d8 (d8 (d8 (d8 s)))).1 (d8 (d8 (d8 (d8 s)))).2.1 (d8 (d8 (d8 (d8 s)))).2.2.1 (d8 (d8 (d8 (d8 s)))).2.2.2.1 (d8 (d8 (d8 (d8 s)))).2.2.2.2.1 (d8 (d8 (d8 (d8 s)))).2.2.2.2.2.1 (d8 (d8 (d8 (d8 s)))).2.2.2.2.2.2.1 (d8 (d8 (d8 (d8 s)))).2.2.2.2.2.2.2.1 (d8 (d8 (d8 (d8 (d8 s))))).1 (d8 (d8 (d8 (d8 (d8 s))))).2.1 (d8 (d8 (d8 (d8 (d8 s))))).2.2.1 (d8 (d8 (d8 (d8 (d8 s))))).2.2.2.1 (d8 (d8 (d8 (d8 (d8 s))))).2.2.2.2.1⟩
theorem Fb:pK JI:=
 oV .o call152 func152 (aj V8 (aj WI al)) (aj kI al) al λ_=>by kernel_rfl
def FK:bI:=⟨104,[Ng,aS,(.fn 152 [(.ptr 0 0)] []),(.fn 150 [] [MS,(.bx 225 0 false [Nf])]),(.fn 153 [] [])],QM,some SD,false,true,eB,[(true,0,Ih)],λs=>vO (d8 (d8 (d8 (d8 (d8 s))))).2.2.2.2.2.1 s.1 s.2.1 s.2.2.1 s.2.2.2.1 s.2.2.2.2.1 s.2.2.2.2.2.1 s.2.2.2.2.2.2.1 s.2.2.2.2.2.2.2.1 s.2.2.2.2.2.2.2.2.1 (d8 s).2.1 (d8 s).2.2.1 (d8 s).2.2.2.1 (d8 s).2.2.2.2.1 (d8 s).2.2.2.2.2.1 (d8 s).2.2.2.2.2.2.1 (d8 s).2.2.2.2.2.2.2.1 (d8 (d8 s)).1 (d8 (d8 s)).2.1 (d8 (d8 s)).2.2.1 (d8 (d8 s)).2.2.2.1 (d8 (d8 s)).2.2.2.2.1 (d8 (d8 s)).2.2.2.2.2.1 (d8 (d8 s)).2.2.2.2.2.2.1 (d8 (d8 s)).2.2.2.2.2.2.2.1 (d8 (d8 (d8 s))).1 (d8 (d8 (d8 s))).2.1 (d8 (d8 (d8 s))).2.2.1 (d8 (d8 (d8 s))).2.2.2.1 (d8 (d8 (d8 s))).2.2.2.2.1 (d8 (d8 (d8 s))).2.2.2.2.2.1 (d8 (d8 (d8 s))).2.2.2.2.2.2.1 (d8 (d8 (d8 s))).2.2.2.2.2.2.2.1 (d8 (d8 (d8 (d8 s)))).1 (d8 (d8 (d8 (d8 s)))).2.1 (d8 (d8 (d8 (d8 s)))).2.2.1 (d8 (d8 (d8 (d8 s)))).2.2.2.1 (d8 (d8 (d8 (d8 s)))).2.2.2.2.1 (d8 (d8 (d8 (d8 s)))).2.2.2.2.2.1 (d8 (d8 (d8 (d8 s)))).2.2.2.2.2.2.1 (d8 (d8 (d8 (d8 s)))).2.2.2.2.2.2.2.1 (d8 (d8 (d8 (d8 (d8 s))))).1 (d8 (d8 (d8 (d8 (d8 s))))).2.1 (d8 (d8 (d8 (d8 (d8 s))))).2.2.1 (d8 (d8 (d8 (d8 (d8 s))))).2.2.2.1 (d8 (d8 (d8 (d8 (d8 s))))).2.2.2.2.1 (d8 (d8 (d8 (d8 (d8 s))))).2.2.2.2.2.2.1 (d8 (d8 (d8 (d8 (d8 s))))).2.2.2.2.2.2.2⟩
theorem BE:pK FK:=
 oV (.l ⟨[(true,0,Ih),(false,11,(.own yi 277 true))],[]⟩ .o) call104 func104 (aj vW al) (aj oJ (aj wM (aj Fb al))) al λ_=>by kernel_rfl
def EJ:bI:=⟨106,[Ng,Nf],QM,some SD,false,true,eB,[(true,0,Ih)],λs=>tH (d8 (d8 (d8 (d8 (d8 s))))).2.2.2.2.2 s.1 s.2.1 s.2.2.1 s.2.2.2.1 s.2.2.2.2.1 s.2.2.2.2.2.1 s.2.2.2.2.2.2.1 s.2.2.2.2.2.2.2.1 s.2.2.2.2.2.2.2.2.1 (d8 s).2.1 (d8 s).2.2.1 (d8 s).2.2.2.1 (d8 s).2.2.2.2.1 (d8 s).2.2.2.2.2.1 (d8 s).2.2.2.2.2.2.1 (d8 s).2.2.2.2.2.2.2.1 (d8 (d8 s)).1 (d8 (d8 s)).2.1 (d8 (d8 s)).2.2.1 (d8 (d8 s)).2.2.2.1 (d8 (d8 s)).2.2.2.2.1 (d8 (d8 s)).2.2.2.2.2.1 (d8 (d8 s)).2.2.2.2.2.2.1 (d8 (d8 s)).2.2.2.2.2.2.2.1 (d8 (d8 (d8 s))).1 (d8 (d8 (d8 s))).2.1 (d8 (d8 (d8 s))).2.2.1 (d8 (d8 (d8 s))).2.2.2.1 (d8 (d8 (d8 s))).2.2.2.2.1 (d8 (d8 (d8 s))).2.2.2.2.2.1 (d8 (d8 (d8 s))).2.2.2.2.2.2.1 (d8 (d8 (d8 s))).2.2.2.2.2.2.2.1 (d8 (d8 (d8 (d8 s)))).1 (d8 (d8 (d8 (d8 s)))).2.1 (d8 (d8 (d8 (d8 s)))).2.2.1 (d8 (d8 (d8 (d8 s)))).2.2.2.1 (d8 (d8 (d8 (d8 s)))).2.2.2.2.1 (d8 (d8 (d8 (d8 s)))).2.2.2.2.2.1 (d8 (d8 (d8 (d8 s)))).2.2.2.2.2.2.1 (d8 (d8 (d8 (d8 s)))).2.2.2.2.2.2.2.1 (d8 (d8 (d8 (d8 (d8 s))))).1 (d8 (d8 (d8 (d8 (d8 s))))).2.1 (d8 (d8 (d8 (d8 (d8 s))))).2.2.1 (d8 (d8 (d8 (d8 (d8 s))))).2.2.2.1 (d8 (d8 (d8 (d8 (d8 s))))).2.2.2.2.1⟩
theorem An:pK EJ:=
 oV .o call106 func106 (aj Sv al) (aj BE al) al λ_=>by kernel_rfl
def Ao:aq:=⟨105,[Nf,aS],eB,[],U2 pM⟩
theorem wa:Ko Ao:=
 aw .o call105 func105 al
def MD:bI:=⟨104,[Ng,aS,(.fn 103 [(.ptr 0 0)] []),(.fn 105 [] []),(.fn 106 [(.ptr 0 0)] [])],QM,some SD,false,false,eB,[(true,0,Ih)],λs=>BV (d8 (d8 (d8 (d8 (d8 s))))).2.2.2.2.2 s.1 s.2.1 s.2.2.1 s.2.2.2.1 s.2.2.2.2.1 s.2.2.2.2.2.1 s.2.2.2.2.2.2.1 s.2.2.2.2.2.2.2.1 s.2.2.2.2.2.2.2.2.1 (d8 s).2.1 (d8 s).2.2.1 (d8 s).2.2.2.1 (d8 s).2.2.2.2.1 (d8 s).2.2.2.2.2.1 (d8 s).2.2.2.2.2.2.1 (d8 s).2.2.2.2.2.2.2.1 (d8 (d8 s)).1 (d8 (d8 s)).2.1 (d8 (d8 s)).2.2.1 (d8 (d8 s)).2.2.2.1 (d8 (d8 s)).2.2.2.2.1 (d8 (d8 s)).2.2.2.2.2.1 (d8 (d8 s)).2.2.2.2.2.2.1 (d8 (d8 s)).2.2.2.2.2.2.2.1 (d8 (d8 (d8 s))).1 (d8 (d8 (d8 s))).2.1 (d8 (d8 (d8 s))).2.2.1 (d8 (d8 (d8 s))).2.2.2.1 (d8 (d8 (d8 s))).2.2.2.2.1 (d8 (d8 (d8 s))).2.2.2.2.2.1 (d8 (d8 (d8 s))).2.2.2.2.2.2.1 (d8 (d8 (d8 s))).2.2.2.2.2.2.2.1 (d8 (d8 (d8 (d8 s)))).1 (d8 (d8 (d8 (d8 s)))).2.1 (d8 (d8 (d8 (d8 s)))).2.2.1 (d8 (d8 (d8 (d8 s)))).2.2.2.1 (d8 (d8 (d8 (d8 s)))).2.2.2.2.1 (d8 (d8 (d8 (d8 s)))).2.2.2.2.2.1 (d8 (d8 (d8 (d8 s)))).2.2.2.2.2.2.1 (d8 (d8 (d8 (d8 s)))).2.2.2.2.2.2.2.1 (d8 (d8 (d8 (d8 (d8 s))))).1 (d8 (d8 (d8 (d8 (d8 s))))).2.1 (d8 (d8 (d8 (d8 (d8 s))))).2.2.1 (d8 (d8 (d8 (d8 (d8 s))))).2.2.2.1 (d8 (d8 (d8 (d8 (d8 s))))).2.2.2.2.1⟩
theorem Gd:pK MD:=
 oV (.l ⟨[(true,0,Ih),(false,11,(.own yi 277 true))],[]⟩ .o) call104 func104 (aj wa al) (aj oJ (aj An (aj kI al))) al λ_=>by kernel_rfl
def JR:bI:=⟨68,[Ng],QM,some SD,false,false,eB,[(true,0,Ih)],λs=>yO s.1 s.2.1 s.2.2.1 s.2.2.2.1 s.2.2.2.2.1 s.2.2.2.2.2.1 s.2.2.2.2.2.2.1 s.2.2.2.2.2.2.2.1 s.2.2.2.2.2.2.2.2.1 (d8 s).2.1 (d8 s).2.2.1 (d8 s).2.2.2.1 (d8 s).2.2.2.2.1 (d8 s).2.2.2.2.2.1 (d8 s).2.2.2.2.2.2.1 (d8 s).2.2.2.2.2.2.2.1 (d8 (d8 s)).1 (d8 (d8 s)).2.1 (d8 (d8 s)).2.2.1 (d8 (d8 s)).2.2.2.1 (d8 (d8 s)).2.2.2.2.1 (d8 (d8 s)).2.2.2.2.2.1 (d8 (d8 s)).2.2.2.2.2.2.1 (d8 (d8 s)).2.2.2.2.2.2.2.1 (d8 (d8 (d8 s))).1 (d8 (d8 (d8 s))).2.1 (d8 (d8 (d8 s))).2.2.1 (d8 (d8 (d8 s))).2.2.2.1 (d8 (d8 (d8 s))).2.2.2.2.1 (d8 (d8 (d8 s))).2.2.2.2.2.1 (d8 (d8 (d8 s))).2.2.2.2.2.2.1 (d8 (d8 (d8 s))).2.2.2.2.2.2.2.1 (d8 (d8 (d8 (d8 s)))).1 (d8 (d8 (d8 (d8 s)))).2.1 (d8 (d8 (d8 (d8 s)))).2.2.1 (d8 (d8 (d8 (d8 s)))).2.2.2.1 (d8 (d8 (d8 (d8 s)))).2.2.2.2.1 (d8 (d8 (d8 (d8 s)))).2.2.2.2.2.1 (d8 (d8 (d8 (d8 s)))).2.2.2.2.2.2.1 (d8 (d8 (d8 (d8 s)))).2.2.2.2.2.2.2.1 (d8 (d8 (d8 (d8 (d8 s))))).1 (d8 (d8 (d8 (d8 (d8 s))))).2.1 (d8 (d8 (d8 (d8 (d8 s))))).2.2.1 (d8 (d8 (d8 (d8 (d8 s))))).2.2.2.1 (d8 (d8 (d8 (d8 (d8 s))))).2.2.2.2⟩
theorem EN:pK JR:=
 oV (.r [] (.l ⟨[(true,0,Ih),(false,14,an)],[]⟩ .o)) call68 func68 (aj Xg al) (aj kI (aj Gd al)) al λ_=>by kernel_rfl
def aeU:aq:=⟨46,[xT,Mg,uA],(.cB [.bool,QZ,an,aS]),[],U3 X7⟩
theorem amu:(⟨67,Tryz.f67⟩:jV).Ok X0.P:=⟨call67,func67⟩
theorem WB:Ko aeU:=
 aX (.c (.r [6,7,8,9] .o) .o) call46 func46 (aj Rx (aj vU al)) (aj EN al) (aj amu al) λ_=>by kernel_rfl
def ZD:aq:=⟨71,[aS],aS,[],λs=>Pc s⟩
theorem RV:Ko ZD:=
 aw .o call71 func71 al
def IF:aq:=⟨72,[xX,(.fn 71 [] [])],iD,[],λs=>oI s⟩
theorem C2:Ko IF:=
 aw (.l ⟨[(false,5,iD),(false,10,an)],[]⟩ .o) call72 func72 (aj RV al)
def agM:aq:=⟨48,[QZ],QZ,[],λs=>aaX s⟩
theorem ZF:Ko agM:=
 aw (.r [2] .o) call48 func48 (aj C2 al)
def C3:aq:=⟨113,[(.sli lS)],iD,[],λs=>lE s⟩
theorem na:Ko C3:=
 aw (.l ⟨[(false,3,an),(false,11,an)],[]⟩ (.c .o (.l ⟨[(false,6,iD),(false,27,an)],[]⟩ .o))) call113 func113 (aj aj8 al)
def XB:aq:=⟨115,[aS,ahu],.bool,[],U6 Mh⟩
theorem N4:Ko XB:=
 aw .o call115 func115 (aj eW al)
def FJ:aq:=⟨114,[xX,(.fn 115 [] [ahu])],dR,[],U6 vP⟩
theorem Cb:Ko FJ:=
 aw (.l ⟨[(false,5,dR),(false,10,an)],[]⟩ .o) call114 func114 (aj N4 al)
def Oj:aq:=⟨120,[aS,MS],.bool,[],U2 DS⟩
theorem Hy:Ko Oj:=
 aw .o call120 func120 (aj jq al)
def yz:aq:=⟨158,[xX,(.fn 120 [] [MS])],an,[],U2 od⟩
theorem vx:Ko yz:=
 aw (.l ⟨[(false,8,an)],[]⟩ .o) call158 func158 (aj Hy al)
def vq:aq:=⟨119,[xX,(.fn 120 [] [MS])],.bool,[],U2 lW⟩
theorem rY:Ko vq:=
 aw .o call119 func119 (aj vx al)
def XQ:aq:=⟨118,[aS,aS,ahu],.bool,[],U7 Mw⟩
theorem Oc:Ko XQ:=
 aw .o call118 func118 (aj wb (aj rY al))
def Qd:aq:=⟨117,[xX,(.fn 118 [] [ahu])],.bool,[],U6 Hf⟩
theorem Ke:Ko Qd:=
 aw (.l ⟨[(false,5,an)],[]⟩ (.c (.r [1] .o) .o)) call117 func117 (aj Oc al)
def aeO:aq:=⟨73,[xT,QZ],.bool,[],U2 L0⟩
theorem WW:Ko aeO:=
 aw (.c .o (.r [] (.r [6] .o))) call73 func73 (aj na (aj Cb (aj gf (aj jq (aj Ke al)))))
def aa7:aq:=⟨75,[QZ],(.dat (.p lS aY) [some 47]),[],λs=>HG s⟩
theorem Vn:Ko aa7:=
 aw (.r [2] .o) call75 func75 (aj na al)
def ajl:aq:=⟨159,[fJ],.bool,[],λs=>Wa s⟩
def K3(a:Ex->Ex)(g:Sh->(R:Type)->Option R->Option R)(e:Ex):xb:= (kr (a e)).bind λd=> ai (d.2.1==0) λf=> ai (d.1==2) λc=> ai (f&&c) λb=> some b
theorem aaO:Ko ajl:=
 aX .o call159 func159 (aj pk al) al al λs=>(show _=K3 bl aM s from by kernel_rfl).trans ((congrArg (λa=>K3 a aM s) aJ).trans ((congrArg (λb=>K3 id b s) aN).trans (by kernel_rfl)))
def acH:aq:=⟨161,[an,Xw,MC],.bool,[],U7 Sj⟩
theorem S5:Ko acH:=
 aw .o call161 func161 (aj pw al)
def agL:aq:=⟨160,[an,(.fn 161 [] [Xw,MC])],dR,[],U7 QH⟩
theorem ZG:Ko agL:=
 aw (.l ⟨[(true,5,dR),(false,11,an)],[]⟩ .o) call160 func160 (aj S5 al)
def aaT:aq:=⟨165,[an,jk],.bool,[],U2 Us⟩
theorem Sy:Ko aaT:=
 aw .o call165 func165 al
def Z5:aq:=⟨160,[an,(.fn 165 [] [jk])],dR,[],U2 Pw⟩
theorem Qw:Ko Z5:=
 aw (.l ⟨[(true,5,dR),(false,11,an)],[]⟩ .o) call160 func160 (aj Sy al)
def acO:aq:=⟨166,[an,jk,jk],.bool,[],U3 UJ⟩
theorem UW:Ko acO:=
 aw .o call166 func166 al
def Zn:aq:=⟨160,[an,(.fn 166 [] [jk,jk])],dR,[],U3 PV⟩
theorem QA:Ko Zn:=
 aw (.l ⟨[(true,5,dR),(false,11,an)],[]⟩ .o) call160 func160 (aj UW al)
def abq:aq:=⟨167,[an,jk,jk],.bool,[],U3 Su⟩
theorem Vs:Ko abq:=
 aw .o call167 func167 al
def Za:aq:=⟨160,[an,(.fn 167 [] [jk,jk])],dR,[],U3 OJ⟩
theorem Qn:Ko Za:=
 aw (.l ⟨[(true,5,dR),(false,11,an)],[]⟩ .o) call160 func160 (aj Vs al)
def abp:aq:=⟨168,[an,jk,jk],.bool,[],U3 VP⟩
theorem S8:Ko abp:=
 aw .o call168 func168 al
def Zs:aq:=⟨160,[an,(.fn 168 [] [jk,jk])],dR,[],U3 OZ⟩
theorem Rf:Ko Zs:=
 aw (.l ⟨[(true,5,dR),(false,11,an)],[]⟩ .o) call160 func160 (aj S8 al)
def acx:aq:=⟨169,[an,jk,jk],.bool,[],U3 Se⟩
theorem Sl:Ko acx:=
 aw .o call169 func169 al
def Zi:aq:=⟨160,[an,(.fn 169 [] [jk,jk])],dR,[],U3 O8⟩
theorem P4:Ko Zi:=
 aw (.l ⟨[(true,5,dR),(false,11,an)],[]⟩ .o) call160 func160 (aj Sl al)
def ah4:aq:=⟨171,[MU,an],an,[],U2 Jd⟩
theorem xW:Ko ah4:=
 aw .o call171 func171 al
def acA:aq:=⟨170,[an,jk,MC],.bool,[],U4 SH⟩
theorem SO:Ko acA:=
 aw .o call170 func170 (aj xW al)
def Z4:aq:=⟨160,[an,(.fn 170 [] [jk,MC])],dR,[],U4 O6⟩
theorem R7:Ko Z4:=
 aw (.l ⟨[(true,5,dR),(false,11,an)],[]⟩ .o) call160 func160 (aj SO al)
def Vd:aq:=⟨164,[an,Nd],.bool,[],U2 Jm⟩
theorem K4:Ko Vd:=
 aw .o call164 func164 al
def Zd:aq:=⟨160,[an,(.fn 164 [] [Nd])],dR,[],U2 OS⟩
theorem RH:Ko Zd:=
 aw (.l ⟨[(true,5,dR),(false,11,an)],[]⟩ .o) call160 func160 (aj K4 al)
def aaV:aq:=⟨163,[.bool,(.bx 3 0 false [an])],dR,[],U2 Hi⟩
theorem VE:Ko aaV:=
 aw .o call163 func163 (aj RH al)
def Wg:aq:=⟨210,[an,Nd],.bool,[],U2 Mr⟩
theorem Ot:Ko Wg:=
 aw .o call210 func210 al
def aae:aq:=⟨160,[an,(.fn 210 [] [Nd])],dR,[],U2 Fh⟩
theorem Bj:Ko aae:=
 aw (.l ⟨[(true,5,dR),(false,11,an)],[]⟩ .o) call160 func160 (aj Ot al)
def NK:aq:=⟨200,[an,(.own .bo 4 false),K9,K9,MC],.bool,[],U6 Dg⟩
theorem HQ:Ko NK:=
 aw .o call200 func200 (aj xW al)
def XN:aq:=⟨211,[an,(.bx 321 0 false [ahC]),jk],.bool,[],λs=>Mi s.1 s.2.2.2.2.2 s.2.1 s.2.2.1 s.2.2.2.1 s.2.2.2.2.1⟩
theorem OA:Ko XN:=
 aw .o call211 func211 (aj HQ al)
def XK:aq:=⟨160,[an,(.fn 211 [] [(.bx 321 0 false [ahC]),jk])],dR,[],λs=>Mm s.1 s.2.2.2.2.2 s.2.1 s.2.2.1 s.2.2.2.1 s.2.2.2.2.1⟩
theorem NZ:Ko XK:=
 aw (.l ⟨[(true,5,dR),(false,11,an)],[]⟩ .o) call160 func160 (aj OA al)
def uM:aq:=⟨212,[(.own .bo 4 false),(.own .bo 4 false)],.bool,[],U2 gU⟩
theorem jy:Ko uM:=
 aw (.c .o (.l ⟨[(false,13,an)],[]⟩ .o)) call212 func212 al
def aeJ:aq:=⟨199,[MU,.bool,ahC],dR,[],U6 X9⟩
theorem XG:Ko aeJ:=
 aw (.n 0 (.j ⟨[(true,7,(.bx 287 0 true [dR]))],[]⟩ .o .o)) call199 func199 (aj Bj (aj NZ (aj jy al)))
def aej:aq:=⟨172,[MU,(.sli .bo),(.sli .bo)],dR,[],U3 Lx⟩
theorem Wm:Ko aej:=
 aw .o call172 func172 (aj XG al)
def J6:aq:=⟨201,[an,(.own .bo 4 false),K9,K9,MC],.bool,[],U6 yJ⟩
theorem Fw:Ko J6:=
 aw .o call201 func201 (aj xW al)
def NL:aq:=⟨211,[an,(.bx 321 0 false [ahP]),jk],.bool,[],λs=>D8 s.1 s.2.2.2.2.2 s.2.1 s.2.2.1 s.2.2.2.1 s.2.2.2.2.1⟩
theorem Iw:Ko NL:=
 aw .o call211 func211 (aj Fw al)
def WY:aq:=⟨160,[an,(.fn 211 [] [(.bx 321 0 false [ahP]),jk])],dR,[],λs=>L5 s.1 s.2.2.2.2.2 s.2.1 s.2.2.1 s.2.2.2.1 s.2.2.2.2.1⟩
theorem Oe:Ko WY:=
 aw (.l ⟨[(true,5,dR),(false,11,an)],[]⟩ .o) call160 func160 (aj Iw al)
def W7:aq:=⟨199,[MU,.bool,ahP],dR,[],U6 KM⟩
theorem Oy:Ko W7:=
 aw (.n 0 (.j ⟨[(true,7,(.bx 287 0 true [dR]))],[]⟩ .o .o)) call199 func199 (aj Bj (aj Oe (aj jy al)))
def ZZ:aq:=⟨173,[MU,(.sli .bo),(.sli .bo)],dR,[],U3 Ew⟩
theorem Sa:Ko ZZ:=
 aw .o call173 func173 (aj Oy al)
def XV:aq:=⟨121,[fJ,MU],dR,[],U2 W8⟩
def Fy(b:Ex->Ex)(o:Sh->(R:Type)->Option R->Option R)(m:(Ex×gY)->Option aU)(e:Ex)(c:gY):Option aU:= (Wa (b e)).bind λj=> bif j then ( (QH (c.1.length:Int) e.op e.n e.at_ e.l c.1 c.2).bind λi=> some i) else ( (idx e.l 0).bind λk=> (m ((b k),c)).bind λh=> ai (λ(d:aU)=>Ui e c h d) λa=> bif decide (1<(List.length e.l:Int)) then (idx e.l 1).bind λg=> (m ((b g),c)).bind λf=> a f else a [])
def YU:adb->adb:=λa s=>Yh a s.1 s.2
theorem Xe(a:adb)(b:arx a):(Aj (YU a)).Ok X0.P X0.Γ:=
 aX (.c .o (.r [40000] (.s (.j ⟨[(true,7,(.bx 287 0 true [dR]))],[]⟩ (.c (.r [7] .o) .o) (.c .o (.c .o (.c .o (.c .o (.c .o (.c .o (.c (.r [6,8] .o) (.c (.r [6,8] .o) .o)))))))))))) call121 func121 (aj aaO (aj ZG (aj b (aj Qw (aj QA (aj Qn (aj Rf (aj P4 (aj R7 (aj VE (aj Wm (aj Sa al)))))))))))) al al λs=>(show _=Fy bl aM a s.1 s.2 from by kernel_rfl).trans ((congrArg (λd=>Fy d aM a s.1 s.2) aJ).trans ((congrArg (λe=>Fy id e a s.1 s.2) aN).trans (by kernel_rfl)))
theorem acg:Ko XV:=(show XV=Aj (ax (YU) az) by kernel_rfl)▸dO (X:=X0) (E:=Aj) ⟨call121,λ_ _ h=>nomatch h⟩ (Xe) az
def ae9:aq:=⟨74,[fJ,MU],.bool,[],U2 Kv⟩
def Fj(a:Ex->Ex)(f:Sh->(R:Type)->Option R->Option R)(e:Ex)(c:gY):xb:= (W8 (a e) c).bind λd=> (idx d 0).bind λb=> some b
theorem W9:Ko ae9:=
 aX .o call74 func74 (aj acg al) al al λs=>(show _=Fj bl aM s.1 s.2 from by kernel_rfl).trans ((congrArg (λa=>Fj a aM s.1 s.2) aJ).trans ((congrArg (λb=>Fj id b s.1 s.2) aN).trans (by kernel_rfl)))
def ZA:aq:=⟨49,[xT,fJ,QZ],.bool,[],U3 Ps⟩
def yv(d:Ex->Ex)(h:Sh->(R:Type)->Option R->Option R)(m:sS)(e:Ex)(l:pG):xb:= (L0 m l).bind λa=> bw a default (HG l) λc=> bw a default (Kv (d e) c) λb=> ai (!b) λg=> ai (a&&g) λf=> some f
theorem QQ:Ko ZA:=
 aX .o call49 func49 (aj WW (aj Vn (aj W9 al))) al al λs=>(show _=yv bl aM s.1 s.2.1 s.2.2 from by kernel_rfl).trans ((congrArg (λa=>yv a aM s.1 s.2.1 s.2.2) aJ).trans ((congrArg (λb=>yv id b s.1 s.2.1 s.2.2) aN).trans (by kernel_rfl)))
def J4:aq:=⟨37,[ag8],.bool,[(true,0,(.bx 81 0 true [.same,.same,.same,.same,.same,.same,.same,.same,.same,.same,.same,.same,.same,.same,.same,.same,.same,an,an,an,aS,xX,xX]))],λs=>yE s.1 s.2.1 s.2.2.1 s.2.2.2.1 s.2.2.2.2.1 s.2.2.2.2.2.1 s.2.2.2.2.2.2.1 s.2.2.2.2.2.2.2.1 s.2.2.2.2.2.2.2.2.1 (d8 s).2.1 (d8 s).2.2.1 (d8 s).2.2.2.1 (d8 s).2.2.2.2.1 (d8 s).2.2.2.2.2.1 (d8 s).2.2.2.2.2.2.1 (d8 s).2.2.2.2.2.2.2.1 (d8 (d8 s)).1 (d8 (d8 s)).2.1 (d8 (d8 s)).2.2.1 (d8 (d8 s)).2.2.2.1 (d8 (d8 s)).2.2.2.2.1 (d8 (d8 s)).2.2.2.2.2.1 (d8 (d8 s)).2.2.2.2.2.2⟩
theorem EL:Ko J4:=
 aw (.r [40000] (.c .o (.r [40000] .o))) call37 func37 (aj H4 (aj WB (aj ij (aj ZF (aj QQ al)))))
def Zo:aq:=⟨27,[.str,.str,uA],aak,[],U3 O7⟩
theorem alg:(⟨33,Tryz.f33⟩:jV).Ok X0.P:=⟨call33,func33⟩
theorem QC:Ko Zo:=
 aX (.n 50 .o) call27 func27 (aj I9 (aj FH (aj Bg (aj EL al)))) al (aj alg al) λ_=>by kernel_rfl
def aeV:aq:=⟨11,[aak],.str,[],λs=>sT s⟩
theorem wC:Ko aeV:=
 aw (.s (.s (.j ⟨[(true,3,ED)],[]⟩ .o (.l ⟨[(true,3,ED),(false,35,an)],[]⟩ (.c .o (.l ⟨[(true,3,ED),(false,47,an)],[]⟩ (.c .o (.j ⟨[(true,3,ED)],[1]⟩ .o .o)))))))) call11 func11 (aj Jo (aj jO (aj lX al)))
def aiB:aq:=⟨16,[.str],.str,[],λs=>Qo s⟩
theorem Y7:Ko aiB:=
 aw .o call16 func16 (aj amx (aj rf (aj Jo (aj QC (aj wC al)))))
def FU:aq:=⟨7,[],.bool,[],λ_=>np⟩
theorem Bp:Ko FU:=
 aw .o call7 func7 (aj Y7 (aj rf (aj wC al)))
def JT:aq:=⟨8,[QZ,an],.bool,[],U2 lu⟩
theorem EU:Ko JT:=
 aw (.c .o (.l ⟨[(false,5,an)],[]⟩ (.c .o (.l ⟨[(false,6,an)],[]⟩ .o)))) call8 func8 al
def GS:aq:=⟨15,[.str],wo,[],λs=>jU s⟩
theorem AR:Ko GS:=
 aw (.l ⟨[(false,3,wo),(false,4,.str),(false,5,an)],[]⟩ .o) call15 func15 al
def Ej:aq:=⟨20,[.str],ya,[],λs=>ju s⟩
theorem Ag:Ko Ej:=
 aw (.l ⟨[(false,4,an),(false,5,an)],[]⟩ .o) call20 func20 al
def CS:aq:=⟨10,[.str],(.cB [uA,.bool]),[],λs=>fQ s⟩
theorem ye:Ko CS:=
 aw (.c .o (.l ⟨[(true,2,agt),(false,5,fq),(false,6,an)],[]⟩ (.c .o (.c (.r [2] .o) (.l ⟨[(true,2,agt),(false,10,an)],[]⟩ (.c (.r [] (.c (.r [2] .o) .o)) .o)))))) call10 func10 (aj AR (aj Ag al))
def ry:aq:=⟨25,[mC],.str,[],λs=>jo s⟩
def rE:aaU->aaU:=λa s=>dx a s
theorem xh(a:aaU)(b:arj a):(gN (rE a)).Ok X0.P X0.Γ:=
 aw .o call25 func25 (aj b al)
theorem Al:Ko ry:=(show ry=gN (ax (rE) az) by kernel_rfl)▸dO (X:=X0) (E:=gN) ⟨call25,λ_ _ h=>nomatch h⟩ (xh) az
def JH:aq:=⟨13,[an],.str,[],λs=>dZ s⟩
theorem rN:Ko JH:=
 aw .o call13 func13 (aj Al al)
def JJ:aq:=⟨24,[.str,aS],.str,[],U2 gC⟩
theorem EF:Ko JJ:=
 aw (.l ⟨[(false,0,.str),(false,5,an)],[]⟩ .o) call24 func24 (aj rN al)
def IE:aq:=⟨12,[aak],.str,[],λs=>ky s⟩
theorem C6:Ko IE:=
 aw (.s (.s (.j ⟨[(false,3,.str)],[]⟩ .o (.l ⟨[(false,3,.str),(false,4,an)],[]⟩ (.c .o (.l ⟨[(false,3,.str),(false,5,an)],[]⟩ .o)))))) call12 func12 (aj EF (aj rN al))
end
end Go.Proofs.YtkedhpmpejhekaaGreatDoor
