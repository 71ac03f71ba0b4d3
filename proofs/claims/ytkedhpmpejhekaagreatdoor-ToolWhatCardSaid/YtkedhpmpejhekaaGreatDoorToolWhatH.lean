/- Own texts for ToolWhat, cut and joined by a program. -/
import Derived.Test.YtkedhpmpejhekaaGreatDoorToolWhatG
set_option linter.all false
namespace Go.Proofs.YtkedhpmpejhekaaGreatDoor
open IntKind (i32 i64)
open Go.Proofs
noncomputable section
set_option maxRecDepth 100000
abbrev Sx:Ty:=(.p (.i .i64) (.p (.l (.p (.i .i64) (.i .i64))) (.p (.i .i64) (.p (.p (.p (.i .i64) (.p (.l (.l (.i .u8))) (.l (.i .i64)))) (.l (.i .u8))) (.p (.p (.l (.p (.i .i64) (.p (.l (.l (.i .u8))) (.l (.i .i64))))) (.p (.p (.i .i64) (.p (.l (.l (.i .u8))) (.l (.i .i64)))) (.l (.i .u8)))) (.p (.p (.l (.p (.i .i64) (.p (.l (.l (.i .u8))) (.l (.i .i64))))) (.l (.i .u8))) (.p (.p (.p (.i .i64) (.p (.l (.p (.l (.p (.i .u8) (.i .i64))) (.i .i64))) (.p (.i .i64) (.p (.i .i64) (.l (.i .i64)))))) (.p (.p (.i .i64) (.p (.l (.p (.l (.p (.i .u8) (.i .i64))) (.i .i64))) (.p (.i .i64) (.p (.i .i64) (.l (.i .i64)))))) (.p (.i .i64) (.p (.l (.p (.l (.p (.i .u8) (.i .i64))) (.i .i64))) (.p (.i .i64) (.p (.i .i64) (.l (.i .i64)))))))) (.p (.i .i64) (.p (.i .i64) (.p (.i .u64) (.p (.l (.i .u8)) (.p (.l (.i .u8)) (.l (.i .u8))))))))))))))
abbrev bd:Ty:=(.i .i64)
abbrev an:Pt:=(.int .i64)
abbrev QL4:List Pt:=(.same:: .same:: .same:: .same:: .same:: .same:: .same:: .same:: .same::an::(.sli (.p bd bd))::an::an::(.sli (.l (.i .u8)))::(.sli bd)::(.sli (.i .u8))::(.sli (.p bd (.p (.l (.l (.i .u8))) (.l bd))))::an::(.sli (.l (.i .u8)))::(.sli bd)::(.sli (.i .u8))::(.sli (.p bd (.p (.l (.l (.i .u8))) (.l bd))))::(.sli (.i .u8))::an::(.sli (.p (.l (.p (.i .u8) bd)) bd))::an::an::(.sli bd)::an::(.sli (.p (.l (.p (.i .u8) bd)) bd))::an::an::(.sli bd)::an::(.sli (.p (.l (.p (.i .u8) bd)) bd))::an::an::(.sli bd)::an::an::(.int .u64)::(.sli (.i .u8))::(.sli (.i .u8))::(.sli (.i .u8)):: .same::[])
abbrev kL:Pt:=(.dat Sx [none,none,none,none,none,none,none,none,none,none,none,none,none,none,none,none,none,none,none])
abbrev QL6:List Pt:=((.sli .s)::(.sli (.p bd bd))::(.sli bd)::(.sli .s)::(.sli (.p bd (.p .ex (.l (.p bd .ex)))))::(.sli (.l .ex))::(.sli (.l bd))::(.sli bd)::(.sli (.l bd))::an::(.sli (.p bd bd))::an::an::(.sli (.l (.i .u8)))::(.sli bd)::(.sli (.i .u8))::(.sli (.p bd (.p (.l (.l (.i .u8))) (.l bd))))::an::(.sli (.l (.i .u8)))::(.sli bd)::(.sli (.i .u8))::(.sli (.p bd (.p (.l (.l (.i .u8))) (.l bd))))::(.sli (.i .u8))::an::(.sli (.p (.l (.p (.i .u8) bd)) bd))::an::an::(.sli bd)::an::(.sli (.p (.l (.p (.i .u8) bd)) bd))::an::an::(.sli bd)::an::(.sli (.p (.l (.p (.i .u8) bd)) bd))::an::an::(.sli bd)::an::an::(.int .u64)::(.sli (.i .u8))::(.sli (.i .u8))::(.sli (.i .u8))::an::[])
abbrev eN:Ty:=(.p bd (.p (.l (.l (.i .u8))) (.l bd)))
abbrev cB:Pt:=(.bx 196 0 true [.same,an,.same,an,an,an])
abbrev ia:Pt:=(.bx 196 0 true [(.own (.p bd (.p .s (.p bd bd))) 142 false),an,(.own .s 9 false),an,an,an])
abbrev aP:Ty:=(.i .u8)
abbrev eP:Pt:=(.bx 196 0 true [(.sli (.p bd (.p .s (.p bd bd)))),an,(.sli .s),an,an,an])
abbrev K5:Ty:=(.p (.l .s) (.p (.l (.p bd bd)) (.p (.l bd) (.p (.l .s) (.l (.p bd (.p .ex (.l (.p bd .ex)))))))))
abbrev agr:Ty:=(.p aP (.p aP (.p aP (.p aP (.p aP (.p aP (.p aP (.p aP (.p aP (.p aP (.p aP (.p aP (.p aP (.p aP (.p aP (.p aP (.p aP (.p aP (.p aP (.p aP (.p aP (.p aP (.p aP (.p aP (.p aP (.p aP (.p aP (.p aP (.p aP (.p aP (.p aP (.p aP (.p aP (.p aP (.p aP (.p aP (.p aP (.p aP (.p aP (.p aP (.p aP (.p aP (.p aP (.p aP (.p aP (.p aP (.p aP (.p aP (.p aP (.p aP (.p aP (.p aP (.p aP (.p aP (.p aP (.p aP (.p aP (.p aP (.p aP (.p aP (.p aP (.p aP (.p aP aP)))))))))))))))))))))))))))))))))))))))))))))))))))))))))))))))
abbrev ED:Ty:=(.p bd (.p bd (.p (.i .u64) (.p (.l aP) (.p (.l aP) (.l aP))))))
abbrev bF:Pt:=(.dat .ex [some 159])
abbrev dC:Ty:=(.p bd bd)
abbrev ky:Ty:=(.p (.l (.p aP bd)) bd)
abbrev Pn:Ty:=(.p (.l (.l .ex)) (.p (.l (.l bd)) (.p (.l bd) (.l (.l bd)))))
abbrev sb:Ty:=(.p bd (.p .ex (.l (.p bd .ex))))
abbrev aS:Pt:=(.sli bd)
abbrev lj:Ty:=(.l bd)
abbrev jb:Pt:=(.bx 287 0 false [(.own .bo 4 false)])
abbrev Wx:Ty:=(.p bd (.p bd (.p bd (.p (.i .u64) dC))))
abbrev fp:Pt:=(.own bd 3 true)
abbrev alg:Ty:=(.p aP (.p aP (.p aP (.p aP (.p aP (.p aP (.p aP (.p aP (.p aP (.p aP (.p aP (.p aP (.p aP (.p aP (.p aP (.p aP (.p aP (.p aP (.p aP (.p aP (.p aP (.p aP (.p aP aP)))))))))))))))))))))))
abbrev vR:Ty:=(.p bd (.p (.l ky) (.p bd (.p bd lj))))
abbrev iq:Pt:=(.own lj 23 true)
abbrev abe:Pt:=(.bx 138 0 true [(.own (.p bd (.p .s dC)) 142 false),an,(.own .s 9 false),(.own dC 156 false),(.own bd 3 false),(.own .s 9 false),(.own sb 299 false)])
abbrev mX:Ty:=(.p bd (.p .s dC))
abbrev fW:Pt:=(.own aP 5 true)
abbrev ta:Ty:=(.p (.i .u64) (.i .u64))
abbrev agE:Pt:=(.bx 81 0 true [.str,.str,an,an,an,(.int .u64),an,an,(.sli .s),(.sli dC),aS,(.sli .s),(.sli sb),an,an,an,(.sli .ex),an,an,an,aS,iq,iq])
abbrev QG:Ty:=(.p bd (.p bd (.p bd (.p lj (.p (.l lj) (.l lj))))))
abbrev agn:Pt:=(.bx 81 0 true [.same,.same,.same,.same,.same,.same,.same,.same,.same,.same,.same,.same,.same,.same,.same,.same,.same,an,an,an,aS,iq,iq])
abbrev dP:Pt:=(.own .bo 4 true)
abbrev afP:Pt:=(.bx 138 0 false [(.own mX 142 false),an,(.own .s 9 false),(.own dC 156 false),(.own bd 3 false),(.own .s 9 false),(.own sb 299 false)])
abbrev KB:Pt:=(.dat (.p (.l eN) (.p eN (.l aP))) [none,none,none,none])
abbrev xF:Pt:=(.dat K5 [none,none,none,none,none])
abbrev di:Pt:=(.sli aP)
abbrev fE:Pt:=(.dat .ex [none])
abbrev Lp:Pt:=(.bx 287 0 false [(.sli .bo)])
abbrev PY:Pt:=(.bx 138 0 true [.same,an,.same,.same,.same,.same,.same])
abbrev KX:Pt:=(.bx 176 0 false [(.sli lj),an])
abbrev Vj:Ty:=(.p aP (.p aP (.p aP (.p aP (.p aP (.p aP (.p aP aP)))))))
abbrev gr:Ty:=(.l aP)
abbrev tM:Pt:=(.dat ED [none,none,none])
abbrev Kl:Pt:=(.bx 79 0 true [an,an,an,(.own .ex 79 true)])
abbrev Ip:Pt:=(.bx 79 0 true [.same,.same,.same,.same])
abbrev pU:Ty:=(.l lj)
abbrev ab0:Pt:=(.bx 457 0 true [.same,(.own ky 352 true),.same,.same,fp,.same])
abbrev apq:Ty:=(.p (.i .u64) (.p (.i .u64) (.p (.i .u64) (.p (.i .u64) (.p (.i .u64) (.p (.i .u64) (.p (.i .u64) (.p (.i .u64) (.p (.i .u64) (.p (.i .u64) (.p (.i .u64) (.p (.i .u64) (.p (.i .u64) (.p (.i .u64) (.p (.i .u64) (.p (.i .u64) (.p (.i .u64) (.p (.i .u64) ta))))))))))))))))))
abbrev DL:Pt:=(.ifc 470 (.bx 468 0 true [fp]))
abbrev aov:Pt:=(.bx 113 0 true [an,(.sli dC),an,an,(.sli gr),aS,di,(.sli eN),an,(.sli gr),aS,di,(.sli eN),di,an,(.sli ky),an,an,aS,an,(.sli ky),an,an,aS,an,(.sli ky),an,an,aS,an,an,(.int .u64),di,di,di])
abbrev Hd:Pt:=(.bx 234 0 true [(.own .ex 79 true)])
abbrev Kp:Pt:=(.bx 236 0 true [(.own ta 239 true)])
abbrev J3:Pt:=(.dat (.p (.l eN) gr) [none,none])
abbrev JO:Pt:=(.dat Pn [none,none,none,none])
abbrev DP:Pt:=(.ifc 134 (.agg [an,an]))
abbrev EL:Pt:=(.bx 56 0 true [.sfp,fW])
abbrev gz:Pt:=(.sli dC)
abbrev QU:Pt:=(.dat (.p eN gr) [none,none,none])
abbrev Vd:Pt:=(.bx 122 0 true [.same,.same,.same,.same])
abbrev Wh:Pt:=(.bx 79 0 false [an,an,an,(.sli .ex)])
abbrev aoF:Ty:=(.p .s (.p .s (.p .s (.p .s (.p .s (.p .s (.p .s (.p .s (.p .s (.p .s (.p .s (.p .s (.p .s (.p .s (.p .s (.p .s (.p .s (.p .s (.p .s (.p .s (.p .s (.p .s (.p .s (.p .s .s))))))))))))))))))))))))
abbrev jG:Ty:=(.p aP bd)
abbrev afK:Pt:=(.bx 433 0 true [(.own eN 349 true),(.fn 319 [(.ptr 0 0)] [])])
abbrev agq:Pt:=(.bx 101 0 true [(.own eN 96 true),.same,.same,.same,.same])
abbrev ahp:Pt:=(.bx 76 0 false [(.sli .s),gz,aS,(.sli .s),(.sli sb)])
abbrev ew:Pt:=(.cD [])
abbrev lB:Pt:=(.dat .un [])
abbrev DN:Pt:=(.dat eN [none,none])
abbrev UP:Pt:=(.fn 379 [] [(.bx 4 0 true [.bool])])
abbrev aj0:Pt:=(.bx 457 0 true [.same,(.own ky 352 true),.same,.same,fp,(.mp bd .bo true)])
abbrev Kf:Pt:=(.dat (.p pU bd) [none])
abbrev xX:Ty:=(.p lj pU)
abbrev Ax:Pt:=(.bx 3 0 true [an])
abbrev aaR:Pt:=(.ifc 166 (.agg [(.sli lj),(.sli lj)]))
abbrev afv:Pt:=(.bx 433 0 false [(.sli eN),(.fn 323 [(.ptr 0 0)] [])])
abbrev akX:Pt:=(.bx 457 0 true [an,(.own ky 352 true),an,an,fp,(.mp bd .bo false)])
abbrev nU:Pt:=(.int .u64)
abbrev ak6:Pt:=(.bx 457 0 true [an,(.own ky 352 true),an,an,fp,(.mp bd .bo true)])
abbrev abr:Pt:=(.bx 270 0 true [iq,(.mp .s .bo true)])
abbrev A5:Pt:=(.cD [an,.bool])
abbrev ic:Pt:=(.int .u8)
abbrev Qi:Pt:=(.ifc 164 (.agg [an,aS]))
abbrev WA:Pt:=(.dat (.p pU pU) [none,none])
abbrev afD:Ty:=(.p (.i .u32) (.p (.i .u32) (.p aP (.p aP .bo))))
abbrev A8:Pt:=(.own .s 9 true)
abbrev agb:Pt:=(.bx 101 0 true [.same,.same,.same,.same,.same])
abbrev afF:Ty:=(.p (.l mX) (.p bd (.p (.l .s) (.p bd dC))))
abbrev agN:Ty:=(.p .s (.p .s (.p Wx (.p K5 (.p .ex QG)))))
abbrev EX:Pt:=(.cD [.bool,an])
abbrev JW:Pt:=(.bx 23 0 false [aS])
abbrev AP:Pt:=(.own .s 9 false)
abbrev agv:Pt:=(.bx 98 0 false [an,(.sli gr),aS,di])
abbrev Pw:Pt:=(.own sb 299 true)
abbrev Gz:Pt:=(.bx 169 0 true QL4)
abbrev rE:Ty:=(.p gr bd)
abbrev af9:Pt:=(.bx 433 0 true [(.own eN 349 true),.same])
abbrev jz:Pt:=(.int .u32)
abbrev HN:Pt:=(.own dC 156 true)
abbrev Mk:Ty:=(.p .s (.p .s (.p .s .s)))
abbrev GN:Pt:=(.bx 31 0 true [nU])
abbrev yX:Pt:=(.cD [kL,an])
abbrev Zr:Pt:=(.bx 282 0 true [(.mp ta .bo true)])
abbrev G4:Pt:=(.own mX 142 false)
abbrev ZB:Pt:=(.bx 237 0 true [(.mp ta bd true)])
abbrev Mn:Pt:=(.cD [kL,.bool,an])
abbrev Mc:Pt:=(.bx 4 0 false [.bool])
abbrev RX:Ty:=(.p (.l eN) (.p eN gr))
abbrev wu:Pt:=(.dat Wx [])
abbrev rz:Ty:=(.p bd .ex)
abbrev ahg:Pt:=(.dat Pn [some 155,some 47,some 7,some 47])
abbrev L8:Pt:=(.own dC 156 false)
abbrev Ml:Pt:=(.own xX 277 false)
abbrev Zy:Ty:=(.p K5 (.p Pn (.p Sx bd)))
abbrev H8:Pt:=(.own bd 3 false)
abbrev afM:Pt:=(.bx 98 0 true [an,(.sli gr),aS,di])
abbrev Zw:Ty:=(.p bd (.p bd (.p .bo aP)))
abbrev amr:Ty:=(.p aP (.p aP (.p aP (.p aP (.p aP (.p aP (.p aP (.p aP alg))))))))
abbrev RQ:Pt:=(.dat vR [none,none])
abbrev Mi:Pt:=(.bx 169 0 true QL6)
abbrev amv:Pt:=(.bx 283 0 true [(.fn 156 [] [(.ptr 0 0),(.ptr 2 0),(.ptr 4 0),(.ptr 7 0)])])
abbrev ahq:Pt:=(.bx 217 0 true [iq,(.mp .s .bo true)])
abbrev Zn:Ty:=(.p (.l mX) (.p bd K5))
abbrev Zt:Pt:=(.bx 395 0 true [fW,an])
abbrev CQ:Ty:=(.p pU pU)
abbrev wA:Pt:=(.sli lj)
abbrev Mt:Pt:=(.sli (.i .u32))
abbrev Zq:Pt:=(.bx 261 0 true [.same])
abbrev ama:Pt:=(.bx 138 0 true [.same,an,.same,.same,.same,.same,Pw])
abbrev aml:Pt:=(.bx 196 0 false [(.sli mX),an,(.sli .s),an,an,an])
abbrev amz:Pt:=(.bx 122 0 true [(.own (.l .ex) 77 true),iq,.same,.same])
abbrev Zo:Pt:=(.bx 468 0 true [fp])
abbrev Sc:Ty:=(.p (.l eN) gr)
abbrev Df:Pt:=(.ifc 3 an)
abbrev alZ:Pt:=(.bx 138 0 true [.same,an,A8,HN,fp,A8,Pw])
abbrev MA:Pt:=(.fn 227 [] [])
abbrev Mr:Pt:=(.fn 221 [] [])
abbrev MG:Pt:=(.fn 219 [] [])
abbrev MH:Pt:=(.fn 184 [] [])
abbrev Zp:Pt:=(.bx 23 0 true [aS])
abbrev Zz:Pt:=(.bx 4 0 true [.bool])
abbrev ahj:Pt:=(.fn 200 [] [Lp,Lp,KX])
abbrev afG:Pt:=(.fn 201 [] [Lp,Lp,KX])
open Tryz
theorem ai5:alh Tryz.prog 38:=λv w=>by rw [run_callFunc_extern func38 (by kernel_rfl) (by kernel_rfl) (by kernel_rfl) (e:=Extern.AbiNoEscape.same) (by kernel_rfl)];rfl
noncomputable def W6:Cx:=⟨Tryz.prog,[(2,bd),(3,bd),(4,.bo),(5,aP),(6,aP),(7,Zw),(8,Zw),(9,.s),(10,.s),(11,.s),(12,(.i .u64)),(13,(.p .s (.i .u64))),(14,(.p .s (.i .u64))),(21,(.i .i32)),(22,bd),(23,lj),(24,pU),(25,CQ),(26,CQ),(27,QG),(28,QG),(31,(.i .u64)),(32,Wx),(33,Wx),(38,(.i .u32)),(39,afD),(40,afD),(43,(.l .s)),(49,(.p .s Mk)),(50,(.p bd (.p bd (.p bd dC)))),(54,gr),(62,Mk),(73,(.l dC)),(74,(.l sb)),(75,K5),(76,K5),(77,(.l .ex)),(78,(.p bd (.p bd (.p bd (.l .ex))))),(79,.ex),(80,agN),(81,agN),(83,(.l dC)),(84,dC),(85,dC),(94,(.l gr)),(95,eN),(96,eN),(97,(.p eN gr)),(98,(.p eN gr)),(99,(.l eN)),(100,RX),(101,RX),(102,(.l eN)),(103,Sc),(104,Sc),(105,(.l ky)),(106,vR),(107,vR),(108,(.p vR (.p vR vR))),(109,(.p gr (.p gr gr))),(110,ED),(111,ED),(112,Sx),(113,Sx),(120,(.l (.l .ex))),(121,Pn),(122,Pn),(129,(.i .u64)),(130,(.l mX)),(133,dC),(134,dC),(137,Zn),(138,Zn),(141,mX),(142,mX),(148,(.l .n)),(153,.n),(155,dC),(156,dC),(163,(.p bd lj)),(164,(.p bd lj)),(165,CQ),(166,CQ),(168,Zy),(169,Zy),(175,(.p pU bd)),(176,(.p pU bd)),(178,alg),(195,afF),(196,afF),(202,(.l .bo)),(205,dC),(206,.un),(207,.un),(208,.un),(209,.un),(210,.un),(211,.un),(225,(.l xX)),(229,dC),(230,dC),(233,(.l .ex)),(234,(.l .ex)),(236,(.l ta)),(238,ta),(239,ta),(250,apq),(251,(.p aP agr)),(276,xX),(277,xX),(284,(.l pU)),(287,(.l .bo)),(297,(.l rz)),(298,sb),(299,sb),(300,rz),(301,rz),(319,dC),(322,amr),(323,agr),(325,(.p .s (.p .s (.p .s (.p .s (.p .s Mk)))))),(328,aoF),(338,.un),(339,.un),(340,.un),(341,aP),(342,aP),(344,(.i .i32)),(345,(.i .i32)),(348,eN),(349,eN),(350,(.l jG)),(351,ky),(352,ky),(373,rE),(374,rE),(381,eN),(382,eN),(383,eN),(384,eN),(392,rE),(393,rE),(394,rE),(395,rE),(435,(.l (.i .u32))),(442,Vj),(443,Vj),(461,jG),(462,jG),(468,lj)],[],[38],(List.forall_mem_cons.2 ⟨ai5,(λ_ h=>nomatch h)⟩),aC,[207,208,209,210,211],[],(λ_ h=>nomatch h),[(25,21),(66,40),(83,44)]⟩
noncomputable def X0:Cx:=⟨Tryz.prog,[(2,bd),(3,bd),(4,.bo),(5,aP),(6,aP),(7,Zw),(8,Zw),(9,.s),(10,.s),(11,.s),(12,(.i .u64)),(13,(.p .s (.i .u64))),(14,(.p .s (.i .u64))),(21,(.i .i32)),(22,bd),(23,lj),(24,pU),(25,CQ),(26,CQ),(27,QG),(28,QG),(31,(.i .u64)),(32,Wx),(33,Wx),(38,(.i .u32)),(39,afD),(40,afD),(43,(.l .s)),(49,(.p .s Mk)),(50,(.p bd (.p bd (.p bd dC)))),(54,gr),(62,Mk),(73,(.l dC)),(74,(.l sb)),(75,K5),(76,K5),(77,(.l .ex)),(78,(.p bd (.p bd (.p bd (.l .ex))))),(79,.ex),(80,agN),(81,agN),(83,(.l dC)),(84,dC),(85,dC),(94,(.l gr)),(95,eN),(96,eN),(97,(.p eN gr)),(98,(.p eN gr)),(99,(.l eN)),(100,RX),(101,RX),(102,(.l eN)),(103,Sc),(104,Sc),(105,(.l ky)),(106,vR),(107,vR),(108,(.p vR (.p vR vR))),(109,(.p gr (.p gr gr))),(110,ED),(111,ED),(112,Sx),(113,Sx),(120,(.l (.l .ex))),(121,Pn),(122,Pn),(129,(.i .u64)),(130,(.l mX)),(133,dC),(134,dC),(137,Zn),(138,Zn),(141,mX),(142,mX),(148,(.l .n)),(153,.n),(155,dC),(156,dC),(163,(.p bd lj)),(164,(.p bd lj)),(165,CQ),(166,CQ),(168,Zy),(169,Zy),(175,(.p pU bd)),(176,(.p pU bd)),(178,alg),(195,afF),(196,afF),(202,(.l .bo)),(205,dC),(206,.un),(207,.un),(208,.un),(209,.un),(210,.un),(211,.un),(225,(.l xX)),(229,dC),(230,dC),(233,(.l .ex)),(234,(.l .ex)),(236,(.l ta)),(238,ta),(239,ta),(250,apq),(251,(.p aP agr)),(276,xX),(277,xX),(284,(.l pU)),(287,(.l .bo)),(297,(.l rz)),(298,sb),(299,sb),(300,rz),(301,rz),(319,dC),(322,amr),(323,agr),(325,(.p .s (.p .s (.p .s (.p .s (.p .s Mk)))))),(328,aoF),(338,.un),(339,.un),(340,.un),(341,aP),(342,aP),(344,(.i .i32)),(345,(.i .i32)),(348,eN),(349,eN),(350,(.l jG)),(351,ky),(352,ky),(373,rE),(374,rE),(381,eN),(382,eN),(383,eN),(384,eN),(392,rE),(393,rE),(394,rE),(395,rE),(435,(.l (.i .u32))),(442,Vj),(443,Vj),(461,jG),(462,jG),(468,lj)],[(0,0,⟨.l .s,lv⟩),(1,0,⟨.l .s,lG⟩),(2,0,⟨.un,()⟩),(3,0,⟨.l (.i .u64),rm⟩),(6,0,⟨.l .s,G7⟩),(7,0,⟨.l .s,xg⟩)],[38],(List.forall_mem_cons.2 ⟨ai5,(λ_ h=>nomatch h)⟩),aC,[207,208,209,210,211],[⟨270,λargs H st K=>Po W6 Tryz.f270 args H st K⟩,⟨261,λargs H st K=>Po W6 Tryz.f261 args H st K⟩,⟨379,λargs H st K=>Po W6 Tryz.f379 args H st K⟩,⟨380,λargs H st K=>Po W6 Tryz.f380 args H st K⟩],(List.forall_mem_cons.2 ⟨Ru (X:=W6) call270 func270 rfl,(List.forall_mem_cons.2 ⟨Ru (X:=W6) call261 func261 rfl,(List.forall_mem_cons.2 ⟨Ru (X:=W6) call379 func379 rfl,(List.forall_mem_cons.2 ⟨Ru (X:=W6) call380 func380 rfl,(λ_ h=>nomatch h)⟩)⟩)⟩)⟩),[(25,21),(66,40),(83,44)]⟩
abbrev Ko(e:aq):=e.Ok X0.P X0.Γ
abbrev pw(e:bH):=e.Ok X0.P X0.Γ
theorem aw{X:Cx}{tb:List aq}{fn:Func}{e:aq}(h:HT)(c:Enters X.P e.f)(b:X.P.funcs[e.f]? =some fn)(a:∀e∈tb,e.Ok X.P X.Γ)(eq:∀s,Z5 X tb [] [] h fn e s=e.m s:=by intro _;kernel_rfl):e.Ok X.P X.Γ:=aX h c b a al al eq
theorem aa2{X:Cx}{tb:List aq}{fn:Func}{e:bH}(h:HT)(c:Enters X.P e.f)(b:X.P.funcs[e.f]? =some fn)(a:∀e∈tb,e.Ok X.P X.Γ)(eq:∀s,alP X tb [] [] h fn e s=e.m s:=by intro _;kernel_rfl):e.Ok X.P X.Γ:=oz h c b a al al eq
abbrev U2{a z r:Type}(F:a->z->r)(s:a×z):r:=F s.1 s.2
abbrev U3{a b z r:Type}(F:a->b->z->r)(s:a×b×z):r:=F s.1 s.2.1 s.2.2
abbrev U4{a b c z r:Type}(F:a->b->c->z->r)(s:a×b×c×z):r:=F s.1 s.2.1 s.2.2.1 s.2.2.2
abbrev U5{a b c d z r:Type}(F:a->b->c->d->z->r)(s:a×b×c×d×z):r:=F s.1 s.2.1 s.2.2.1 s.2.2.2.1 s.2.2.2.2
abbrev U6{a b c d e z r:Type}(F:a->b->c->d->e->z->r)(s:a×b×c×d×e×z):r:=F s.1 s.2.1 s.2.2.1 s.2.2.2.1 s.2.2.2.2.1 s.2.2.2.2.2
abbrev U7{a b c d e f z r:Type}(F:a->b->c->d->e->f->z->r)(s:a×b×c×d×e×f×z):r:=F s.1 s.2.1 s.2.2.1 s.2.2.2.1 s.2.2.2.2.1 s.2.2.2.2.2.1 s.2.2.2.2.2.2
abbrev U8{a b c d e f g z r:Type}(F:a->b->c->d->e->f->g->z->r)(s:a×b×c×d×e×f×g×z):r:=F s.1 s.2.1 s.2.2.1 s.2.2.2.1 s.2.2.2.2.1 s.2.2.2.2.2.1 s.2.2.2.2.2.2.1 s.2.2.2.2.2.2.2
abbrev U9{a b c d e f g h z r:Type}(F:a->b->c->d->e->f->g->h->z->r)(s:a×b×c×d×e×f×g×h×z):r:=F s.1 s.2.1 s.2.2.1 s.2.2.2.1 s.2.2.2.2.1 s.2.2.2.2.2.1 s.2.2.2.2.2.2.1 s.2.2.2.2.2.2.2.1 s.2.2.2.2.2.2.2.2
def bk(x:Ex):Ex:=Ex.mk x.op x.n x.at_ x.l
theorem aJ:bk=id:=funext λx=>by cases x;rfl
def apa:aq:=⟨31,[.int .i64],.str,[],λs=>MB s⟩
theorem W5:Ko apa:=akr (ρ:=Tryz.Kr) Tryz.ajM call31 (G:=3) (tab:=rm) (by kernel_rfl) (show gl 3 (rm.map (Value.int .u64))∈X0.Γ by first|exact bY ..|exact (.tail _ (bY ..))|exact (.tail _ (.tail _ (bY ..)))|exact (.tail _ (.tail _ (.tail _ (bY ..))))|exact (.tail _ (.tail _ (.tail _ (.tail _ (bY ..)))))|exact (.tail _ (.tail _ (.tail _ (.tail _ (.tail _ (bY ..))))))) (by decide+kernel) MB λn r h=>by obtain ⟨b,a⟩:=ej h;cases a;exact ⟨b,rfl⟩
def aon:aq:=⟨217,[.own aP 5 true,.int .u64,.int .i64],.own aP 5 true,[],U3 agT⟩
theorem ahK:Ko aon:=alc (ρ:=Tryz.OE) Tryz.an2 call217 (G:=3) (tab:=rm) (by kernel_rfl) (show gl 3 (rm.map (Value.int .u64))∈X0.Γ by first|exact bY ..|exact (.tail _ (bY ..))|exact (.tail _ (.tail _ (bY ..)))|exact (.tail _ (.tail _ (.tail _ (bY ..))))|exact (.tail _ (.tail _ (.tail _ (.tail _ (bY ..)))))|exact (.tail _ (.tail _ (.tail _ (.tail _ (.tail _ (bY ..))))))) (by decide+kernel) agT λl u b r h=>by obtain ⟨a,c⟩:=ej h;simp only [ae,gy,n7] at a;cases c;exact ⟨a.1.1,a.1.2.1,a.1.2.2,a.2,rfl⟩
def aok:aq:=⟨157,[.iH (.raw (.slice none 0 0)),.int .i64],.own lj 23 true,[],λs=>ags s⟩
theorem aiQ:Ko aok:=akR (ρ:=Tryz.Xr) Tryz.apu call157 (z:= .slice none 0 0) (bytes:=24) (t:= .l bd) (by unfold TI;kernel_rfl) rfl rfl (by decide) ags λn r h=>by obtain ⟨a,b⟩:=ej h;simp only [ae,n7] at a;cases b;exact ⟨a.1,a.2,rfl⟩
def apB:aq:=⟨26,[.str,.str],.cD [.str,.str,.bool],[],U2 VP⟩
theorem alM:Ko apB:=anv (ρ:=Tryz.OL) Tryz.ae8 call26 (show glx 2∈X0.Γ by repeat (first|exact bY ..|refine aW _ ?_)) VP λs t r h=>by obtain ⟨b,a⟩:=ej h;cases a;exact ⟨qa b,rfl⟩
theorem ad2(W:World)(x:Nat):FnGives X0.P 29 #[] #[.int .i32 x] (.bool (x==32)) W:=by
 refine Calls.mono (ig (S:=λv w'=>v= .bool (x==32)/\w'=W) (Sp:=λ_ _=>False) func29 rfl Tryz.ntmps29 rfl ?_) (λe w' h=>?_)
 .refine bm<|bf<|aK (cI ar.c) rfl rfl rfl rfl<|bS<|ba<|bm<|bf<|aK (aL (ar.t rfl)) rfl rfl rfl rfl<|aK (pg (ar.t rfl) ar.c) rfl rfl rfl rfl<|aK (cI (ar.t rfl)) rfl rfl rfl rfl<|bS<|ba<|tQ ?_
  repeat refine mR ?_
  refine L9 rfl (iY.t rfl) ?_;exact ⟨by congr 1;rw [qH,gy,gy];omega,rfl⟩
 .cases e with
  |returned v=>obtain ⟨rfl,rfl⟩:=h;exact ⟨rfl,0,rfl⟩
  |panicked c=>exact h.elim
  |outgrown=>exact h.elim
def apJ:aq:=⟨28,[.str,.fn 29 [] []],.sli .s,[],λs=>agh s⟩
theorem alE:Ko apJ:=am5 (ρ:=Tryz.OY) Tryz.amM call28 call29 ad2 agh λs r h=>by obtain ⟨b,a⟩:=ej h;cases a;exact ⟨qa b,rfl⟩
theorem aio{α:Type}{b:Nat}{s y r:List α}{k:Int}(h:aaK b s k y=some r):y≠[]/\Qs k s.length=true/\aH (s.length+y.length) b=true/\r=l6 s k y:=by
 unfold aaK at h;split at h
 .cases h
 .obtain ⟨a,c⟩:=ej h;simp only [ae] at a;cases c;exact ⟨by simp,a.1,a.2,rfl⟩
def alF:aq:=⟨351,[.own jG 462 true,.int .i64,.own jG 462 true],.own jG 462 true,[],λs=>aaK 16 s.1 s.2.1 s.2.2⟩
theorem adO:Ko alF:=amV (t:=jG) (bytes:=16) call351 (λa d c b=>I351.aaJ a d c b) (aaK 16) (λ_ _ _ _ h=>aio h)
abbrev RL:=Q2->Option Q3
def gT(k:RL):aq:=⟨91,[ia,MA],bF,[(true,0,cB)],λs=>k (s.1,s.2.1,s.2.2.1,s.2.2.2.1,s.2.2.2.2.1,s.2.2.2.2.2)⟩
abbrev OK0(k:RL):Prop:=Ko (gT k)
abbrev SG:=Q2->Option Q3
def gW(k:SG):aq:=⟨91,[ia,Mr],bF,[(true,0,cB)],λs=>k (s.1,s.2.1,s.2.2.1,s.2.2.2.1,s.2.2.2.2.1,s.2.2.2.2.2)⟩
abbrev OK1(k:SG):Prop:=Ko (gW k)
abbrev Sb:=Q2->Option Q3
def gX(k:Sb):aq:=⟨91,[ia,MG],bF,[(true,0,cB)],λs=>k (s.1,s.2.1,s.2.2.1,s.2.2.2.1,s.2.2.2.2.1,s.2.2.2.2.2)⟩
abbrev OK2(k:Sb):Prop:=Ko (gX k)
abbrev Rj:=Q2->Option Q3
def gZ(k:Rj):aq:=⟨91,[ia,MH],bF,[(true,0,cB)],λs=>k (s.1,s.2.1,s.2.2.1,s.2.2.2.1,s.2.2.2.2.1,s.2.2.2.2.2)⟩
abbrev OK3(k:Rj):Prop:=Ko (gZ k)
abbrev cR:=Q2->Option Q3
def gR(k:cR):aq:=⟨91,[ia,(.fn 92 [] [])],bF,[(true,0,cB)],λs=>k (s.1,s.2.1,s.2.2.1,s.2.2.2.1,s.2.2.2.2.1,s.2.2.2.2.2)⟩
abbrev iO(k:cR):Prop:=Ko (gR k)
abbrev TK5:=Ex->Option nE
def uk(k:TK5):aq:=⟨59,[fE],(.cD [an,an,an]),[],λs=>k s⟩
abbrev OK5(k:TK5):Prop:=Ko (uk k)
abbrev Rc:=Q2->Option Q3
def iw(k:Rc):aq:=⟨91,[eP,MA],bF,[(true,0,cB)],λs=>k (s.1,s.2.1,s.2.2.1,s.2.2.2.1,s.2.2.2.2.1,s.2.2.2.2.2)⟩
abbrev OK6(k:Rc):Prop:=Ko (iw k)
abbrev S8:=Q2->Option Q3
def iB(k:S8):aq:=⟨91,[eP,Mr],bF,[(true,0,cB)],λs=>k (s.1,s.2.1,s.2.2.1,s.2.2.2.1,s.2.2.2.2.1,s.2.2.2.2.2)⟩
abbrev OK7(k:S8):Prop:=Ko (iB k)
abbrev UE:=Q2->Option Q3
def iy(k:UE):aq:=⟨91,[eP,MG],bF,[(true,0,cB)],λs=>k (s.1,s.2.1,s.2.2.1,s.2.2.2.1,s.2.2.2.2.1,s.2.2.2.2.2)⟩
abbrev OK8(k:UE):Prop:=Ko (iy k)
abbrev RV:=Q2->Option Q3
def iz(k:RV):aq:=⟨91,[eP,MH],bF,[(true,0,cB)],λs=>k (s.1,s.2.1,s.2.2.1,s.2.2.2.1,s.2.2.2.2.1,s.2.2.2.2.2)⟩
abbrev OK9(k:RV):Prop:=Ko (iz k)
abbrev bP:=Q2->Option Q3
def jY(k:bP):aq:=⟨91,[eP,(.fn 92 [] [])],bF,[(true,0,cB)],λs=>k (s.1,s.2.1,s.2.2.1,s.2.2.2.1,s.2.2.2.2.1,s.2.2.2.2.2)⟩
abbrev fc(k:bP):Prop:=Ko (jY k)
abbrev G0:=N5->Option iQ
def wq(k:G0):aq:=⟨139,[fE,.bool,Ax],fE,[(true,2,Ax)],λs=>k (s.1,s.2.1,s.2.2)⟩
abbrev alB(k:G0):Prop:=Ko (wq k)
abbrev aaM:=Int->vy
def ua(k:aaM):aq:=⟨314,[an],an,[],λs=>k s⟩
abbrev ap7(k:aaM):Prop:=Ko (ua k)
abbrev acz:=Q55->Option (Except Int Int)
def kP(k:acz):bH:=⟨326,[afv,an,Mt],Df,none,false,false,jz,[],λs=>k (s.2.1,s.2.2,s.1)⟩
abbrev ap8(k:acz):Prop:=pw (kP k)
abbrev acY:=Q55->Option Q64
def jc(k:acY):aq:=⟨326,[afK,an,Mt],jz,[(true,0,af9)],λs=>k (s.2.1,s.2.2,s.1)⟩
abbrev ap5(k:acY):Prop:=Ko (jc k)
abbrev ab3:=Q47->Option Iv
def nz(k:ab3):aq:=⟨343,[ak6,an,di],an,[(true,0,aj0)],λs=>k (s.2.2.2.2.2.2.1,s.2.2.2.2.2.2.2,s.1,s.2.1,s.2.2.1,s.2.2.2.1,s.2.2.2.2.1,s.2.2.2.2.2.1)⟩
abbrev ap1(k:ab3):Prop:=Ko (nz k)
abbrev acs:=Q50->Option (Q4×Q1)
def kU(k:acs):aq:=⟨344,[akX,an],ew,[(true,0,ab0)],λs=>k (s.2.2.2.2.2.2,s.1,s.2.1,s.2.2.1,s.2.2.2.1,s.2.2.2.2.1,s.2.2.2.2.2.1)⟩
abbrev aqa(k:acs):Prop:=Ko (kU k)
abbrev acS:=(Ex×Q1)->vy
def tV(k:acS):aq:=⟨162,[fE,aS],an,[],λs=>k (s.1,s.2)⟩
abbrev apZ(k:acS):Prop:=Ko (tV k)
abbrev Qw:=(Ex×Ex)->vb
def tW(k:Qw):aq:=⟨155,[fE,fE],.bool,[],λs=>k (s.1,s.2)⟩
abbrev aos(k:Qw):Prop:=Ko (tW k)
abbrev aaQ:=Q42->Option IM
def gA(k:aaQ):aq:=⟨156,[nU,(.dat ta []),Zr,Kp,(.bx 232 0 true [Hd]),amv],ew,[(true,2,Zr),(true,3,Kp),(true,4,(.bx 232 0 true [.same])),(true,1005,Hd),(true,5,(.bx 283 0 true [.same]))],λs=>k (s.1,s.2.1,s.2.2.1,s.2.2.2.1,s.2.2.2.2)⟩
abbrev ap3(k:aaQ):Prop:=Ko (gA k)
abbrev aas:=(Ex×gM)->Option aU
def yQ(k:aas):aq:=⟨121,[fE,Kf],dP,[],λs=>k (s.1,s.2)⟩
abbrev ap2(k:aas):Prop:=Ko (yQ k)
def acR:aq:=⟨17,[.str],(.sli .s),[],λs=>yz s⟩
theorem Uh:Ko acR:=
 aw .o call17 func17 (aj alE al)
def vQ:aq:=⟨18,[(.sli .s),.str],an,[],U2 cS⟩
theorem fO:Ko vQ:=
 aw (.l ⟨[(false,8,an)],[]⟩ .o) call18 func18 al
def Yh:aq:=⟨19,[.str],A5,[],λs=>wi s⟩
theorem Qp:Ko Yh:=
 aw (.c .o (.l ⟨[(false,4,an),(false,16,an)],[]⟩ .o)) call19 func19 al
def VN:aq:=⟨9,[.str],(.cD [wu,.bool]),[],λs=>dA s⟩
theorem pL:Ko VN:=
 aw (.c .o (.r [] (.s (.j ⟨[(false,6,an)],[]⟩ .o (.c .o (.l ⟨[(true,2,(.bx 33 0 true [.same,.same,.same,.same,.same,.same])),(true,7,(.bx 50 0 true [an,an,an,an,an])),(false,37,an)],[]⟩ .o)))))) call9 func9 (aj Uh (aj fO (aj Qp al)))
def afo:aq:=⟨22,[.str,aS],.str,[],U2 km⟩
theorem IL:Ko afo:=
 aw (.l ⟨[(false,0,.str),(false,9,an)],[]⟩ .o) call22 func22 (aj W5 al)
def adC:aq:=⟨82,[ic],.bool,[],λs=>Xh s⟩
theorem WQ:Ko adC:=
 aw .o call82 func82 al
def Sl:aq:=⟨84,[ic],.bool,[],λs=>IF s⟩
theorem JD:Ko Sl:=
 aw .o call84 func84 al
def aiY:aq:=⟨83,[.str,(.fn 84 [] [])],.str,[],λs=>aeD s⟩
theorem Z1:Ko aiY:=
 aw (.l ⟨[(false,8,an)],[]⟩ .o) call83 func83 (aj JD al)
def abU:aq:=⟨127,[ic],.bool,[],λs=>He s⟩
theorem CE:Ko abU:=
 aw .o call127 func127 al
def aeg:aq:=⟨129,[ic],.bool,[],λs=>Dg s⟩
theorem vr:Ko aeg:=
 aw .o call129 func129 al
def acO:aq:=⟨128,[ic],.bool,[],λs=>Us s⟩
theorem RR:Ko acO:=
 aw .o call128 func128 (aj CE (aj vr al))
def abB:aq:=⟨83,[.str,(.fn 128 [] [])],.str,[],λs=>RO s⟩
theorem Sj:Ko abB:=
 aw (.l ⟨[(false,8,an)],[]⟩ .o) call83 func83 (aj RR al)
def aav:aq:=⟨83,[.str,(.fn 129 [] [])],.str,[],λs=>RM s⟩
theorem UC:Ko aav:=
 aw (.l ⟨[(false,8,an)],[]⟩ .o) call83 func83 (aj vr al)
def adF:aq:=⟨130,[.str],A5,[],λs=>Xj s⟩
def vG(a:(Int×aF×Nat)->Option ki):Int×aF×Nat->Option ki:=λ⟨c,s,b⟩=> bif decide (b<List.length s) then ( bif decide (1073741824<(i64.wrap ((i64.wrap (10*c))+(i64.wrap (i32.wrap ((A6 s b)-48)))))) then some (0,false) else a ((i64.wrap ((i64.wrap (10*c))+(i64.wrap (i32.wrap ((A6 s b)-48))))),s,(mS s b))) else ( some (c,true))
theorem O3(s:aF):∀(N:Nat) (n:Int) (p:Nat),az vG N (n,s,p)=az (Ah s) N (n,p)
 |0,_,_=>rfl
 |N+1,n,p=>by rw [WY,WY];simp only [vG,Ah,O3 s N]
theorem Vk:Ko adF:=
 aX (.l ⟨[(false,4,an),(true,8,.it)],[]⟩ .o) call130 func130 al al al λs=>(show _=az vG aC (0,s,0) from by kernel_rfl).trans (O3 s aC 0 0)
def adG:aq:=⟨176,[],A8,[],λ_=>Xp⟩
theorem UX:Ko adG:=
 aw .o call176 func176 al
def sd:aq:=⟨202,[.str,.str],.bool,[],U2 kc⟩
theorem oV:Ko sd:=
 aw .o call202 func202 al
def Jx:aq:=⟨177,[.str,.str],.bool,[],U2 ye⟩
theorem Ef:Ko Jx:=
 aw .o call177 func177 (aj oV al)
def ahA:aq:=⟨131,[.str],.str,[],λs=>acb s⟩
theorem YQ:Ko ahA:=
 aw (.l ⟨[(false,7,an)],[]⟩ .o) call131 func131 (aj UX (aj Ef al))
def ad6:aq:=⟨85,[.str],(.cD [(.dat mX []),an]),[],λs=>XN s⟩
theorem Vm:Ko ad6:=
 aw .o call85 func85 (aj CE (aj Sj (aj vr (aj UC (aj Vk (aj YQ al))))))
def abz:aq:=⟨55,[.str],(.cD [(.own mX 142 true),an,an]),[],λs=>y7 s⟩
theorem CR:Ko abz:=
 aw (.n 0 (.j ⟨[(false,5,(.own mX 142 true)),(false,6,an)],[]⟩ .o .o)) call55 func55 (aj WQ (aj Z1 (aj Vm al)))
def MS:aq:=⟨88,[afP],(.dat mX []),[],U7 dF⟩
theorem dM:Ko MS:=
 aw (.r [2] .o) call88 func88 al
def SN:aq:=⟨89,[afP,an,.str],.bool,[],λs=>gq s.2.2.2.2.2.2.2.1 s.2.2.2.2.2.2.2.2 s.1 s.2.1 s.2.2.1 s.2.2.2.1 s.2.2.2.2.1 s.2.2.2.2.2.1 s.2.2.2.2.2.2.1⟩
theorem hU:Ko SN:=
 aw .o call89 func89 (aj dM al)
def Nz:bH:=⟨90,[afP,an],DP,none,true,false,ew,[],λs=>cF s.2.2.2.2.2.2.2 s.1 s.2.1 s.2.2.1 s.2.2.2.1 s.2.2.2.2.1 s.2.2.2.2.2.1 s.2.2.2.2.2.2.1⟩
theorem eV:pw Nz:=
 aa2 .o call90 func90 (aj dM al)
def sZ:aq:=⟨203,[(.sli .s),.str],.bool,[],U2 kK⟩
theorem pM:Ko sZ:=
 aw .o call203 func203 (aj fO al)
def agd:aq:=⟨178,[.str],.bool,[],λs=>ot s⟩
theorem mI:Ko agd:=
 aw .o call178 func178 (aj pM al)
def s4:aq:=⟨18,[AP,.str],an,[],U2 cV⟩
theorem fe:Ko s4:=
 aw (.l ⟨[(false,8,an)],[]⟩ .o) call18 func18 al
def pO:aq:=⟨203,[AP,.str],.bool,[],U2 fB⟩
theorem nM:Ko pO:=
 aw .o call203 func203 (aj fe al)
def Lf:aq:=⟨179,[afP,.str],.bool,[],λs=>Bt s.2.2.2.2.2.2.2 s.1 s.2.1 s.2.2.1 s.2.2.2.1 s.2.2.2.2.1 s.2.2.2.2.2.1 s.2.2.2.2.2.2.1⟩
theorem Ga:Ko Lf:=
 aw .o call179 func179 (aj nM al)
def NJ:bH:=⟨132,[abe,.bool],DP,none,false,false,.str,[(true,0,PY)],λs=>tg s.2.2.2.2.2.2.2 s.1 s.2.1 s.2.2.1 s.2.2.2.1 s.2.2.2.2.1 s.2.2.2.2.2.1 s.2.2.2.2.2.2.1⟩
theorem ub:pw NJ:=
 oz (.s (.s (.j ⟨[],[]⟩ .o .o))) call132 func132 (aj dM (aj mI (aj Ga al))) (aj eV al) al λ_=>by kernel_rfl
def Ji:bH:=⟨133,[abe],DP,none,false,false,an,[(true,0,PY)],U7 kT⟩
theorem DY:pw Ji:=
 oz (.s (.s (.j ⟨[(true,0,PY)],[]⟩ .o (.s (.j ⟨[],[]⟩ .o .o))))) call133 func133 (aj hU (aj dM al)) (aj eV al) al λ_=>by kernel_rfl
def MY:bH:=⟨134,[abe,.str],DP,none,false,false,ew,[(true,0,PY)],λs=>er s.2.2.2.2.2.2.2 s.1 s.2.1 s.2.2.1 s.2.2.2.1 s.2.2.2.2.1 s.2.2.2.2.2.1 s.2.2.2.2.2.2.1⟩
theorem iZ:pw MY:=
 oz (.j ⟨[],[]⟩ .o .o) call134 func134 (aj hU al) (aj eV al) al λ_=>by kernel_rfl
def MO:aq:=⟨96,[(.dat dC [])],.bool,[],λs=>uI s⟩
theorem tX:Ko MO:=
 aw .o call96 func96 al
def FB:aq:=⟨95,[L8,(.fn 96 [] [])],dP,[],λs=>uY s⟩
theorem Ap:Ko FB:=
 aw (.l ⟨[(true,5,dP),(false,13,an)],[]⟩ .o) call95 func95 (aj tX al)
def A7:aq:=⟨140,[(.sli .bo),.bool],an,[],U2 ra⟩
theorem wV:Ko A7:=
 aw (.l ⟨[(false,8,an)],[]⟩ .o) call140 func140 al
def w9:aq:=⟨94,[(.sli .bo),.bool],.bool,[],U2 fL⟩
theorem fV:Ko w9:=
 aw .o call94 func94 (aj wV al)
def Nw:aq:=⟨61,[L8],.bool,[],λs=>C3 s⟩
theorem HG:Ko Nw:=
 aw .o call61 func61 (aj Ap (aj fV al))
def MU:aq:=⟨141,[(.dat dC []),an],.bool,[],U2 nF⟩
theorem lX:Ko MU:=
 aw .o call141 func141 al
def Wz:aq:=⟨97,[L8,aS],an,[],U2 LF⟩
theorem NN:Ko Wz:=
 aw (.c .o (.l ⟨[(false,14,an)],[]⟩ .o)) call97 func97 (aj lX al)
def FX:bH:=⟨86,[(.bx 138 0 true [G4,an,A8,HN,fp,AP,(.own sb 299 false)])],DP,none,false,false,ew,[(true,0,(.bx 138 0 true [.same,an,A8,HN,fp,.same,.same]))],U7 vd⟩
theorem AH:pw FX:=
 oz (.s (.s (.s (.s (.s (.j ⟨[],[]⟩ .o (.r [0] .o))))))) call86 func86 (aj dM (aj HG (aj NN al))) (aj ub (aj DY (aj iZ al))) al λ_=>by kernel_rfl
def IT:aq:=⟨136,[ia,an],bF,[(true,0,(.bx 196 0 true [.same,.same,.same,.same,an,an]))],λs=>bG s.2.2.2.2.2.2 s.1 s.2.1 s.2.2.1 s.2.2.2.1 s.2.2.2.2.1 s.2.2.2.2.2.1⟩
theorem dS:Ko IT:=
 aw (.c (.r [0] .o) .o) call136 func136 al
def I0:aq:=⟨183,[(.bx 196 0 false [G4,an,AP,an,an,an])],(.dat mX []),[],U6 aQ⟩
theorem bN:Ko I0:=
 aw (.r [2] .o) call183 func183 al
def Ni:aq:=⟨182,[(.bx 196 0 false [G4,an,AP,an,an,an]),aS],A5,[],λs=>bp s.2.2.2.2.2.2 s.1 s.2.1 s.2.2.1 s.2.2.2.1 s.2.2.2.2.1 s.2.2.2.2.2.1⟩
theorem ck:Ko Ni:=
 aw (.c .o (.l ⟨[(false,27,an)],[]⟩ .o)) call182 func182 (aj bN (aj mI al))
def K9(a:cR):aq:=⟨228,[ia],bF,[(true,0,cB)],λs=>rW a s.1 s.2.1 s.2.2.1 s.2.2.2.1 s.2.2.2.2.1 s.2.2.2.2.2⟩
def oQ(h:Ex->Ex)(C:Sh->(R:Type)->Option R->Option R)(B:Q2->Option Q3)(l:Q6)(at_:Int)(c:aD)(d:Int)(f:Int)(b:Int):Option Q3:= bif f != 0 then some ((Ex.mk 0 0 0 []),at_,d,f,b) else (aQ l at_ c d f b).bind λe=> (bp ([13,14]:xi) l at_ c d f b).bind λn=> bif n.2 then ( some ((Ex.mk n.1 0 e.2.2.2 []),(i64.wrap (at_+1)),d,f,b)) else ( bif e.1==2 then some ((Ex.mk 1 e.2.2.1 e.2.2.2 []),(i64.wrap (at_+1)),d,f,b) else ai (e.1==1) λp=> bu p default (ot e.2.1) λs=> ai (!s) λA=> ai (p&&A) λz=> bif z then ( (cV c e.2.1).bind λm=> bif decide (m<0) then (bG 3 l at_ c d f b).bind λj=> some ((h j.1),at_,d,j.2.1,j.2.2) else some ((Ex.mk 2 m e.2.2.2 []),(i64.wrap (at_+1)),d,f,b)) else ( ai (e.1==3) λy=> ai (e.2.1==[40]) λx=> ai (y&&x) λw=> bif w then ( (B (l,(i64.wrap (at_+1)),c,d,f,b)).bind λa=> ai (a.2.2.2.1==0) λk=> bu k default (aQ l a.2.1 c a.2.2.1 a.2.2.2.1 a.2.2.2.2) λr=> ai (r.1 != 3) λo=> bu (k&& !o) default (aQ l a.2.1 c a.2.2.1 a.2.2.2.1 a.2.2.2.2) λq=> ai (q.2.1 != [41]) λv=> ai (o||v) λu=> ai (k&&u) λt=> bif t then ( (bG 2 l a.2.1 c a.2.2.1 a.2.2.2.1 a.2.2.2.2).bind λi=> some ((h i.1),a.2.1,a.2.2.1,i.2.1,i.2.2)) else ( bif a.2.2.2.1==0 then some ((h a.1),(i64.wrap (a.2.1+1)),a.2.2.1,a.2.2.2.1,a.2.2.2.2) else some ((h a.1),a.2.1,a.2.2.1,a.2.2.2.1,a.2.2.2.2))) else ( (bG 2 l at_ c d f b).bind λg=> some ((h g.1),at_,d,g.2.1,g.2.2))))
theorem F4(a:cR)(d:iO a):Ko (K9 a):=
 aX (.c .o (.c .o (.c .o (.c (.r [0] .o) .o)))) call228 func228 (aj bN (aj ck (aj mI (aj fe (aj dS (aj d al)))))) al al λs=>(show _=oQ bk aM a s.1 s.2.1 s.2.2.1 s.2.2.2.1 s.2.2.2.2.1 s.2.2.2.2.2 from by kernel_rfl).trans ((congrArg (λb=>oQ b aM a s.1 s.2.1 s.2.2.1 s.2.2.2.1 s.2.2.2.2.1 s.2.2.2.2.2) aJ).trans ((congrArg (λe=>oQ id e a s.1 s.2.1 s.2.2.1 s.2.2.2.1 s.2.2.2.2.1 s.2.2.2.2.2) aN).trans (by kernel_rfl)))
def Gg(a:cR)(b:RL):aq:=⟨222,[ia,MA,(.fn 228 [] []),aS],bF,[(true,0,cB)],λs=>ny a b s.2.2.2.2.2.2 s.1 s.2.1 s.2.2.1 s.2.2.2.1 s.2.2.2.2.1 s.2.2.2.2.2.1⟩
def ld(h:Ex->Ex)(m:Sh->(R:Type)->Option R->Option R)(k:Q2->Option Q3)(j:Q2->Option Q3)(ops:Q1)(l:Q6)(at_:Int)(b:aD)(c:Int)(f:Int)(a:Int):Option Q3:= (bp ops l at_ b c f a).bind λg=> bif !g.2 then (rW k l at_ b c f a).bind λe=> some ((h e.1),e.2.1,e.2.2.1,e.2.2.2.1,e.2.2.2.2) else (aQ l at_ b c f a).bind λi=> (j (l,(i64.wrap (at_+1)),b,c,f,a)).bind λd=> some ((Ex.mk g.1 0 i.2.2.2 ([(h d.1)]:List Ex)),d.2.1,d.2.2.1,d.2.2.2.1,d.2.2.2.2)
theorem Bx(a:cR)(e:iO a)(b:RL)(f:OK0 b):Ko (Gg a b):=
 aX (.c .o (.r [0,8] .o)) call222 func222 (aj ck (aj (F4 a e) (aj bN (aj f al)))) al al λs=>(show _=ld bk aM a b s.2.2.2.2.2.2 s.1 s.2.1 s.2.2.1 s.2.2.2.1 s.2.2.2.2.1 s.2.2.2.2.2.1 from by kernel_rfl).trans ((congrArg (λd=>ld d aM a b s.2.2.2.2.2.2 s.1 s.2.1 s.2.2.1 s.2.2.2.1 s.2.2.2.2.1 s.2.2.2.2.2.1) aJ).trans ((congrArg (λg=>ld id g a b s.2.2.2.2.2.2 s.1 s.2.1 s.2.2.1 s.2.2.2.1 s.2.2.2.2.1 s.2.2.2.2.2.1) aN).trans (by kernel_rfl)))
def LZ(a:cR)(b:RL):aq:=⟨227,[ia],bF,[(true,0,cB)],λs=>rS a b s.1 s.2.1 s.2.2.1 s.2.2.2.1 s.2.2.2.2.1 s.2.2.2.2.2⟩
def oT(e:Ex->Ex)(i:Sh->(R:Type)->Option R->Option R)(h:Q2->Option Q3)(g:Q2->Option Q3)(l:Q6)(at_:Int)(c:aD)(d:Int)(f:Int)(b:Int):Option Q3:= (ny h g ([6]:xi) l at_ c d f b).bind λa=> some ((e a.1),a.2.1,a.2.2.1,a.2.2.2.1,a.2.2.2.2)
theorem Fj(a:cR)(d:iO a)(b:RL)(e:OK0 b):Ko (LZ a b):=
 aX .o call227 func227 (aj (Bx a d b e) al) al al λs=>(show _=oT bk aM a b s.1 s.2.1 s.2.2.1 s.2.2.2.1 s.2.2.2.2.1 s.2.2.2.2.2 from by kernel_rfl).trans ((congrArg (λc=>oT c aM a b s.1 s.2.1 s.2.2.1 s.2.2.2.1 s.2.2.2.2.1 s.2.2.2.2.2) aJ).trans ((congrArg (λf=>oT id f a b s.1 s.2.1 s.2.2.1 s.2.2.2.1 s.2.2.2.2.1 s.2.2.2.2.2) aN).trans (by kernel_rfl)))
def sG(a:cR):aq:=⟨91,[ia,MA],bF,[(true,0,cB)],λs=>na a s.1 s.2.1 s.2.2.1 s.2.2.2.1 s.2.2.2.2.1 s.2.2.2.2.2⟩
def jI(f:Ex->Ex)(j:Sh->(R:Type)->Option R->Option R)(i:Q2->Option Q3)(h:Q2->Option Q3)(l:Q6)(at_:Int)(d:aD)(a:Int)(g:Int)(c:Int):Option Q3:= bif decide (320<=a) then (bG 9 l at_ d a g c).bind λe=> some ((f e.1),at_,a,e.2.1,e.2.2) else (rS i h l at_ d (i64.wrap (a+1)) g c).bind λb=> some ((f b.1),b.2.1,(i64.wrap (b.2.2.1-1)),b.2.2.2.1,b.2.2.2.2)
def sB(a:cR):RL->RL:=λb s=>sP a b s.1 s.2.1 s.2.2.1 s.2.2.2.1 s.2.2.2.2.1 s.2.2.2.2.2
theorem xB(a:cR)(d:iO a)(b:RL)(e:OK0 b):(gT (sB a b)).Ok X0.P X0.Γ:=
 aX .o call91 func91 (aj dS (aj (Fj a d b e) al)) al al λs=>(show _=jI bk aM a b s.1 s.2.1 s.2.2.1 s.2.2.2.1 s.2.2.2.2.1 s.2.2.2.2.2 from by kernel_rfl).trans ((congrArg (λc=>jI c aM a b s.1 s.2.1 s.2.2.1 s.2.2.2.1 s.2.2.2.2.1 s.2.2.2.2.2) aJ).trans ((congrArg (λf=>jI id f a b s.1 s.2.1 s.2.2.1 s.2.2.2.1 s.2.2.2.2.1 s.2.2.2.2.2) aN).trans (by kernel_rfl)))
theorem Br(a:cR)(b:iO a):Ko (sG a):=(show sG a=gT (az (sB a) aC) by kernel_rfl)▸dT (X:=X0) (E:=gT) ⟨call91,λ_ _ h=>nomatch h⟩ (xB a b) aC
def Eg(a:cR):aq:=⟨226,[ia],bF,[(true,0,cB)],λs=>fS a s.1 s.2.1 s.2.2.1 s.2.2.2.1 s.2.2.2.2.1 s.2.2.2.2.2⟩
def kH(e:Ex->Ex)(h:Sh->(R:Type)->Option R->Option R)(g:Q2->Option Q3)(l:Q6)(at_:Int)(c:aD)(d:Int)(f:Int)(b:Int):Option Q3:= (na g l at_ c d f b).bind λa=> some ((e a.1),a.2.1,a.2.2.1,a.2.2.2.1,a.2.2.2.2)
theorem yL(a:cR)(c:iO a):Ko (Eg a):=
 aX .o call226 func226 (aj (Br a c) al) al al λs=>(show _=kH bk aM a s.1 s.2.1 s.2.2.1 s.2.2.2.1 s.2.2.2.2.1 s.2.2.2.2.2 from by kernel_rfl).trans ((congrArg (λb=>kH b aM a s.1 s.2.1 s.2.2.1 s.2.2.2.1 s.2.2.2.2.1 s.2.2.2.2.2) aJ).trans ((congrArg (λd=>kH id d a s.1 s.2.1 s.2.2.1 s.2.2.2.1 s.2.2.2.2.1 s.2.2.2.2.2) aN).trans (by kernel_rfl)))
def HW(a:cR):aq:=⟨214,[ia,(.fn 226 [] []),aS],bF,[(true,0,cB)],λs=>oI a s.2.2.2.2.2.2 s.1 s.2.1 s.2.2.1 s.2.2.2.1 s.2.2.2.2.1 s.2.2.2.2.2.1⟩
def Cr(o:Ex->Ex)(q:Sh->(R:Type)->Option R->Option R)(p:Q2->Option Q3)(ops:Q1)(l:Q6)(a:aD)(g:x9->Option Q3):Int×Int×Int×Int×Int×Int×Int×(List Ex)->Option Q3:=λ⟨f,e,b,d,k,j,i,h⟩=> bif b==0 then (bp ops l f a e b d).bind λm=> bif !m.2 then some ((Ex.mk k j i h),f,e,b,d) else (aQ l f a e b d).bind λn=> (fS p l (i64.wrap (f+1)) a e b d).bind λc=> g (c.2.1,c.2.2.1,c.2.2.2.1,c.2.2.2.2,m.1,0,n.2.2.2,([(Ex.mk k j i h),(o c.1)]:List Ex)) else some ((Ex.mk k j i h),f,e,b,d)
def ml(e:Ex->Ex)(h:Sh->(R:Type)->Option R->Option R)(g:Q2->Option Q3)(ops:Q1)(l:Q6)(at_:Int)(b:aD)(d:Int)(f:Int)(c:Int):Option Q3:= (fS g l at_ b d f c).bind λa=> az (Cr e h g ops l b) aC (a.2.1,a.2.2.1,a.2.2.2.1,a.2.2.2.2,a.1.op,a.1.n,a.1.at_,a.1.l)
theorem BV(a:cR)(c:iO a):Ko (HW a):=
 aX (.l ⟨[(true,0,cB),(true,6,Ip),(true,7,Kl)],[]⟩ .o) call214 func214 (aj (yL a c) (aj ck (aj bN al))) al al λs=>(show _=ml bk aM a s.2.2.2.2.2.2 s.1 s.2.1 s.2.2.1 s.2.2.2.1 s.2.2.2.2.1 s.2.2.2.2.2.1 from by kernel_rfl).trans ((congrArg (λb=>ml b aM a s.2.2.2.2.2.2 s.1 s.2.1 s.2.2.1 s.2.2.2.1 s.2.2.2.2.1 s.2.2.2.2.2.1) aJ).trans ((congrArg (λd=>ml id d a s.2.2.2.2.2.2 s.1 s.2.1 s.2.2.1 s.2.2.2.1 s.2.2.2.2.1 s.2.2.2.2.2.1) aN).trans (by kernel_rfl)))
def I7(a:cR):aq:=⟨225,[ia],bF,[(true,0,cB)],λs=>iR a s.1 s.2.1 s.2.2.1 s.2.2.2.1 s.2.2.2.2.1 s.2.2.2.2.2⟩
def mU(e:Ex->Ex)(h:Sh->(R:Type)->Option R->Option R)(g:Q2->Option Q3)(l:Q6)(at_:Int)(c:aD)(d:Int)(f:Int)(b:Int):Option Q3:= (oI g ([5]:xi) l at_ c d f b).bind λa=> some ((e a.1),a.2.1,a.2.2.1,a.2.2.2.1,a.2.2.2.2)
theorem DW(a:cR)(c:iO a):Ko (I7 a):=
 aX .o call225 func225 (aj (BV a c) al) al al λs=>(show _=mU bk aM a s.1 s.2.1 s.2.2.1 s.2.2.2.1 s.2.2.2.2.1 s.2.2.2.2.2 from by kernel_rfl).trans ((congrArg (λb=>mU b aM a s.1 s.2.1 s.2.2.1 s.2.2.2.1 s.2.2.2.2.1 s.2.2.2.2.2) aJ).trans ((congrArg (λd=>mU id d a s.1 s.2.1 s.2.2.1 s.2.2.2.1 s.2.2.2.2.1 s.2.2.2.2.2) aN).trans (by kernel_rfl)))
def Hs(a:cR):aq:=⟨214,[ia,(.fn 225 [] []),aS],bF,[(true,0,cB)],λs=>nV a s.2.2.2.2.2.2 s.1 s.2.1 s.2.2.1 s.2.2.2.1 s.2.2.2.2.1 s.2.2.2.2.2.1⟩
def BR(o:Ex->Ex)(q:Sh->(R:Type)->Option R->Option R)(p:Q2->Option Q3)(ops:Q1)(l:Q6)(a:aD)(g:x9->Option Q3):Int×Int×Int×Int×Int×Int×Int×(List Ex)->Option Q3:=λ⟨f,e,b,d,k,j,i,h⟩=> bif b==0 then (bp ops l f a e b d).bind λm=> bif !m.2 then some ((Ex.mk k j i h),f,e,b,d) else (aQ l f a e b d).bind λn=> (iR p l (i64.wrap (f+1)) a e b d).bind λc=> g (c.2.1,c.2.2.1,c.2.2.2.1,c.2.2.2.2,m.1,0,n.2.2.2,([(Ex.mk k j i h),(o c.1)]:List Ex)) else some ((Ex.mk k j i h),f,e,b,d)
def me(e:Ex->Ex)(h:Sh->(R:Type)->Option R->Option R)(g:Q2->Option Q3)(ops:Q1)(l:Q6)(at_:Int)(b:aD)(d:Int)(f:Int)(c:Int):Option Q3:= (iR g l at_ b d f c).bind λa=> az (BR e h g ops l b) aC (a.2.1,a.2.2.1,a.2.2.2.1,a.2.2.2.2,a.1.op,a.1.n,a.1.at_,a.1.l)
theorem BZ(a:cR)(c:iO a):Ko (Hs a):=
 aX (.l ⟨[(true,0,cB),(true,6,Ip),(true,7,Kl)],[]⟩ .o) call214 func214 (aj (DW a c) (aj ck (aj bN al))) al al λs=>(show _=me bk aM a s.2.2.2.2.2.2 s.1 s.2.1 s.2.2.1 s.2.2.2.1 s.2.2.2.2.1 s.2.2.2.2.2.1 from by kernel_rfl).trans ((congrArg (λb=>me b aM a s.2.2.2.2.2.2 s.1 s.2.1 s.2.2.1 s.2.2.2.1 s.2.2.2.2.1 s.2.2.2.2.2.1) aJ).trans ((congrArg (λd=>me id d a s.2.2.2.2.2.2 s.1 s.2.1 s.2.2.1 s.2.2.2.1 s.2.2.2.2.1 s.2.2.2.2.2.1) aN).trans (by kernel_rfl)))
def LJ(a:cR):aq:=⟨224,[ia],bF,[(true,0,cB)],λs=>ju a s.1 s.2.1 s.2.2.1 s.2.2.2.1 s.2.2.2.2.1 s.2.2.2.2.2⟩
def nX(e:Ex->Ex)(h:Sh->(R:Type)->Option R->Option R)(g:Q2->Option Q3)(l:Q6)(at_:Int)(c:aD)(d:Int)(f:Int)(b:Int):Option Q3:= (nV g ([3,4]:xi) l at_ c d f b).bind λa=> some ((e a.1),a.2.1,a.2.2.1,a.2.2.2.1,a.2.2.2.2)
theorem E3(a:cR)(c:iO a):Ko (LJ a):=
 aX .o call224 func224 (aj (BZ a c) al) al al λs=>(show _=nX bk aM a s.1 s.2.1 s.2.2.1 s.2.2.2.1 s.2.2.2.2.1 s.2.2.2.2.2 from by kernel_rfl).trans ((congrArg (λb=>nX b aM a s.1 s.2.1 s.2.2.1 s.2.2.2.1 s.2.2.2.2.1 s.2.2.2.2.2) aJ).trans ((congrArg (λd=>nX id d a s.1 s.2.1 s.2.2.1 s.2.2.2.1 s.2.2.2.2.1 s.2.2.2.2.2) aN).trans (by kernel_rfl)))
def Kv(a:cR):aq:=⟨223,[ia],bF,[(true,0,cB)],λs=>rJ a s.1 s.2.1 s.2.2.1 s.2.2.2.1 s.2.2.2.2.1 s.2.2.2.2.2⟩
def oJ(e:Ex->Ex)(o:Sh->(R:Type)->Option R->Option R)(n:Q2->Option Q3)(l:Q6)(at_:Int)(b:aD)(g:Int)(i:Int)(d:Int):Option Q3:= (ju n l at_ b g i d).bind λa=> (bp ([7,8,9,10,11,12]:xi) l a.2.1 b a.2.2.1 a.2.2.2.1 a.2.2.2.2).bind λf=> ai (a.2.2.2.1 != 0) λm=> ai (!f.2) λk=> ai (m||k) λj=> bif j then ( some ((e a.1),a.2.1,a.2.2.1,a.2.2.2.1,a.2.2.2.2)) else ( (aQ l a.2.1 b a.2.2.1 a.2.2.2.1 a.2.2.2.2).bind λh=> (ju n l (i64.wrap (a.2.1+1)) b a.2.2.1 a.2.2.2.1 a.2.2.2.2).bind λc=> some ((Ex.mk f.1 0 h.2.2.2 ([(e a.1),(e c.1)]:List Ex)),c.2.1,c.2.2.1,c.2.2.2.1,c.2.2.2.2))
theorem FL(a:cR)(c:iO a):Ko (Kv a):=
 aX .o call223 func223 (aj (E3 a c) (aj ck (aj bN al))) al al λs=>(show _=oJ bk aM a s.1 s.2.1 s.2.2.1 s.2.2.2.1 s.2.2.2.2.1 s.2.2.2.2.2 from by kernel_rfl).trans ((congrArg (λb=>oJ b aM a s.1 s.2.1 s.2.2.1 s.2.2.2.1 s.2.2.2.2.1 s.2.2.2.2.2) aJ).trans ((congrArg (λd=>oJ id d a s.1 s.2.1 s.2.2.1 s.2.2.2.1 s.2.2.2.2.1 s.2.2.2.2.2) aN).trans (by kernel_rfl)))
def E5(a:cR)(b:SG):aq:=⟨222,[ia,Mr,(.fn 223 [] []),aS],bF,[(true,0,cB)],λs=>np a b s.2.2.2.2.2.2 s.1 s.2.1 s.2.2.1 s.2.2.2.1 s.2.2.2.2.1 s.2.2.2.2.2.1⟩
def lf(h:Ex->Ex)(m:Sh->(R:Type)->Option R->Option R)(k:Q2->Option Q3)(j:Q2->Option Q3)(ops:Q1)(l:Q6)(at_:Int)(b:aD)(c:Int)(f:Int)(a:Int):Option Q3:= (bp ops l at_ b c f a).bind λg=> bif !g.2 then (rJ k l at_ b c f a).bind λe=> some ((h e.1),e.2.1,e.2.2.1,e.2.2.2.1,e.2.2.2.2) else (aQ l at_ b c f a).bind λi=> (j (l,(i64.wrap (at_+1)),b,c,f,a)).bind λd=> some ((Ex.mk g.1 0 i.2.2.2 ([(h d.1)]:List Ex)),d.2.1,d.2.2.1,d.2.2.2.1,d.2.2.2.2)
theorem Be(a:cR)(e:iO a)(b:SG)(f:OK1 b):Ko (E5 a b):=
 aX (.c .o (.r [0,8] .o)) call222 func222 (aj ck (aj (FL a e) (aj bN (aj f al)))) al al λs=>(show _=lf bk aM a b s.2.2.2.2.2.2 s.1 s.2.1 s.2.2.1 s.2.2.2.1 s.2.2.2.2.1 s.2.2.2.2.2.1 from by kernel_rfl).trans ((congrArg (λd=>lf d aM a b s.2.2.2.2.2.2 s.1 s.2.1 s.2.2.1 s.2.2.2.1 s.2.2.2.2.1 s.2.2.2.2.2.1) aJ).trans ((congrArg (λg=>lf id g a b s.2.2.2.2.2.2 s.1 s.2.1 s.2.2.1 s.2.2.2.1 s.2.2.2.2.1 s.2.2.2.2.2.1) aN).trans (by kernel_rfl)))
def KJ(a:cR)(b:SG):aq:=⟨221,[ia],bF,[(true,0,cB)],λs=>sh a b s.1 s.2.1 s.2.2.1 s.2.2.2.1 s.2.2.2.2.1 s.2.2.2.2.2⟩
def oK(e:Ex->Ex)(i:Sh->(R:Type)->Option R->Option R)(h:Q2->Option Q3)(g:Q2->Option Q3)(l:Q6)(at_:Int)(c:aD)(d:Int)(f:Int)(b:Int):Option Q3:= (np h g ([15,20,21,22]:xi) l at_ c d f b).bind λa=> some ((e a.1),a.2.1,a.2.2.1,a.2.2.2.1,a.2.2.2.2)
theorem Fc(a:cR)(d:iO a)(b:SG)(e:OK1 b):Ko (KJ a b):=
 aX .o call221 func221 (aj (Be a d b e) al) al al λs=>(show _=oK bk aM a b s.1 s.2.1 s.2.2.1 s.2.2.2.1 s.2.2.2.2.1 s.2.2.2.2.2 from by kernel_rfl).trans ((congrArg (λc=>oK c aM a b s.1 s.2.1 s.2.2.1 s.2.2.2.1 s.2.2.2.2.1 s.2.2.2.2.2) aJ).trans ((congrArg (λf=>oK id f a b s.1 s.2.1 s.2.2.1 s.2.2.2.1 s.2.2.2.2.1 s.2.2.2.2.2) aN).trans (by kernel_rfl)))
def sx(a:cR):aq:=⟨91,[ia,Mr],bF,[(true,0,cB)],λs=>ni a s.1 s.2.1 s.2.2.1 s.2.2.2.1 s.2.2.2.2.1 s.2.2.2.2.2⟩
def jJ(f:Ex->Ex)(j:Sh->(R:Type)->Option R->Option R)(i:Q2->Option Q3)(h:Q2->Option Q3)(l:Q6)(at_:Int)(d:aD)(a:Int)(g:Int)(c:Int):Option Q3:= bif decide (320<=a) then (bG 9 l at_ d a g c).bind λe=> some ((f e.1),at_,a,e.2.1,e.2.2) else (sh i h l at_ d (i64.wrap (a+1)) g c).bind λb=> some ((f b.1),b.2.1,(i64.wrap (b.2.2.1-1)),b.2.2.2.1,b.2.2.2.2)
def sH(a:cR):SG->SG:=λb s=>sD a b s.1 s.2.1 s.2.2.1 s.2.2.2.1 s.2.2.2.2.1 s.2.2.2.2.2
theorem xt(a:cR)(d:iO a)(b:SG)(e:OK1 b):(gW (sH a b)).Ok X0.P X0.Γ:=
 aX .o call91 func91 (aj dS (aj (Fc a d b e) al)) al al λs=>(show _=jJ bk aM a b s.1 s.2.1 s.2.2.1 s.2.2.2.1 s.2.2.2.2.1 s.2.2.2.2.2 from by kernel_rfl).trans ((congrArg (λc=>jJ c aM a b s.1 s.2.1 s.2.2.1 s.2.2.2.1 s.2.2.2.2.1 s.2.2.2.2.2) aJ).trans ((congrArg (λf=>jJ id f a b s.1 s.2.1 s.2.2.1 s.2.2.2.1 s.2.2.2.2.1 s.2.2.2.2.2) aN).trans (by kernel_rfl)))
theorem Ai(a:cR)(b:iO a):Ko (sx a):=(show sx a=gW (az (sH a) aC) by kernel_rfl)▸dT (X:=X0) (E:=gW) ⟨call91,λ_ _ h=>nomatch h⟩ (xt a b) aC
def DB(a:cR):aq:=⟨220,[ia],bF,[(true,0,cB)],λs=>lJ a s.1 s.2.1 s.2.2.1 s.2.2.2.1 s.2.2.2.2.1 s.2.2.2.2.2⟩
def kG(e:Ex->Ex)(h:Sh->(R:Type)->Option R->Option R)(g:Q2->Option Q3)(l:Q6)(at_:Int)(c:aD)(d:Int)(f:Int)(b:Int):Option Q3:= (ni g l at_ c d f b).bind λa=> some ((e a.1),a.2.1,a.2.2.1,a.2.2.2.1,a.2.2.2.2)
theorem yH(a:cR)(c:iO a):Ko (DB a):=
 aX .o call220 func220 (aj (Ai a c) al) al al λs=>(show _=kG bk aM a s.1 s.2.1 s.2.2.1 s.2.2.2.1 s.2.2.2.2.1 s.2.2.2.2.2 from by kernel_rfl).trans ((congrArg (λb=>kG b aM a s.1 s.2.1 s.2.2.1 s.2.2.2.1 s.2.2.2.2.1 s.2.2.2.2.2) aJ).trans ((congrArg (λd=>kG id d a s.1 s.2.1 s.2.2.1 s.2.2.2.1 s.2.2.2.2.1 s.2.2.2.2.2) aN).trans (by kernel_rfl)))
def Ie(a:cR)(b:Sb):aq:=⟨137,[ia,(.fn 220 [] []),MG,aS],bF,[(true,0,cB)],λs=>nO a b s.2.2.2.2.2.2 s.1 s.2.1 s.2.2.1 s.2.2.2.1 s.2.2.2.2.1 s.2.2.2.2.2.1⟩
def lL(e:Ex->Ex)(p:Sh->(R:Type)->Option R->Option R)(o:Q2->Option Q3)(n:Q2->Option Q3)(ops:Q1)(l:Q6)(at_:Int)(b:aD)(g:Int)(i:Int)(d:Int):Option Q3:= (lJ o l at_ b g i d).bind λa=> (bp ops l a.2.1 b a.2.2.1 a.2.2.2.1 a.2.2.2.2).bind λf=> ai (a.2.2.2.1 != 0) λm=> ai (!f.2) λk=> ai (m||k) λj=> bif j then ( some ((e a.1),a.2.1,a.2.2.1,a.2.2.2.1,a.2.2.2.2)) else ( (aQ l a.2.1 b a.2.2.1 a.2.2.2.1 a.2.2.2.2).bind λh=> (n (l,(i64.wrap (a.2.1+1)),b,a.2.2.1,a.2.2.2.1,a.2.2.2.2)).bind λc=> some ((Ex.mk f.1 0 h.2.2.2 ([(e a.1),(e c.1)]:List Ex)),c.2.1,c.2.2.1,c.2.2.2.1,c.2.2.2.2))
theorem B6(a:cR)(d:iO a)(b:Sb)(e:OK2 b):Ko (Ie a b):=
 aX .o call137 func137 (aj (yH a d) (aj ck (aj bN (aj e al)))) al al λs=>(show _=lL bk aM a b s.2.2.2.2.2.2 s.1 s.2.1 s.2.2.1 s.2.2.2.1 s.2.2.2.2.1 s.2.2.2.2.2.1 from by kernel_rfl).trans ((congrArg (λc=>lL c aM a b s.2.2.2.2.2.2 s.1 s.2.1 s.2.2.1 s.2.2.2.1 s.2.2.2.2.1 s.2.2.2.2.2.1) aJ).trans ((congrArg (λf=>lL id f a b s.2.2.2.2.2.2 s.1 s.2.1 s.2.2.1 s.2.2.2.1 s.2.2.2.2.1 s.2.2.2.2.2.1) aN).trans (by kernel_rfl)))
def Ik(a:cR)(b:Sb):aq:=⟨219,[ia],bF,[(true,0,cB)],λs=>nY a b s.1 s.2.1 s.2.2.1 s.2.2.2.1 s.2.2.2.2.1 s.2.2.2.2.2⟩
def lN(e:Ex->Ex)(i:Sh->(R:Type)->Option R->Option R)(h:Q2->Option Q3)(g:Q2->Option Q3)(l:Q6)(at_:Int)(c:aD)(d:Int)(f:Int)(b:Int):Option Q3:= (nO h g ([23,24]:xi) l at_ c d f b).bind λa=> some ((e a.1),a.2.1,a.2.2.1,a.2.2.2.1,a.2.2.2.2)
theorem B9(a:cR)(d:iO a)(b:Sb)(e:OK2 b):Ko (Ik a b):=
 aX .o call219 func219 (aj (B6 a d b e) al) al al λs=>(show _=lN bk aM a b s.1 s.2.1 s.2.2.1 s.2.2.2.1 s.2.2.2.2.1 s.2.2.2.2.2 from by kernel_rfl).trans ((congrArg (λc=>lN c aM a b s.1 s.2.1 s.2.2.1 s.2.2.2.1 s.2.2.2.2.1 s.2.2.2.2.2) aJ).trans ((congrArg (λf=>lN id f a b s.1 s.2.1 s.2.2.1 s.2.2.2.1 s.2.2.2.2.1 s.2.2.2.2.2) aN).trans (by kernel_rfl)))
def sC(a:cR):aq:=⟨91,[ia,MG],bF,[(true,0,cB)],λs=>ng a s.1 s.2.1 s.2.2.1 s.2.2.2.1 s.2.2.2.2.1 s.2.2.2.2.2⟩
def jO(f:Ex->Ex)(j:Sh->(R:Type)->Option R->Option R)(i:Q2->Option Q3)(h:Q2->Option Q3)(l:Q6)(at_:Int)(d:aD)(a:Int)(g:Int)(c:Int):Option Q3:= bif decide (320<=a) then (bG 9 l at_ d a g c).bind λe=> some ((f e.1),at_,a,e.2.1,e.2.2) else (nY i h l at_ d (i64.wrap (a+1)) g c).bind λb=> some ((f b.1),b.2.1,(i64.wrap (b.2.2.1-1)),b.2.2.2.1,b.2.2.2.2)
def sQ(a:cR):Sb->Sb:=λb s=>sw a b s.1 s.2.1 s.2.2.1 s.2.2.2.1 s.2.2.2.2.1 s.2.2.2.2.2
theorem xq(a:cR)(d:iO a)(b:Sb)(e:OK2 b):(gX (sQ a b)).Ok X0.P X0.Γ:=
 aX .o call91 func91 (aj dS (aj (B9 a d b e) al)) al al λs=>(show _=jO bk aM a b s.1 s.2.1 s.2.2.1 s.2.2.2.1 s.2.2.2.2.1 s.2.2.2.2.2 from by kernel_rfl).trans ((congrArg (λc=>jO c aM a b s.1 s.2.1 s.2.2.1 s.2.2.2.1 s.2.2.2.2.1 s.2.2.2.2.2) aJ).trans ((congrArg (λf=>jO id f a b s.1 s.2.1 s.2.2.1 s.2.2.2.1 s.2.2.2.2.1 s.2.2.2.2.2) aN).trans (by kernel_rfl)))
theorem BL(a:cR)(b:iO a):Ko (sC a):=(show sC a=gX (az (sQ a) aC) by kernel_rfl)▸dT (X:=X0) (E:=gX) ⟨call91,λ_ _ h=>nomatch h⟩ (xq a b) aC
def Bo(a:cR):aq:=⟨218,[ia],bF,[(true,0,cB)],λs=>fk a s.1 s.2.1 s.2.2.1 s.2.2.2.1 s.2.2.2.2.1 s.2.2.2.2.2⟩
def jx(e:Ex->Ex)(h:Sh->(R:Type)->Option R->Option R)(g:Q2->Option Q3)(l:Q6)(at_:Int)(c:aD)(d:Int)(f:Int)(b:Int):Option Q3:= (ng g l at_ c d f b).bind λa=> some ((e a.1),a.2.1,a.2.2.1,a.2.2.2.1,a.2.2.2.2)
theorem wC(a:cR)(c:iO a):Ko (Bo a):=
 aX .o call218 func218 (aj (BL a c) al) al al λs=>(show _=jx bk aM a s.1 s.2.1 s.2.2.1 s.2.2.2.1 s.2.2.2.2.1 s.2.2.2.2.2 from by kernel_rfl).trans ((congrArg (λb=>jx b aM a s.1 s.2.1 s.2.2.1 s.2.2.2.1 s.2.2.2.2.1 s.2.2.2.2.2) aJ).trans ((congrArg (λd=>jx id d a s.1 s.2.1 s.2.2.1 s.2.2.2.1 s.2.2.2.2.1 s.2.2.2.2.2) aN).trans (by kernel_rfl)))
def GI(a:cR):aq:=⟨214,[ia,(.fn 218 [] []),aS],bF,[(true,0,cB)],λs=>oD a s.2.2.2.2.2.2 s.1 s.2.1 s.2.2.1 s.2.2.2.1 s.2.2.2.2.1 s.2.2.2.2.2.1⟩
def B0(o:Ex->Ex)(q:Sh->(R:Type)->Option R->Option R)(p:Q2->Option Q3)(ops:Q1)(l:Q6)(a:aD)(g:x9->Option Q3):Int×Int×Int×Int×Int×Int×Int×(List Ex)->Option Q3:=λ⟨f,e,b,d,k,j,i,h⟩=> bif b==0 then (bp ops l f a e b d).bind λm=> bif !m.2 then some ((Ex.mk k j i h),f,e,b,d) else (aQ l f a e b d).bind λn=> (fk p l (i64.wrap (f+1)) a e b d).bind λc=> g (c.2.1,c.2.2.1,c.2.2.2.1,c.2.2.2.2,m.1,0,n.2.2.2,([(Ex.mk k j i h),(o c.1)]:List Ex)) else some ((Ex.mk k j i h),f,e,b,d)
def lR(e:Ex->Ex)(h:Sh->(R:Type)->Option R->Option R)(g:Q2->Option Q3)(ops:Q1)(l:Q6)(at_:Int)(b:aD)(d:Int)(f:Int)(c:Int):Option Q3:= (fk g l at_ b d f c).bind λa=> az (B0 e h g ops l b) aC (a.2.1,a.2.2.1,a.2.2.2.1,a.2.2.2.2,a.1.op,a.1.n,a.1.at_,a.1.l)
theorem Ck(a:cR)(c:iO a):Ko (GI a):=
 aX (.l ⟨[(true,0,cB),(true,6,Ip),(true,7,Kl)],[]⟩ .o) call214 func214 (aj (wC a c) (aj ck (aj bN al))) al al λs=>(show _=lR bk aM a s.2.2.2.2.2.2 s.1 s.2.1 s.2.2.1 s.2.2.2.1 s.2.2.2.2.1 s.2.2.2.2.2.1 from by kernel_rfl).trans ((congrArg (λb=>lR b aM a s.2.2.2.2.2.2 s.1 s.2.1 s.2.2.1 s.2.2.2.1 s.2.2.2.2.1 s.2.2.2.2.2.1) aJ).trans ((congrArg (λd=>lR id d a s.2.2.2.2.2.2 s.1 s.2.1 s.2.2.1 s.2.2.2.1 s.2.2.2.2.1 s.2.2.2.2.2.1) aN).trans (by kernel_rfl)))
def K0(a:cR):aq:=⟨215,[ia],bF,[(true,0,cB)],λs=>jk a s.1 s.2.1 s.2.2.1 s.2.2.2.1 s.2.2.2.2.1 s.2.2.2.2.2⟩
def og(e:Ex->Ex)(h:Sh->(R:Type)->Option R->Option R)(g:Q2->Option Q3)(l:Q6)(at_:Int)(c:aD)(d:Int)(f:Int)(b:Int):Option Q3:= (oD g ([16]:xi) l at_ c d f b).bind λa=> some ((e a.1),a.2.1,a.2.2.1,a.2.2.2.1,a.2.2.2.2)
theorem Fl(a:cR)(c:iO a):Ko (K0 a):=
 aX .o call215 func215 (aj (Ck a c) al) al al λs=>(show _=og bk aM a s.1 s.2.1 s.2.2.1 s.2.2.2.1 s.2.2.2.2.1 s.2.2.2.2.2 from by kernel_rfl).trans ((congrArg (λb=>og b aM a s.1 s.2.1 s.2.2.1 s.2.2.2.1 s.2.2.2.2.1 s.2.2.2.2.2) aJ).trans ((congrArg (λd=>og id d a s.1 s.2.1 s.2.2.1 s.2.2.2.1 s.2.2.2.2.1 s.2.2.2.2.2) aN).trans (by kernel_rfl)))
def Jj(a:cR):aq:=⟨214,[ia,(.fn 215 [] []),aS],bF,[(true,0,cB)],λs=>pD a s.2.2.2.2.2.2 s.1 s.2.1 s.2.2.1 s.2.2.2.1 s.2.2.2.2.1 s.2.2.2.2.2.1⟩
def D7(o:Ex->Ex)(q:Sh->(R:Type)->Option R->Option R)(p:Q2->Option Q3)(ops:Q1)(l:Q6)(a:aD)(g:x9->Option Q3):Int×Int×Int×Int×Int×Int×Int×(List Ex)->Option Q3:=λ⟨f,e,b,d,k,j,i,h⟩=> bif b==0 then (bp ops l f a e b d).bind λm=> bif !m.2 then some ((Ex.mk k j i h),f,e,b,d) else (aQ l f a e b d).bind λn=> (jk p l (i64.wrap (f+1)) a e b d).bind λc=> g (c.2.1,c.2.2.1,c.2.2.2.1,c.2.2.2.2,m.1,0,n.2.2.2,([(Ex.mk k j i h),(o c.1)]:List Ex)) else some ((Ex.mk k j i h),f,e,b,d)
def nh(e:Ex->Ex)(h:Sh->(R:Type)->Option R->Option R)(g:Q2->Option Q3)(ops:Q1)(l:Q6)(at_:Int)(b:aD)(d:Int)(f:Int)(c:Int):Option Q3:= (jk g l at_ b d f c).bind λa=> az (D7 e h g ops l b) aC (a.2.1,a.2.2.1,a.2.2.2.1,a.2.2.2.2,a.1.op,a.1.n,a.1.at_,a.1.l)
theorem D9(a:cR)(c:iO a):Ko (Jj a):=
 aX (.l ⟨[(true,0,cB),(true,6,Ip),(true,7,Kl)],[]⟩ .o) call214 func214 (aj (Fl a c) (aj ck (aj bN al))) al al λs=>(show _=nh bk aM a s.2.2.2.2.2.2 s.1 s.2.1 s.2.2.1 s.2.2.2.1 s.2.2.2.2.1 s.2.2.2.2.2.1 from by kernel_rfl).trans ((congrArg (λb=>nh b aM a s.2.2.2.2.2.2 s.1 s.2.1 s.2.2.1 s.2.2.2.1 s.2.2.2.2.1 s.2.2.2.2.2.1) aJ).trans ((congrArg (λd=>nh id d a s.2.2.2.2.2.2 s.1 s.2.1 s.2.2.1 s.2.2.2.1 s.2.2.2.2.1 s.2.2.2.2.2.1) aN).trans (by kernel_rfl)))
def Nf(a:cR):aq:=⟨206,[ia],bF,[(true,0,cB)],λs=>s7 a s.1 s.2.1 s.2.2.1 s.2.2.2.1 s.2.2.2.2.1 s.2.2.2.2.2⟩
def pC(e:Ex->Ex)(h:Sh->(R:Type)->Option R->Option R)(g:Q2->Option Q3)(l:Q6)(at_:Int)(c:aD)(d:Int)(f:Int)(b:Int):Option Q3:= (pD g ([17]:xi) l at_ c d f b).bind λa=> some ((e a.1),a.2.1,a.2.2.1,a.2.2.2.1,a.2.2.2.2)
theorem Hm(a:cR)(c:iO a):Ko (Nf a):=
 aX .o call206 func206 (aj (D9 a c) al) al al λs=>(show _=pC bk aM a s.1 s.2.1 s.2.2.1 s.2.2.2.1 s.2.2.2.2.1 s.2.2.2.2.2 from by kernel_rfl).trans ((congrArg (λb=>pC b aM a s.1 s.2.1 s.2.2.1 s.2.2.2.1 s.2.2.2.2.1 s.2.2.2.2.2) aJ).trans ((congrArg (λd=>pC id d a s.1 s.2.1 s.2.2.1 s.2.2.2.1 s.2.2.2.2.1 s.2.2.2.2.2) aN).trans (by kernel_rfl)))
def Hr(a:cR)(b:Rj):aq:=⟨137,[ia,(.fn 206 [] []),MH,aS],bF,[(true,0,cB)],λs=>oH a b s.2.2.2.2.2.2 s.1 s.2.1 s.2.2.1 s.2.2.2.1 s.2.2.2.2.1 s.2.2.2.2.2.1⟩
def mn(e:Ex->Ex)(p:Sh->(R:Type)->Option R->Option R)(o:Q2->Option Q3)(n:Q2->Option Q3)(ops:Q1)(l:Q6)(at_:Int)(b:aD)(g:Int)(i:Int)(d:Int):Option Q3:= (s7 o l at_ b g i d).bind λa=> (bp ops l a.2.1 b a.2.2.1 a.2.2.2.1 a.2.2.2.2).bind λf=> ai (a.2.2.2.1 != 0) λm=> ai (!f.2) λk=> ai (m||k) λj=> bif j then ( some ((e a.1),a.2.1,a.2.2.1,a.2.2.2.1,a.2.2.2.2)) else ( (aQ l a.2.1 b a.2.2.1 a.2.2.2.1 a.2.2.2.2).bind λh=> (n (l,(i64.wrap (a.2.1+1)),b,a.2.2.1,a.2.2.2.1,a.2.2.2.2)).bind λc=> some ((Ex.mk f.1 0 h.2.2.2 ([(e a.1),(e c.1)]:List Ex)),c.2.1,c.2.2.1,c.2.2.2.1,c.2.2.2.2))
theorem Ce(a:cR)(d:iO a)(b:Rj)(e:OK3 b):Ko (Hr a b):=
 aX .o call137 func137 (aj (Hm a d) (aj ck (aj bN (aj e al)))) al al λs=>(show _=mn bk aM a b s.2.2.2.2.2.2 s.1 s.2.1 s.2.2.1 s.2.2.2.1 s.2.2.2.2.1 s.2.2.2.2.2.1 from by kernel_rfl).trans ((congrArg (λc=>mn c aM a b s.2.2.2.2.2.2 s.1 s.2.1 s.2.2.1 s.2.2.2.1 s.2.2.2.2.1 s.2.2.2.2.2.1) aJ).trans ((congrArg (λf=>mn id f a b s.2.2.2.2.2.2 s.1 s.2.1 s.2.2.1 s.2.2.2.1 s.2.2.2.2.1 s.2.2.2.2.2.1) aN).trans (by kernel_rfl)))
def KC(a:cR)(b:Rj):aq:=⟨184,[ia],bF,[(true,0,cB)],λs=>rR a b s.1 s.2.1 s.2.2.1 s.2.2.2.1 s.2.2.2.2.1 s.2.2.2.2.2⟩
def nN(e:Ex->Ex)(i:Sh->(R:Type)->Option R->Option R)(h:Q2->Option Q3)(g:Q2->Option Q3)(l:Q6)(at_:Int)(c:aD)(d:Int)(f:Int)(b:Int):Option Q3:= (oH h g ([18]:xi) l at_ c d f b).bind λa=> some ((e a.1),a.2.1,a.2.2.1,a.2.2.2.1,a.2.2.2.2)
theorem FE(a:cR)(d:iO a)(b:Rj)(e:OK3 b):Ko (KC a b):=
 aX .o call184 func184 (aj (Ce a d b e) al) al al λs=>(show _=nN bk aM a b s.1 s.2.1 s.2.2.1 s.2.2.2.1 s.2.2.2.2.1 s.2.2.2.2.2 from by kernel_rfl).trans ((congrArg (λc=>nN c aM a b s.1 s.2.1 s.2.2.1 s.2.2.2.1 s.2.2.2.2.1 s.2.2.2.2.2) aJ).trans ((congrArg (λf=>nN id f a b s.1 s.2.1 s.2.2.1 s.2.2.2.1 s.2.2.2.2.1 s.2.2.2.2.2) aN).trans (by kernel_rfl)))
def sE(a:cR):aq:=⟨91,[ia,MH],bF,[(true,0,cB)],λs=>mT a s.1 s.2.1 s.2.2.1 s.2.2.2.1 s.2.2.2.2.1 s.2.2.2.2.2⟩
def jF(f:Ex->Ex)(j:Sh->(R:Type)->Option R->Option R)(i:Q2->Option Q3)(h:Q2->Option Q3)(l:Q6)(at_:Int)(d:aD)(a:Int)(g:Int)(c:Int):Option Q3:= bif decide (320<=a) then (bG 9 l at_ d a g c).bind λe=> some ((f e.1),at_,a,e.2.1,e.2.2) else (rR i h l at_ d (i64.wrap (a+1)) g c).bind λb=> some ((f b.1),b.2.1,(i64.wrap (b.2.2.1-1)),b.2.2.2.1,b.2.2.2.2)
def sJ(a:cR):Rj->Rj:=λb s=>sR a b s.1 s.2.1 s.2.2.1 s.2.2.2.1 s.2.2.2.2.1 s.2.2.2.2.2
theorem xK(a:cR)(d:iO a)(b:Rj)(e:OK3 b):(gZ (sJ a b)).Ok X0.P X0.Γ:=
 aX .o call91 func91 (aj dS (aj (FE a d b e) al)) al al λs=>(show _=jF bk aM a b s.1 s.2.1 s.2.2.1 s.2.2.2.1 s.2.2.2.2.1 s.2.2.2.2.2 from by kernel_rfl).trans ((congrArg (λc=>jF c aM a b s.1 s.2.1 s.2.2.1 s.2.2.2.1 s.2.2.2.2.1 s.2.2.2.2.2) aJ).trans ((congrArg (λf=>jF id f a b s.1 s.2.1 s.2.2.1 s.2.2.2.1 s.2.2.2.2.1 s.2.2.2.2.2) aN).trans (by kernel_rfl)))
theorem Bk(a:cR)(b:iO a):Ko (sE a):=(show sE a=gZ (az (sJ a) aC) by kernel_rfl)▸dT (X:=X0) (E:=gZ) ⟨call91,λ_ _ h=>nomatch h⟩ (xK a b) aC
def EW(a:cR):aq:=⟨138,[ia],bF,[(true,0,cB)],λs=>lZ a s.1 s.2.1 s.2.2.1 s.2.2.2.1 s.2.2.2.2.1 s.2.2.2.2.2⟩
def kF(e:Ex->Ex)(h:Sh->(R:Type)->Option R->Option R)(g:Q2->Option Q3)(l:Q6)(at_:Int)(c:aD)(d:Int)(f:Int)(b:Int):Option Q3:= (mT g l at_ c d f b).bind λa=> some ((e a.1),a.2.1,a.2.2.1,a.2.2.2.1,a.2.2.2.2)
theorem yM(a:cR)(c:iO a):Ko (EW a):=
 aX .o call138 func138 (aj (Bk a c) al) al al λs=>(show _=kF bk aM a s.1 s.2.1 s.2.2.1 s.2.2.2.1 s.2.2.2.2.1 s.2.2.2.2.2 from by kernel_rfl).trans ((congrArg (λb=>kF b aM a s.1 s.2.1 s.2.2.1 s.2.2.2.1 s.2.2.2.2.1 s.2.2.2.2.2) aJ).trans ((congrArg (λd=>kF id d a s.1 s.2.1 s.2.2.1 s.2.2.2.1 s.2.2.2.2.1 s.2.2.2.2.2) aN).trans (by kernel_rfl)))
def GV(a:cR):aq:=⟨137,[ia,(.fn 138 [] []),(.fn 92 [] []),aS],bF,[(true,0,cB)],λs=>oy a s.2.2.2.2.2.2 s.1 s.2.1 s.2.2.1 s.2.2.2.1 s.2.2.2.2.1 s.2.2.2.2.2.1⟩
def mA(e:Ex->Ex)(o:Sh->(R:Type)->Option R->Option R)(n:Q2->Option Q3)(ops:Q1)(l:Q6)(at_:Int)(b:aD)(g:Int)(i:Int)(d:Int):Option Q3:= (lZ n l at_ b g i d).bind λa=> (bp ops l a.2.1 b a.2.2.1 a.2.2.2.1 a.2.2.2.2).bind λf=> ai (a.2.2.2.1 != 0) λm=> ai (!f.2) λk=> ai (m||k) λj=> bif j then ( some ((e a.1),a.2.1,a.2.2.1,a.2.2.2.1,a.2.2.2.2)) else ( (aQ l a.2.1 b a.2.2.1 a.2.2.2.1 a.2.2.2.2).bind λh=> (n (l,(i64.wrap (a.2.1+1)),b,a.2.2.1,a.2.2.2.1,a.2.2.2.2)).bind λc=> some ((Ex.mk f.1 0 h.2.2.2 ([(e a.1),(e c.1)]:List Ex)),c.2.1,c.2.2.1,c.2.2.2.1,c.2.2.2.2))
theorem Ch(a:cR)(c:iO a):Ko (GV a):=
 aX .o call137 func137 (aj (yM a c) (aj ck (aj bN (aj c al)))) al al λs=>(show _=mA bk aM a s.2.2.2.2.2.2 s.1 s.2.1 s.2.2.1 s.2.2.2.1 s.2.2.2.2.1 s.2.2.2.2.2.1 from by kernel_rfl).trans ((congrArg (λb=>mA b aM a s.2.2.2.2.2.2 s.1 s.2.1 s.2.2.1 s.2.2.2.1 s.2.2.2.2.1 s.2.2.2.2.2.1) aJ).trans ((congrArg (λd=>mA id d a s.2.2.2.2.2.2 s.1 s.2.1 s.2.2.1 s.2.2.2.1 s.2.2.2.2.1 s.2.2.2.2.2.1) aN).trans (by kernel_rfl)))
def KG(a:cR):aq:=⟨92,[ia],bF,[(true,0,cB)],λs=>sq a s.1 s.2.1 s.2.2.1 s.2.2.2.1 s.2.2.2.2.1 s.2.2.2.2.2⟩
def ob(e:Ex->Ex)(h:Sh->(R:Type)->Option R->Option R)(g:Q2->Option Q3)(l:Q6)(at_:Int)(c:aD)(d:Int)(f:Int)(b:Int):Option Q3:= (oy g ([19]:xi) l at_ c d f b).bind λa=> some ((e a.1),a.2.1,a.2.2.1,a.2.2.2.1,a.2.2.2.2)
theorem FD(a:cR)(c:iO a):Ko (KG a):=
 aX .o call92 func92 (aj (Ch a c) al) al al λs=>(show _=ob bk aM a s.1 s.2.1 s.2.2.1 s.2.2.2.1 s.2.2.2.2.1 s.2.2.2.2.2 from by kernel_rfl).trans ((congrArg (λb=>ob b aM a s.1 s.2.1 s.2.2.1 s.2.2.2.1 s.2.2.2.2.1 s.2.2.2.2.2) aJ).trans ((congrArg (λd=>ob id d a s.1 s.2.1 s.2.2.1 s.2.2.2.1 s.2.2.2.2.1 s.2.2.2.2.2) aN).trans (by kernel_rfl)))
def sT:aq:=⟨91,[ia,(.fn 92 [] [])],bF,[(true,0,cB)],U6 mY⟩
def jM(f:Ex->Ex)(i:Sh->(R:Type)->Option R->Option R)(h:Q2->Option Q3)(l:Q6)(at_:Int)(d:aD)(a:Int)(g:Int)(c:Int):Option Q3:= bif decide (320<=a) then (bG 9 l at_ d a g c).bind λe=> some ((f e.1),at_,a,e.2.1,e.2.2) else (sq h l at_ d (i64.wrap (a+1)) g c).bind λb=> some ((f b.1),b.2.1,(i64.wrap (b.2.2.1-1)),b.2.2.2.1,b.2.2.2.2)
def sI:cR->cR:=λa s=>sY a s.1 s.2.1 s.2.2.1 s.2.2.2.1 s.2.2.2.2.1 s.2.2.2.2.2
theorem xS(a:cR)(c:iO a):(gR (sI a)).Ok X0.P X0.Γ:=
 aX .o call91 func91 (aj dS (aj (FD a c) al)) al al λs=>(show _=jM bk aM a s.1 s.2.1 s.2.2.1 s.2.2.2.1 s.2.2.2.2.1 s.2.2.2.2.2 from by kernel_rfl).trans ((congrArg (λb=>jM b aM a s.1 s.2.1 s.2.2.1 s.2.2.2.1 s.2.2.2.2.1 s.2.2.2.2.2) aJ).trans ((congrArg (λd=>jM id d a s.1 s.2.1 s.2.2.1 s.2.2.2.1 s.2.2.2.2.1 s.2.2.2.2.2) aN).trans (by kernel_rfl)))
theorem Bd:Ko sT:=(show sT=gR (az (sI) aC) by kernel_rfl)▸dT (X:=X0) (E:=gR) ⟨call91,λ_ _ h=>nomatch h⟩ (xS) aC
def Rx:aq:=⟨58,[G4,an,AP],(.cD [bF,an,an,an]),[],U3 xU⟩
def tA(c:Ex->Ex)(d:Sh->(R:Type)->Option R->Option R)(l:Q6)(at_:Int)(b:aD):Option On:= (mY l at_ b 0 0 0).bind λa=> bif a.2.2.2.1 != 0 then some ((Ex.mk 0 0 0 []),0,a.2.2.2.1,a.2.2.2.2) else some ((c a.1),a.2.1,0,0)
theorem JN:Ko Rx:=
 aX (.c (.r [6] .o) (.r [6] .o)) call58 func58 (aj Bd al) al al λs=>(show _=tA bk aM s.1 s.2.1 s.2.2 from by kernel_rfl).trans ((congrArg (λa=>tA a aM s.1 s.2.1 s.2.2) aJ).trans ((congrArg (λb=>tA id b s.1 s.2.1 s.2.2) aN).trans (by kernel_rfl)))
def Oy:aq:=⟨59,[fE],(.cD [an,an,an]),[],λs=>j4 s⟩
def VU(k:Ex->Ex)(D:Sh->(R:Type)->Option R->Option R)(C:Ex->Option nE)(e:Ex)(g:Q62->Option nE):Bool×Bool×Bool×Int->Option nE:=λ⟨b,d,a,h⟩=> bif decide (h<(List.length e.l:Int)) then (idx e.l h).bind λm=> (C (k m)).bind λf=> bif f.2.1 != 0 then some (0,f.2.1,f.2.2) else ai (f.1==1) λB=> ai (b&&B) λA=> ai (f.1==2) λz=> ai (d&&z) λy=> ai (f.1 != 1) λx=> ai (a&&x) λw=> g (A,y,w,(i64.wrap (h+1))) else ai (decide (e.op<=6)) λv=> ai (v&&b) λu=> bif u then ( some (1,0,0)) else ( ai (λ(j:Bool)=>LU e a j) λc=> ai (decide (6<e.op)) λt=> ai (decide (e.op<=12)) λs=> ai (t&&s) λr=> ai (r&&b) λi=> bif i then ( c i) else ( bif e.op==13 then c (e.op==13) else bif e.op==14 then c (e.op==14) else ai (decide (15<=e.op)) λq=> ai (decide (e.op<=19)) λp=> ai (q&&p) λo=> ai (o&&d) λn=> c n))
def xO(a:Ex->Ex)(c:Sh->(R:Type)->Option R->Option R)(b:Ex->Option nE)(e:Ex):Option nE:= az (VU a c b e) aC (true,true,true,0)
def OV:TK5->TK5:=λa s=>Ow a s
theorem QV(a:TK5)(d:OK5 a):(uk (OV a)).Ok X0.P X0.Γ:=
 aX (.l ⟨[(false,5,.bool),(false,6,.bool),(false,7,.bool),(false,16,an)],[]⟩ (.c .o (.c .o (.j ⟨[(false,53,.bool)],[]⟩ .o .o)))) call59 func59 (aj d al) al al λs=>(show _=xO bk aM a s from by kernel_rfl).trans ((congrArg (λb=>xO b aM a s) aJ).trans ((congrArg (λe=>xO id e a s) aN).trans (by kernel_rfl)))
theorem oU:Ko Oy:=(show Oy=uk (az (OV) aC) by kernel_rfl)▸dT (X:=X0) (E:=uk) ⟨call59,λ_ _ h=>nomatch h⟩ (QV) aC
def WR:aq:=⟨59,[(.dat .ex [some 158])],(.cD [an,an,an]),[],λs=>Bi s⟩
def Np(k:Ex->Ex)(C:Sh->(R:Type)->Option R->Option R)(e:Ex)(g:Q62->Option nE):Bool×Bool×Bool×Int->Option nE:=λ⟨b,d,a,h⟩=> bif decide (h<(List.length e.l:Int)) then (idx e.l h).bind λm=> (j4 (k m)).bind λf=> bif f.2.1 != 0 then some (0,f.2.1,f.2.2) else ai (f.1==1) λB=> ai (b&&B) λA=> ai (f.1==2) λz=> ai (d&&z) λy=> ai (f.1 != 1) λx=> ai (a&&x) λw=> g (A,y,w,(i64.wrap (h+1))) else ai (decide (e.op<=6)) λv=> ai (v&&b) λu=> bif u then ( some (1,0,0)) else ( ai (λ(j:Bool)=>CI e a j) λc=> ai (decide (6<e.op)) λt=> ai (decide (e.op<=12)) λs=> ai (t&&s) λr=> ai (r&&b) λi=> bif i then ( c i) else ( bif e.op==13 then c (e.op==13) else bif e.op==14 then c (e.op==14) else ai (decide (15<=e.op)) λq=> ai (decide (e.op<=19)) λp=> ai (q&&p) λo=> ai (o&&d) λn=> c n))
def vJ(a:Ex->Ex)(b:Sh->(R:Type)->Option R->Option R)(e:Ex):Option nE:= az (Np a b e) aC (true,true,true,0)
theorem Nj:Ko WR:=
 aX (.l ⟨[(false,5,.bool),(false,6,.bool),(false,7,.bool),(false,16,an)],[]⟩ (.c .o (.c .o (.j ⟨[(false,53,.bool)],[]⟩ .o .o)))) call59 func59 (aj oU al) al al λs=>(show _=vJ bk aM s from by kernel_rfl).trans ((congrArg (λa=>vJ a aM s) aJ).trans ((congrArg (λb=>vJ id b s) aN).trans (by kernel_rfl)))
def BT:bH:=⟨180,[abe,an],DP,none,false,false,bF,[(true,0,PY)],λs=>fF s.2.2.2.2.2.2.2 s.1 s.2.1 s.2.2.1 s.2.2.2.1 s.2.2.2.2.1 s.2.2.2.2.2.1 s.2.2.2.2.2.2.1⟩
def xv(b:Ex->Ex)(c:Sh->(R:Type)->Option R->Option R)(a:On):Option (Except cu iQ):= some (.ok ((b a.1),a.2.1))
def xA(e:Ex->Ex)(h:Sh->(R:Type)->Option R->Option R)(a:Int)(g:Int)(b:On)(d:nE):Option (Except cu iQ):= ai (λ(f:Unit)=>xv e h b) λc=> bif d.1 != a then some (.error (4,b.1.at_)) else c ()
def xw(e:Ex->Ex)(g:Sh->(R:Type)->Option R->Option R)(b:Int)(at_:Int)(c:On):Option (Except cu iQ):= (Bi (e c.1)).bind λa=> ai (λ(f:Unit)=>xA e g b at_ c a) λd=> bif a.2.1 != 0 then some (.error a.2) else d ()
def jL(g:Ex->Ex)(k:Sh->(R:Type)->Option R->Option R)(c:Int)(l:Q6)(at_:Int)(b:aD)(e:Q8)(h:Q1)(f:aD)(j:Q9):Option (Except cu iQ):= (xU l at_ b).bind λa=> ai (λ(i:Unit)=>xw g k c at_ a) λd=> bif a.2.2.1 != 0 then some (.error a.2.2) else d ()
theorem mD:pw BT:=
 oz (.r [0,40000] (.j ⟨[],[]⟩ .o (.s (.j ⟨[],[]⟩ .o (.j ⟨[],[]⟩ .o .o))))) call180 func180 (aj JN (aj Nj al)) al al λs=>(show _=jL bk aM s.2.2.2.2.2.2.2 s.1 s.2.1 s.2.2.1 s.2.2.2.1 s.2.2.2.2.1 s.2.2.2.2.2.1 s.2.2.2.2.2.2.1 from by kernel_rfl).trans ((congrArg (λa=>jL a aM s.2.2.2.2.2.2.2 s.1 s.2.1 s.2.2.1 s.2.2.2.1 s.2.2.2.2.1 s.2.2.2.2.2.1 s.2.2.2.2.2.2.1) aJ).trans ((congrArg (λb=>jL id b s.2.2.2.2.2.2.2 s.1 s.2.1 s.2.2.1 s.2.2.2.1 s.2.2.2.2.1 s.2.2.2.2.2.1 s.2.2.2.2.2.2.1) aN).trans (by kernel_rfl)))
def xL:aq:=⟨205,[(.dat rz [none]),(.bx 3 0 false [an])],.bool,[],U2 jl⟩
theorem uT:Ko xL:=
 aw .o call205 func205 al
def nL:aq:=⟨213,[(.own rz 301 false),(.fn 205 [] [(.bx 3 0 false [an])])],an,[],U2 iu⟩
def ma(e:Ex->Ex)(g:Sh->(R:Type)->Option R->Option R)(s:C5)(c:Int)(a:Int->vy)(b:Int):vy:= bif decide (b<(s.length:Int)) then (idx s b).bind λf=> (jl (f.1,(e f.2)) c).bind λd=> bif d then ( some b) else ( a (i64.wrap (b+1))) else some (-1)
def ey(a:Ex->Ex)(b:Sh->(R:Type)->Option R->Option R)(s:C5)(c:Int):vy:= az (ma a b s c) aC 0
theorem my:Ko nL:=
 aX (.l ⟨[(false,8,an)],[]⟩ .o) call213 func213 (aj uT al) al al λs=>(show _=ey bk aM s.1 s.2 from by kernel_rfl).trans ((congrArg (λa=>ey a aM s.1 s.2) aJ).trans ((congrArg (λb=>ey id b s.1 s.2) aN).trans (by kernel_rfl)))
def l8:aq:=⟨204,[(.own rz 301 false),(.fn 205 [] [(.bx 3 0 false [an])])],.bool,[],U2 ei⟩
theorem kN:Ko l8:=
 aw .o call204 func204 (aj my al)
def xI:bH:=⟨181,[abe,(.own rz 301 false)],DP,none,false,false,(.dat rz [some 159]),[(true,0,PY)],λs=>js s.2.2.2.2.2.2.2 s.1 s.2.1 s.2.2.1 s.2.2.2.1 s.2.2.2.2.1 s.2.2.2.2.2.1 s.2.2.2.2.2.2.1⟩
def uU(i:Ex->Ex)(j:Sh->(R:Type)->Option R->Option R)(l:Q6)(at_:Int)(c:aD)(a:Q8)(d:Q1)(b:aD)(f:Q9)(h:Int):Option Q45:= cQ (er [61] l (i64.wrap (at_+1)) c a d b f) λg=> cQ (fF 1 l g c a d b f) λe=> some (.ok ((h,(i e.1)),e.2))
def uQ(m:Ex->Ex)(q:Sh->(R:Type)->Option R->Option R)(f:C5)(l:Q6)(at_:Int)(a:aD)(b:Q8)(d:Q1)(c:aD)(i:Q9)(p:Dm):Option Q45:= (cV a p.2.1).bind λe=> ai (λ(o:Unit)=>uU m q l at_ a b d c i e) λg=> ai (decide (e<0)) λh=> bu (!h) default (ei f e) λk=> ai (h||k) λn=> bif n then ( cQ (cF 3 l at_ a b d c i) λj=> j.elim) else ( g ())
def iE(i:Ex->Ex)(m:Sh->(R:Type)->Option R->Option R)(e:C5)(l:Q6)(at_:Int)(c:aD)(a:Q8)(d:Q1)(b:aD)(f:Q9):Option Q45:= (dF l at_ c a d b f).bind λj=> ai (λ(k:Unit)=>uQ i m e l at_ c a d b f j) λg=> bif j.1 != 1 then cQ (cF 2 l at_ c a d b f) λh=> h.elim else g ()
theorem uV:pw xI:=
 oz (.s (.s (.j ⟨[],[]⟩ .o (.r [0,40000] (.j ⟨[],[]⟩ .o (.r [0,4] .o)))))) call181 func181 (aj dM (aj fe (aj kN al))) (aj iZ (aj mD (aj eV al))) al λs=>(show _=iE bk aM s.2.2.2.2.2.2.2 s.1 s.2.1 s.2.2.1 s.2.2.2.1 s.2.2.2.2.1 s.2.2.2.2.2.1 s.2.2.2.2.2.2.1 from by kernel_rfl).trans ((congrArg (λa=>iE a aM s.2.2.2.2.2.2.2 s.1 s.2.1 s.2.2.1 s.2.2.2.1 s.2.2.2.2.1 s.2.2.2.2.2.1 s.2.2.2.2.2.2.1) aJ).trans ((congrArg (λb=>iE id b s.2.2.2.2.2.2.2 s.1 s.2.1 s.2.2.1 s.2.2.2.1 s.2.2.2.2.1 s.2.2.2.2.2.1 s.2.2.2.2.2.2.1) aN).trans (by kernel_rfl)))
def GF:bH:=⟨135,[(.bx 138 0 true [G4,an,AP,L8,H8,AP,Pw])],DP,none,false,false,ew,[(true,0,ama)],U7 xj⟩
def B5(e:Ex->Ex)(o:Sh->(R:Type)->Option R->Option R)(l:Q6)(d:aD)(c:Q8)(h:Q1)(b:aD)(i:Q9)(j:iQ)(g:(Int×C5)->Option Xe):Int×C5->Option Xe:=λ⟨n,f⟩=> cQ (js f l n d c h b i) λa=> aI (aH (List.length f+List.length ([(a.1.1,(e a.1.2))]:List RZ)) 56)<| (gq 3 [59] l a.2 d c h b i).bind λm=> bif m then ( aI (aH (List.length i+List.length ([((i64.wrap ((b.length:Int)-1)),(e j.1),(f++([(a.1.1,(e a.1.2))]:List RZ)))]:List Q63)) 80)<| some (.ok ((i64.wrap (a.2+1)),(i++([((i64.wrap ((b.length:Int)-1)),(e j.1),(f++([(a.1.1,(e a.1.2))]:List RZ)))]:List Q63))))) else ( cQ (er [44] l a.2 d c h b i) λk=> g (k,(f++([(a.1.1,(e a.1.2))]:List RZ))))
def BX(h:Ex->Ex)(i:Sh->(R:Type)->Option R->Option R)(l:Q6)(at_:Int)(c:aD)(a:Q8)(d:Q1)(b:aD)(e:Q9):Option Xe:= cQ (fF 2 l at_ c a d b e) λf=> cQ (er [58] l f.2 c a d b e) λg=> az (B5 h i l c a d b e f) aC (g,[])
def mf(h:Ex->Ex)(j:Sh->(R:Type)->Option R->Option R)(l:Q6)(at_:Int)(c:aD)(a:Q8)(d:Q1)(b:aD)(e:Q9):Option Xe:= ai (λ(i:Unit)=>BX h j l at_ c a d b e) λf=> bif decide (256<=(e.length:Int)) then cQ (cF 9 l at_ c a d b e) λg=> g.elim else f ()
theorem B4:pw GF:=
 oz (.j ⟨[],[]⟩ .o (.r [0,40000] (.l ⟨[(true,0,PY),(true,2,(.bx 299 0 true [.same,.same,.same,.same,.same,(.own rz 301 true)]))],[]⟩ (.r [0,2] (.c (.r [0,2] .o) .o))))) call135 func135 (aj hU al) (aj mD (aj iZ (aj uV (aj eV al)))) al λs=>(show _=mf bk aM s.1 s.2.1 s.2.2.1 s.2.2.2.1 s.2.2.2.2.1 s.2.2.2.2.2.1 s.2.2.2.2.2.2 from by kernel_rfl).trans ((congrArg (λa=>mf a aM s.1 s.2.1 s.2.2.1 s.2.2.2.1 s.2.2.2.2.1 s.2.2.2.2.2.1 s.2.2.2.2.2.2) aJ).trans ((congrArg (λb=>mf id b s.1 s.2.1 s.2.2.1 s.2.2.2.1 s.2.2.2.2.1 s.2.2.2.2.2.1 s.2.2.2.2.2.2) aN).trans (by kernel_rfl)))
def Ht:bH:=⟨87,[(.bx 138 0 true [G4,an,AP,L8,H8,A8,Pw])],DP,none,false,false,ew,[(true,0,(.bx 138 0 true [.same,an,.same,.same,.same,A8,Pw]))],U7 xh⟩
theorem Cq:pw Ht:=
 oz (.r [0] (.l ⟨[(true,0,ama)],[]⟩ .o)) call87 func87 (aj hU al) (aj ub (aj iZ (aj B4 al))) al λ_=>by kernel_rfl
def Qm:bH:=⟨57,[(.bx 138 0 true [G4,an,A8,HN,fp,A8,Pw])],DP,none,false,false,ew,[(true,0,alZ)],U7 F0⟩
theorem Jf:pw Qm:=
 oz (.l ⟨[(true,0,alZ),(true,2,(.bx 190 0 true [.same,.same]))],[]⟩ .o) call57 func57 (aj dM (aj hU al)) (aj AH (aj eV (aj Cq al))) al λ_=>by kernel_rfl
def YH:aq:=⟨41,[.str],(.cD [xF,an,an]),[],λs=>Oi s⟩
theorem alC:(⟨56,Tryz.f56⟩:jE).Ok X0.P:=⟨call56,func56⟩
theorem Pl:Ko YH:=
 aX .o call41 func41 (aj CR al) (aj Jf al) (aj alC al) λ_=>by kernel_rfl
def Pm:aq:=⟨42,[(.bx 81 0 true [.str,.str,an,an,an,nU,an,an,AP,L8,H8,AP,(.own sb 299 false),an,an,an,(.own .ex 79 false),an,an,an,fp,iq,iq]),an,an,aS],.bool,[(true,0,agn)],λs=>Fs (d8 (d8 s)).2.2.2.2.2.2.2.1 (d8 (d8 (d8 s))).1 (d8 (d8 (d8 s))).2 s.1 s.2.1 s.2.2.1 s.2.2.2.1 s.2.2.2.2.1 s.2.2.2.2.2.1 s.2.2.2.2.2.2.1 s.2.2.2.2.2.2.2.1 s.2.2.2.2.2.2.2.2.1 (d8 s).2.1 (d8 s).2.2.1 (d8 s).2.2.2.1 (d8 s).2.2.2.2.1 (d8 s).2.2.2.2.2.1 (d8 s).2.2.2.2.2.2.1 (d8 s).2.2.2.2.2.2.2.1 (d8 (d8 s)).1 (d8 (d8 s)).2.1 (d8 (d8 s)).2.2.1 (d8 (d8 s)).2.2.2.1 (d8 (d8 s)).2.2.2.2.1 (d8 (d8 s)).2.2.2.2.2.1 (d8 (d8 s)).2.2.2.2.2.2.1⟩
theorem Jo:Ko Pm:=
 aw .o call42 func42 al
def Px:aq:=⟨136,[eP,an],bF,[(true,0,(.bx 196 0 true [.same,.same,.same,.same,an,an]))],λs=>cd s.2.2.2.2.2.2 s.1 s.2.1 s.2.2.1 s.2.2.2.1 s.2.2.2.2.1 s.2.2.2.2.2.1⟩
theorem fi:Ko Px:=
 aw (.c (.r [0] .o) .o) call136 func136 al
def Qy:aq:=⟨183,[aml],(.dat mX []),[],U6 aZ⟩
theorem cg:Ko Qy:=
 aw (.r [2] .o) call183 func183 al
def Vc:aq:=⟨182,[aml,aS],A5,[],λs=>bM s.2.2.2.2.2.2 s.1 s.2.1 s.2.2.1 s.2.2.2.1 s.2.2.2.2.1 s.2.2.2.2.2.1⟩
theorem cU:Ko Vc:=
 aw (.c .o (.l ⟨[(false,27,an)],[]⟩ .o)) call182 func182 (aj cg (aj mI al))
def Ug(a:bP):aq:=⟨228,[eP],bF,[(true,0,cB)],λs=>xy a s.1 s.2.1 s.2.2.1 s.2.2.2.1 s.2.2.2.2.1 s.2.2.2.2.2⟩
def tD(h:Ex->Ex)(C:Sh->(R:Type)->Option R->Option R)(B:Q2->Option Q3)(l:Q6)(at_:Int)(c:aD)(d:Int)(f:Int)(b:Int):Option Q3:= bif f != 0 then some ((Ex.mk 0 0 0 []),at_,d,f,b) else (aZ l at_ c d f b).bind λe=> (bM ([13,14]:xi) l at_ c d f b).bind λn=> bif n.2 then ( some ((Ex.mk n.1 0 e.2.2.2 []),(i64.wrap (at_+1)),d,f,b)) else ( bif e.1==2 then some ((Ex.mk 1 e.2.2.1 e.2.2.2 []),(i64.wrap (at_+1)),d,f,b) else ai (e.1==1) λp=> bu p default (ot e.2.1) λs=> ai (!s) λA=> ai (p&&A) λz=> bif z then ( (cS c e.2.1).bind λm=> bif decide (m<0) then (cd 3 l at_ c d f b).bind λj=> some ((h j.1),at_,d,j.2.1,j.2.2) else some ((Ex.mk 2 m e.2.2.2 []),(i64.wrap (at_+1)),d,f,b)) else ( ai (e.1==3) λy=> ai (e.2.1==[40]) λx=> ai (y&&x) λw=> bif w then ( (B (l,(i64.wrap (at_+1)),c,d,f,b)).bind λa=> ai (a.2.2.2.1==0) λk=> bu k default (aZ l a.2.1 c a.2.2.1 a.2.2.2.1 a.2.2.2.2) λr=> ai (r.1 != 3) λo=> bu (k&& !o) default (aZ l a.2.1 c a.2.2.1 a.2.2.2.1 a.2.2.2.2) λq=> ai (q.2.1 != [41]) λv=> ai (o||v) λu=> ai (k&&u) λt=> bif t then ( (cd 2 l a.2.1 c a.2.2.1 a.2.2.2.1 a.2.2.2.2).bind λi=> some ((h i.1),a.2.1,a.2.2.1,i.2.1,i.2.2)) else ( bif a.2.2.2.1==0 then some ((h a.1),(i64.wrap (a.2.1+1)),a.2.2.1,a.2.2.2.1,a.2.2.2.2) else some ((h a.1),a.2.1,a.2.2.1,a.2.2.2.1,a.2.2.2.2))) else ( (cd 2 l at_ c d f b).bind λg=> some ((h g.1),at_,d,g.2.1,g.2.2))))
theorem Lv(a:bP)(b:fc a):Ko (Ug a):=
 aX .o call228 func228 (aj cg (aj cU (aj mI (aj fO (aj fi (aj b al)))))) al al λs=>(show _=tD bk aM a s.1 s.2.1 s.2.2.1 s.2.2.2.1 s.2.2.2.2.1 s.2.2.2.2.2 from by kernel_rfl).trans ((congrArg (λc=>tD c aM a s.1 s.2.1 s.2.2.1 s.2.2.2.1 s.2.2.2.2.1 s.2.2.2.2.2) aJ).trans ((congrArg (λd=>tD id d a s.1 s.2.1 s.2.2.1 s.2.2.2.1 s.2.2.2.2.1 s.2.2.2.2.2) aN).trans (by kernel_rfl)))
def Gc(a:bP)(b:Rc):aq:=⟨222,[eP,MA,(.fn 228 [] []),aS],bF,[(true,0,cB)],λs=>nq a b s.2.2.2.2.2.2 s.1 s.2.1 s.2.2.1 s.2.2.2.1 s.2.2.2.2.1 s.2.2.2.2.2.1⟩
def kY(h:Ex->Ex)(m:Sh->(R:Type)->Option R->Option R)(k:Q2->Option Q3)(j:Q2->Option Q3)(ops:Q1)(l:Q6)(at_:Int)(b:aD)(c:Int)(f:Int)(a:Int):Option Q3:= (bM ops l at_ b c f a).bind λg=> bif !g.2 then (xy k l at_ b c f a).bind λe=> some ((h e.1),e.2.1,e.2.2.1,e.2.2.2.1,e.2.2.2.2) else (aZ l at_ b c f a).bind λi=> (j (l,(i64.wrap (at_+1)),b,c,f,a)).bind λd=> some ((Ex.mk g.1 0 i.2.2.2 ([(h d.1)]:List Ex)),d.2.1,d.2.2.1,d.2.2.2.1,d.2.2.2.2)
theorem Ag(a:bP)(d:fc a)(b:Rc)(f:OK6 b):Ko (Gc a b):=
 aX (.c .o (.r [0,8] .o)) call222 func222 (aj cU (aj (Lv a d) (aj cg (aj f al)))) al al λs=>(show _=kY bk aM a b s.2.2.2.2.2.2 s.1 s.2.1 s.2.2.1 s.2.2.2.1 s.2.2.2.2.1 s.2.2.2.2.2.1 from by kernel_rfl).trans ((congrArg (λe=>kY e aM a b s.2.2.2.2.2.2 s.1 s.2.1 s.2.2.1 s.2.2.2.1 s.2.2.2.2.1 s.2.2.2.2.2.1) aJ).trans ((congrArg (λg=>kY id g a b s.2.2.2.2.2.2 s.1 s.2.1 s.2.2.1 s.2.2.2.1 s.2.2.2.2.1 s.2.2.2.2.2.1) aN).trans (by kernel_rfl)))
def SR(a:bP)(b:Rc):aq:=⟨227,[eP],bF,[(true,0,cB)],λs=>xr a b s.1 s.2.1 s.2.2.1 s.2.2.2.1 s.2.2.2.2.1 s.2.2.2.2.2⟩
def um(e:Ex->Ex)(i:Sh->(R:Type)->Option R->Option R)(h:Q2->Option Q3)(g:Q2->Option Q3)(l:Q6)(at_:Int)(c:aD)(d:Int)(f:Int)(b:Int):Option Q3:= (nq h g ([6]:xi) l at_ c d f b).bind λa=> some ((e a.1),a.2.1,a.2.2.1,a.2.2.2.1,a.2.2.2.2)
theorem JI(a:bP)(c:fc a)(b:Rc)(e:OK6 b):Ko (SR a b):=
 aX .o call227 func227 (aj (Ag a c b e) al) al al λs=>(show _=um bk aM a b s.1 s.2.1 s.2.2.1 s.2.2.2.1 s.2.2.2.2.1 s.2.2.2.2.2 from by kernel_rfl).trans ((congrArg (λd=>um d aM a b s.1 s.2.1 s.2.2.1 s.2.2.2.1 s.2.2.2.2.1 s.2.2.2.2.2) aJ).trans ((congrArg (λf=>um id f a b s.1 s.2.1 s.2.2.1 s.2.2.2.1 s.2.2.2.2.1 s.2.2.2.2.2) aN).trans (by kernel_rfl)))
def tu(a:bP):aq:=⟨91,[eP,MA],bF,[(true,0,cB)],λs=>oE a s.1 s.2.1 s.2.2.1 s.2.2.2.1 s.2.2.2.2.1 s.2.2.2.2.2⟩
def kB(f:Ex->Ex)(j:Sh->(R:Type)->Option R->Option R)(i:Q2->Option Q3)(h:Q2->Option Q3)(l:Q6)(at_:Int)(d:aD)(a:Int)(g:Int)(c:Int):Option Q3:= bif decide (320<=a) then (cd 9 l at_ d a g c).bind λe=> some ((f e.1),at_,a,e.2.1,e.2.2) else (xr i h l at_ d (i64.wrap (a+1)) g c).bind λb=> some ((f b.1),b.2.1,(i64.wrap (b.2.2.1-1)),b.2.2.2.1,b.2.2.2.2)
def uy(a:bP):Rc->Rc:=λb s=>uH a b s.1 s.2.1 s.2.2.1 s.2.2.2.1 s.2.2.2.2.1 s.2.2.2.2.2
theorem yF(a:bP)(c:fc a)(b:Rc)(e:OK6 b):(iw (uy a b)).Ok X0.P X0.Γ:=
 aX .o call91 func91 (aj fi (aj (JI a c b e) al)) al al λs=>(show _=kB bk aM a b s.1 s.2.1 s.2.2.1 s.2.2.2.1 s.2.2.2.2.1 s.2.2.2.2.2 from by kernel_rfl).trans ((congrArg (λd=>kB d aM a b s.1 s.2.1 s.2.2.1 s.2.2.2.1 s.2.2.2.2.1 s.2.2.2.2.2) aJ).trans ((congrArg (λf=>kB id f a b s.1 s.2.1 s.2.2.1 s.2.2.2.1 s.2.2.2.2.1 s.2.2.2.2.2) aN).trans (by kernel_rfl)))
theorem BU(a:bP)(b:fc a):Ko (tu a):=(show tu a=iw (az (uy a) aC) by kernel_rfl)▸dT (X:=X0) (E:=iw) ⟨call91,λ_ _ h=>nomatch h⟩ (yF a b) aC
def IU(a:bP):aq:=⟨226,[eP],bF,[(true,0,cB)],λs=>iJ a s.1 s.2.1 s.2.2.1 s.2.2.2.1 s.2.2.2.2.1 s.2.2.2.2.2⟩
def mV(e:Ex->Ex)(h:Sh->(R:Type)->Option R->Option R)(g:Q2->Option Q3)(l:Q6)(at_:Int)(c:aD)(d:Int)(f:Int)(b:Int):Option Q3:= (oE g l at_ c d f b).bind λa=> some ((e a.1),a.2.1,a.2.2.1,a.2.2.2.1,a.2.2.2.2)
theorem EJ(a:bP)(b:fc a):Ko (IU a):=
 aX .o call226 func226 (aj (BU a b) al) al al λs=>(show _=mV bk aM a s.1 s.2.1 s.2.2.1 s.2.2.2.1 s.2.2.2.2.1 s.2.2.2.2.2 from by kernel_rfl).trans ((congrArg (λc=>mV c aM a s.1 s.2.1 s.2.2.1 s.2.2.2.1 s.2.2.2.2.1 s.2.2.2.2.2) aJ).trans ((congrArg (λd=>mV id d a s.1 s.2.1 s.2.2.1 s.2.2.2.1 s.2.2.2.2.1 s.2.2.2.2.2) aN).trans (by kernel_rfl)))
def Ju(a:bP):aq:=⟨214,[eP,(.fn 226 [] []),aS],bF,[(true,0,cB)],λs=>pK a s.2.2.2.2.2.2 s.1 s.2.1 s.2.2.1 s.2.2.2.1 s.2.2.2.2.1 s.2.2.2.2.2.1⟩
def Dx(o:Ex->Ex)(q:Sh->(R:Type)->Option R->Option R)(p:Q2->Option Q3)(ops:Q1)(l:Q6)(a:aD)(g:x9->Option Q3):Int×Int×Int×Int×Int×Int×Int×(List Ex)->Option Q3:=λ⟨f,e,b,d,k,j,i,h⟩=> bif b==0 then (bM ops l f a e b d).bind λm=> bif !m.2 then some ((Ex.mk k j i h),f,e,b,d) else (aZ l f a e b d).bind λn=> (iJ p l (i64.wrap (f+1)) a e b d).bind λc=> g (c.2.1,c.2.2.1,c.2.2.2.1,c.2.2.2.2,m.1,0,n.2.2.2,([(Ex.mk k j i h),(o c.1)]:List Ex)) else some ((Ex.mk k j i h),f,e,b,d)
def mW(e:Ex->Ex)(h:Sh->(R:Type)->Option R->Option R)(g:Q2->Option Q3)(ops:Q1)(l:Q6)(at_:Int)(b:aD)(d:Int)(f:Int)(c:Int):Option Q3:= (iJ g l at_ b d f c).bind λa=> az (Dx e h g ops l b) aC (a.2.1,a.2.2.1,a.2.2.2.1,a.2.2.2.2,a.1.op,a.1.n,a.1.at_,a.1.l)
theorem Eh(a:bP)(b:fc a):Ko (Ju a):=
 aX (.l ⟨[(true,0,cB),(true,6,Ip),(true,7,Kl)],[]⟩ .o) call214 func214 (aj (EJ a b) (aj cU (aj cg al))) al al λs=>(show _=mW bk aM a s.2.2.2.2.2.2 s.1 s.2.1 s.2.2.1 s.2.2.2.1 s.2.2.2.2.1 s.2.2.2.2.2.1 from by kernel_rfl).trans ((congrArg (λc=>mW c aM a s.2.2.2.2.2.2 s.1 s.2.1 s.2.2.1 s.2.2.2.1 s.2.2.2.2.1 s.2.2.2.2.2.1) aJ).trans ((congrArg (λd=>mW id d a s.2.2.2.2.2.2 s.1 s.2.1 s.2.2.1 s.2.2.2.1 s.2.2.2.2.1 s.2.2.2.2.2.1) aN).trans (by kernel_rfl)))
def Pg(a:bP):aq:=⟨225,[eP],bF,[(true,0,cB)],λs=>lq a s.1 s.2.1 s.2.2.1 s.2.2.2.1 s.2.2.2.2.1 s.2.2.2.2.2⟩
def rK(e:Ex->Ex)(h:Sh->(R:Type)->Option R->Option R)(g:Q2->Option Q3)(l:Q6)(at_:Int)(c:aD)(d:Int)(f:Int)(b:Int):Option Q3:= (pK g ([5]:xi) l at_ c d f b).bind λa=> some ((e a.1),a.2.1,a.2.2.1,a.2.2.2.1,a.2.2.2.2)
theorem Jp(a:bP)(b:fc a):Ko (Pg a):=
 aX .o call225 func225 (aj (Eh a b) al) al al λs=>(show _=rK bk aM a s.1 s.2.1 s.2.2.1 s.2.2.2.1 s.2.2.2.2.1 s.2.2.2.2.2 from by kernel_rfl).trans ((congrArg (λc=>rK c aM a s.1 s.2.1 s.2.2.1 s.2.2.2.1 s.2.2.2.2.1 s.2.2.2.2.2) aJ).trans ((congrArg (λd=>rK id d a s.1 s.2.1 s.2.2.1 s.2.2.2.1 s.2.2.2.2.1 s.2.2.2.2.2) aN).trans (by kernel_rfl)))
def Jy(a:bP):aq:=⟨214,[eP,(.fn 225 [] []),aS],bF,[(true,0,cB)],λs=>pF a s.2.2.2.2.2.2 s.1 s.2.1 s.2.2.1 s.2.2.2.1 s.2.2.2.2.1 s.2.2.2.2.2.1⟩
def DX(o:Ex->Ex)(q:Sh->(R:Type)->Option R->Option R)(p:Q2->Option Q3)(ops:Q1)(l:Q6)(a:aD)(g:x9->Option Q3):Int×Int×Int×Int×Int×Int×Int×(List Ex)->Option Q3:=λ⟨f,e,b,d,k,j,i,h⟩=> bif b==0 then (bM ops l f a e b d).bind λm=> bif !m.2 then some ((Ex.mk k j i h),f,e,b,d) else (aZ l f a e b d).bind λn=> (lq p l (i64.wrap (f+1)) a e b d).bind λc=> g (c.2.1,c.2.2.1,c.2.2.2.1,c.2.2.2.2,m.1,0,n.2.2.2,([(Ex.mk k j i h),(o c.1)]:List Ex)) else some ((Ex.mk k j i h),f,e,b,d)
def nk(e:Ex->Ex)(h:Sh->(R:Type)->Option R->Option R)(g:Q2->Option Q3)(ops:Q1)(l:Q6)(at_:Int)(b:aD)(d:Int)(f:Int)(c:Int):Option Q3:= (lq g l at_ b d f c).bind λa=> az (DX e h g ops l b) aC (a.2.1,a.2.2.1,a.2.2.2.1,a.2.2.2.2,a.1.op,a.1.n,a.1.at_,a.1.l)
theorem Ec(a:bP)(b:fc a):Ko (Jy a):=
 aX (.l ⟨[(true,0,cB),(true,6,Ip),(true,7,Kl)],[]⟩ .o) call214 func214 (aj (Jp a b) (aj cU (aj cg al))) al al λs=>(show _=nk bk aM a s.2.2.2.2.2.2 s.1 s.2.1 s.2.2.1 s.2.2.2.1 s.2.2.2.2.1 s.2.2.2.2.2.1 from by kernel_rfl).trans ((congrArg (λc=>nk c aM a s.2.2.2.2.2.2 s.1 s.2.1 s.2.2.1 s.2.2.2.1 s.2.2.2.2.1 s.2.2.2.2.2.1) aJ).trans ((congrArg (λd=>nk id d a s.2.2.2.2.2.2 s.1 s.2.1 s.2.2.1 s.2.2.2.1 s.2.2.2.2.1 s.2.2.2.2.2.1) aN).trans (by kernel_rfl)))
def SQ(a:bP):aq:=⟨224,[eP],bF,[(true,0,cB)],λs=>mE a s.1 s.2.1 s.2.2.1 s.2.2.2.1 s.2.2.2.2.1 s.2.2.2.2.2⟩
def tY(e:Ex->Ex)(h:Sh->(R:Type)->Option R->Option R)(g:Q2->Option Q3)(l:Q6)(at_:Int)(c:aD)(d:Int)(f:Int)(b:Int):Option Q3:= (pF g ([3,4]:xi) l at_ c d f b).bind λa=> some ((e a.1),a.2.1,a.2.2.1,a.2.2.2.1,a.2.2.2.2)
theorem J8(a:bP)(b:fc a):Ko (SQ a):=
 aX .o call224 func224 (aj (Ec a b) al) al al λs=>(show _=tY bk aM a s.1 s.2.1 s.2.2.1 s.2.2.2.1 s.2.2.2.2.1 s.2.2.2.2.2 from by kernel_rfl).trans ((congrArg (λc=>tY c aM a s.1 s.2.1 s.2.2.1 s.2.2.2.1 s.2.2.2.2.1 s.2.2.2.2.2) aJ).trans ((congrArg (λd=>tY id d a s.1 s.2.1 s.2.2.1 s.2.2.2.1 s.2.2.2.2.1 s.2.2.2.2.2) aN).trans (by kernel_rfl)))
def SX(a:bP):aq:=⟨223,[eP],bF,[(true,0,cB)],λs=>xp a s.1 s.2.1 s.2.2.1 s.2.2.2.1 s.2.2.2.2.1 s.2.2.2.2.2⟩
def ur(e:Ex->Ex)(o:Sh->(R:Type)->Option R->Option R)(n:Q2->Option Q3)(l:Q6)(at_:Int)(b:aD)(g:Int)(i:Int)(d:Int):Option Q3:= (mE n l at_ b g i d).bind λa=> (bM ([7,8,9,10,11,12]:xi) l a.2.1 b a.2.2.1 a.2.2.2.1 a.2.2.2.2).bind λf=> ai (a.2.2.2.1 != 0) λm=> ai (!f.2) λk=> ai (m||k) λj=> bif j then ( some ((e a.1),a.2.1,a.2.2.1,a.2.2.2.1,a.2.2.2.2)) else ( (aZ l a.2.1 b a.2.2.1 a.2.2.2.1 a.2.2.2.2).bind λh=> (mE n l (i64.wrap (a.2.1+1)) b a.2.2.1 a.2.2.2.1 a.2.2.2.2).bind λc=> some ((Ex.mk f.1 0 h.2.2.2 ([(e a.1),(e c.1)]:List Ex)),c.2.1,c.2.2.1,c.2.2.2.1,c.2.2.2.2))
theorem Ki(a:bP)(b:fc a):Ko (SX a):=
 aX .o call223 func223 (aj (J8 a b) (aj cU (aj cg al))) al al λs=>(show _=ur bk aM a s.1 s.2.1 s.2.2.1 s.2.2.2.1 s.2.2.2.2.1 s.2.2.2.2.2 from by kernel_rfl).trans ((congrArg (λc=>ur c aM a s.1 s.2.1 s.2.2.1 s.2.2.2.1 s.2.2.2.2.1 s.2.2.2.2.2) aJ).trans ((congrArg (λd=>ur id d a s.1 s.2.1 s.2.2.1 s.2.2.2.1 s.2.2.2.2.1 s.2.2.2.2.2) aN).trans (by kernel_rfl)))
def JH(a:bP)(b:S8):aq:=⟨222,[eP,Mr,(.fn 223 [] []),aS],bF,[(true,0,cB)],λs=>sa a b s.2.2.2.2.2.2 s.1 s.2.1 s.2.2.1 s.2.2.2.1 s.2.2.2.2.1 s.2.2.2.2.2.1⟩
def oR(h:Ex->Ex)(m:Sh->(R:Type)->Option R->Option R)(k:Q2->Option Q3)(j:Q2->Option Q3)(ops:Q1)(l:Q6)(at_:Int)(b:aD)(c:Int)(f:Int)(a:Int):Option Q3:= (bM ops l at_ b c f a).bind λg=> bif !g.2 then (xp k l at_ b c f a).bind λe=> some ((h e.1),e.2.1,e.2.2.1,e.2.2.2.1,e.2.2.2.2) else (aZ l at_ b c f a).bind λi=> (j (l,(i64.wrap (at_+1)),b,c,f,a)).bind λd=> some ((Ex.mk g.1 0 i.2.2.2 ([(h d.1)]:List Ex)),d.2.1,d.2.2.1,d.2.2.2.1,d.2.2.2.2)
theorem Gf(a:bP)(d:fc a)(b:S8)(f:OK7 b):Ko (JH a b):=
 aX (.c .o (.r [0,8] .o)) call222 func222 (aj cU (aj (Ki a d) (aj cg (aj f al)))) al al λs=>(show _=oR bk aM a b s.2.2.2.2.2.2 s.1 s.2.1 s.2.2.1 s.2.2.2.1 s.2.2.2.2.1 s.2.2.2.2.2.1 from by kernel_rfl).trans ((congrArg (λe=>oR e aM a b s.2.2.2.2.2.2 s.1 s.2.1 s.2.2.1 s.2.2.2.1 s.2.2.2.2.1 s.2.2.2.2.2.1) aJ).trans ((congrArg (λg=>oR id g a b s.2.2.2.2.2.2 s.1 s.2.1 s.2.2.1 s.2.2.2.1 s.2.2.2.2.1 s.2.2.2.2.2.1) aN).trans (by kernel_rfl)))
def R7(a:bP)(b:S8):aq:=⟨221,[eP],bF,[(true,0,cB)],λs=>xJ a b s.1 s.2.1 s.2.2.1 s.2.2.2.1 s.2.2.2.2.1 s.2.2.2.2.2⟩
def tq(e:Ex->Ex)(i:Sh->(R:Type)->Option R->Option R)(h:Q2->Option Q3)(g:Q2->Option Q3)(l:Q6)(at_:Int)(c:aD)(d:Int)(f:Int)(b:Int):Option Q3:= (sa h g ([15,20,21,22]:xi) l at_ c d f b).bind λa=> some ((e a.1),a.2.1,a.2.2.1,a.2.2.2.1,a.2.2.2.2)
theorem KO(a:bP)(c:fc a)(b:S8)(e:OK7 b):Ko (R7 a b):=
 aX .o call221 func221 (aj (Gf a c b e) al) al al λs=>(show _=tq bk aM a b s.1 s.2.1 s.2.2.1 s.2.2.2.1 s.2.2.2.2.1 s.2.2.2.2.2 from by kernel_rfl).trans ((congrArg (λd=>tq d aM a b s.1 s.2.1 s.2.2.1 s.2.2.2.1 s.2.2.2.2.1 s.2.2.2.2.2) aJ).trans ((congrArg (λf=>tq id f a b s.1 s.2.1 s.2.2.1 s.2.2.2.1 s.2.2.2.2.1 s.2.2.2.2.2) aN).trans (by kernel_rfl)))
def uB(a:bP):aq:=⟨91,[eP,Mr],bF,[(true,0,cB)],λs=>od a s.1 s.2.1 s.2.2.1 s.2.2.2.1 s.2.2.2.2.1 s.2.2.2.2.2⟩
def kJ(f:Ex->Ex)(j:Sh->(R:Type)->Option R->Option R)(i:Q2->Option Q3)(h:Q2->Option Q3)(l:Q6)(at_:Int)(d:aD)(a:Int)(g:Int)(c:Int):Option Q3:= bif decide (320<=a) then (cd 9 l at_ d a g c).bind λe=> some ((f e.1),at_,a,e.2.1,e.2.2) else (xJ i h l at_ d (i64.wrap (a+1)) g c).bind λb=> some ((f b.1),b.2.1,(i64.wrap (b.2.2.1-1)),b.2.2.2.1,b.2.2.2.2)
def uj(a:bP):S8->S8:=λb s=>uM a b s.1 s.2.1 s.2.2.1 s.2.2.2.1 s.2.2.2.2.1 s.2.2.2.2.2
theorem yY(a:bP)(c:fc a)(b:S8)(e:OK7 b):(iB (uj a b)).Ok X0.P X0.Γ:=
 aX .o call91 func91 (aj fi (aj (KO a c b e) al)) al al λs=>(show _=kJ bk aM a b s.1 s.2.1 s.2.2.1 s.2.2.2.1 s.2.2.2.2.1 s.2.2.2.2.2 from by kernel_rfl).trans ((congrArg (λd=>kJ d aM a b s.1 s.2.1 s.2.2.1 s.2.2.2.1 s.2.2.2.2.1 s.2.2.2.2.2) aJ).trans ((congrArg (λf=>kJ id f a b s.1 s.2.1 s.2.2.1 s.2.2.2.1 s.2.2.2.2.1 s.2.2.2.2.2) aN).trans (by kernel_rfl)))
theorem B1(a:bP)(b:fc a):Ko (uB a):=(show uB a=iB (az (uj a) aC) by kernel_rfl)▸dT (X:=X0) (E:=iB) ⟨call91,λ_ _ h=>nomatch h⟩ (yY a b) aC
def I9(a:bP):aq:=⟨220,[eP],bF,[(true,0,cB)],λs=>pB a s.1 s.2.1 s.2.2.1 s.2.2.2.1 s.2.2.2.2.1 s.2.2.2.2.2⟩
def nj(e:Ex->Ex)(h:Sh->(R:Type)->Option R->Option R)(g:Q2->Option Q3)(l:Q6)(at_:Int)(c:aD)(d:Int)(f:Int)(b:Int):Option Q3:= (od g l at_ c d f b).bind λa=> some ((e a.1),a.2.1,a.2.2.1,a.2.2.2.1,a.2.2.2.2)
theorem DV(a:bP)(b:fc a):Ko (I9 a):=
 aX .o call220 func220 (aj (B1 a b) al) al al λs=>(show _=nj bk aM a s.1 s.2.1 s.2.2.1 s.2.2.2.1 s.2.2.2.2.1 s.2.2.2.2.2 from by kernel_rfl).trans ((congrArg (λc=>nj c aM a s.1 s.2.1 s.2.2.1 s.2.2.2.1 s.2.2.2.2.1 s.2.2.2.2.2) aJ).trans ((congrArg (λd=>nj id d a s.1 s.2.1 s.2.2.1 s.2.2.2.1 s.2.2.2.2.1 s.2.2.2.2.2) aN).trans (by kernel_rfl)))
def HS(a:bP)(b:UE):aq:=⟨137,[eP,(.fn 220 [] []),MG,aS],bF,[(true,0,cB)],λs=>oh a b s.2.2.2.2.2.2 s.1 s.2.1 s.2.2.1 s.2.2.2.1 s.2.2.2.2.1 s.2.2.2.2.2.1⟩
def mh(e:Ex->Ex)(p:Sh->(R:Type)->Option R->Option R)(o:Q2->Option Q3)(n:Q2->Option Q3)(ops:Q1)(l:Q6)(at_:Int)(b:aD)(g:Int)(i:Int)(d:Int):Option Q3:= (pB o l at_ b g i d).bind λa=> (bM ops l a.2.1 b a.2.2.1 a.2.2.2.1 a.2.2.2.2).bind λf=> ai (a.2.2.2.1 != 0) λm=> ai (!f.2) λk=> ai (m||k) λj=> bif j then ( some ((e a.1),a.2.1,a.2.2.1,a.2.2.2.1,a.2.2.2.2)) else ( (aZ l a.2.1 b a.2.2.1 a.2.2.2.1 a.2.2.2.2).bind λh=> (n (l,(i64.wrap (a.2.1+1)),b,a.2.2.1,a.2.2.2.1,a.2.2.2.2)).bind λc=> some ((Ex.mk f.1 0 h.2.2.2 ([(e a.1),(e c.1)]:List Ex)),c.2.1,c.2.2.1,c.2.2.2.1,c.2.2.2.2))
theorem Cg(a:bP)(c:fc a)(b:UE)(e:OK8 b):Ko (HS a b):=
 aX .o call137 func137 (aj (DV a c) (aj cU (aj cg (aj e al)))) al al λs=>(show _=mh bk aM a b s.2.2.2.2.2.2 s.1 s.2.1 s.2.2.1 s.2.2.2.1 s.2.2.2.2.1 s.2.2.2.2.2.1 from by kernel_rfl).trans ((congrArg (λd=>mh d aM a b s.2.2.2.2.2.2 s.1 s.2.1 s.2.2.1 s.2.2.2.1 s.2.2.2.2.1 s.2.2.2.2.2.1) aJ).trans ((congrArg (λf=>mh id f a b s.2.2.2.2.2.2 s.1 s.2.1 s.2.2.1 s.2.2.2.1 s.2.2.2.2.1 s.2.2.2.2.2.1) aN).trans (by kernel_rfl)))
def NH(a:bP)(b:UE):aq:=⟨219,[eP],bF,[(true,0,cB)],λs=>uq a b s.1 s.2.1 s.2.2.1 s.2.2.2.1 s.2.2.2.2.1 s.2.2.2.2.2⟩
def pT(e:Ex->Ex)(i:Sh->(R:Type)->Option R->Option R)(h:Q2->Option Q3)(g:Q2->Option Q3)(l:Q6)(at_:Int)(c:aD)(d:Int)(f:Int)(b:Int):Option Q3:= (oh h g ([23,24]:xi) l at_ c d f b).bind λa=> some ((e a.1),a.2.1,a.2.2.1,a.2.2.2.1,a.2.2.2.2)
theorem HI(a:bP)(c:fc a)(b:UE)(e:OK8 b):Ko (NH a b):=
 aX .o call219 func219 (aj (Cg a c b e) al) al al λs=>(show _=pT bk aM a b s.1 s.2.1 s.2.2.1 s.2.2.2.1 s.2.2.2.2.1 s.2.2.2.2.2 from by kernel_rfl).trans ((congrArg (λd=>pT d aM a b s.1 s.2.1 s.2.2.1 s.2.2.2.1 s.2.2.2.2.1 s.2.2.2.2.2) aJ).trans ((congrArg (λf=>pT id f a b s.1 s.2.1 s.2.2.1 s.2.2.2.1 s.2.2.2.2.1 s.2.2.2.2.2) aN).trans (by kernel_rfl)))
def tJ(a:bP):aq:=⟨91,[eP,MG],bF,[(true,0,cB)],λs=>n8 a s.1 s.2.1 s.2.2.1 s.2.2.2.1 s.2.2.2.2.1 s.2.2.2.2.2⟩
def kl(f:Ex->Ex)(j:Sh->(R:Type)->Option R->Option R)(i:Q2->Option Q3)(h:Q2->Option Q3)(l:Q6)(at_:Int)(d:aD)(a:Int)(g:Int)(c:Int):Option Q3:= bif decide (320<=a) then (cd 9 l at_ d a g c).bind λe=> some ((f e.1),at_,a,e.2.1,e.2.2) else (uq i h l at_ d (i64.wrap (a+1)) g c).bind λb=> some ((f b.1),b.2.1,(i64.wrap (b.2.2.1-1)),b.2.2.2.1,b.2.2.2.2)
def uu(a:bP):UE->UE:=λb s=>uw a b s.1 s.2.1 s.2.2.1 s.2.2.2.1 s.2.2.2.2.1 s.2.2.2.2.2
theorem yN(a:bP)(c:fc a)(b:UE)(e:OK8 b):(iy (uu a b)).Ok X0.P X0.Γ:=
 aX .o call91 func91 (aj fi (aj (HI a c b e) al)) al al λs=>(show _=kl bk aM a b s.1 s.2.1 s.2.2.1 s.2.2.2.1 s.2.2.2.2.1 s.2.2.2.2.2 from by kernel_rfl).trans ((congrArg (λd=>kl d aM a b s.1 s.2.1 s.2.2.1 s.2.2.2.1 s.2.2.2.2.1 s.2.2.2.2.2) aJ).trans ((congrArg (λf=>kl id f a b s.1 s.2.1 s.2.2.1 s.2.2.2.1 s.2.2.2.2.1 s.2.2.2.2.2) aN).trans (by kernel_rfl)))
theorem Cl(a:bP)(b:fc a):Ko (tJ a):=(show tJ a=iy (az (uu a) aC) by kernel_rfl)▸dT (X:=X0) (E:=iy) ⟨call91,λ_ _ h=>nomatch h⟩ (yN a b) aC
def Gd(a:bP):aq:=⟨218,[eP],bF,[(true,0,cB)],λs=>gC a s.1 s.2.1 s.2.2.1 s.2.2.2.1 s.2.2.2.2.1 s.2.2.2.2.2⟩
def lg(e:Ex->Ex)(h:Sh->(R:Type)->Option R->Option R)(g:Q2->Option Q3)(l:Q6)(at_:Int)(c:aD)(d:Int)(f:Int)(b:Int):Option Q3:= (n8 g l at_ c d f b).bind λa=> some ((e a.1),a.2.1,a.2.2.1,a.2.2.2.1,a.2.2.2.2)
theorem Bv(a:bP)(b:fc a):Ko (Gd a):=
 aX .o call218 func218 (aj (Cl a b) al) al al λs=>(show _=lg bk aM a s.1 s.2.1 s.2.2.1 s.2.2.2.1 s.2.2.2.2.1 s.2.2.2.2.2 from by kernel_rfl).trans ((congrArg (λc=>lg c aM a s.1 s.2.1 s.2.2.1 s.2.2.2.1 s.2.2.2.2.1 s.2.2.2.2.2) aJ).trans ((congrArg (λd=>lg id d a s.1 s.2.1 s.2.2.1 s.2.2.2.1 s.2.2.2.2.1 s.2.2.2.2.2) aN).trans (by kernel_rfl)))
def Je(a:bP):aq:=⟨214,[eP,(.fn 218 [] []),aS],bF,[(true,0,cB)],λs=>pR a s.2.2.2.2.2.2 s.1 s.2.1 s.2.2.1 s.2.2.2.1 s.2.2.2.2.1 s.2.2.2.2.2.1⟩
def DQ(o:Ex->Ex)(q:Sh->(R:Type)->Option R->Option R)(p:Q2->Option Q3)(ops:Q1)(l:Q6)(a:aD)(g:x9->Option Q3):Int×Int×Int×Int×Int×Int×Int×(List Ex)->Option Q3:=λ⟨f,e,b,d,k,j,i,h⟩=> bif b==0 then (bM ops l f a e b d).bind λm=> bif !m.2 then some ((Ex.mk k j i h),f,e,b,d) else (aZ l f a e b d).bind λn=> (gC p l (i64.wrap (f+1)) a e b d).bind λc=> g (c.2.1,c.2.2.1,c.2.2.2.1,c.2.2.2.2,m.1,0,n.2.2.2,([(Ex.mk k j i h),(o c.1)]:List Ex)) else some ((Ex.mk k j i h),f,e,b,d)
def nd(e:Ex->Ex)(h:Sh->(R:Type)->Option R->Option R)(g:Q2->Option Q3)(ops:Q1)(l:Q6)(at_:Int)(b:aD)(d:Int)(f:Int)(c:Int):Option Q3:= (gC g l at_ b d f c).bind λa=> az (DQ e h g ops l b) aC (a.2.1,a.2.2.1,a.2.2.2.1,a.2.2.2.2,a.1.op,a.1.n,a.1.at_,a.1.l)
theorem DG(a:bP)(b:fc a):Ko (Je a):=
 aX (.l ⟨[(true,0,cB),(true,6,Ip),(true,7,Kl)],[]⟩ .o) call214 func214 (aj (Bv a b) (aj cU (aj cg al))) al al λs=>(show _=nd bk aM a s.2.2.2.2.2.2 s.1 s.2.1 s.2.2.1 s.2.2.2.1 s.2.2.2.2.1 s.2.2.2.2.2.1 from by kernel_rfl).trans ((congrArg (λc=>nd c aM a s.2.2.2.2.2.2 s.1 s.2.1 s.2.2.1 s.2.2.2.1 s.2.2.2.2.1 s.2.2.2.2.2.1) aJ).trans ((congrArg (λd=>nd id d a s.2.2.2.2.2.2 s.1 s.2.1 s.2.2.1 s.2.2.2.1 s.2.2.2.2.1 s.2.2.2.2.2.1) aN).trans (by kernel_rfl)))
def SH(a:bP):aq:=⟨215,[eP],bF,[(true,0,cB)],λs=>mJ a s.1 s.2.1 s.2.2.1 s.2.2.2.1 s.2.2.2.2.1 s.2.2.2.2.2⟩
def tI(e:Ex->Ex)(h:Sh->(R:Type)->Option R->Option R)(g:Q2->Option Q3)(l:Q6)(at_:Int)(c:aD)(d:Int)(f:Int)(b:Int):Option Q3:= (pR g ([16]:xi) l at_ c d f b).bind λa=> some ((e a.1),a.2.1,a.2.2.1,a.2.2.2.1,a.2.2.2.2)
theorem JL(a:bP)(b:fc a):Ko (SH a):=
 aX .o call215 func215 (aj (DG a b) al) al al λs=>(show _=tI bk aM a s.1 s.2.1 s.2.2.1 s.2.2.2.1 s.2.2.2.2.1 s.2.2.2.2.2 from by kernel_rfl).trans ((congrArg (λc=>tI c aM a s.1 s.2.1 s.2.2.1 s.2.2.2.1 s.2.2.2.2.1 s.2.2.2.2.2) aJ).trans ((congrArg (λd=>tI id d a s.1 s.2.1 s.2.2.1 s.2.2.2.1 s.2.2.2.2.1 s.2.2.2.2.2) aN).trans (by kernel_rfl)))
def P5(a:bP):aq:=⟨214,[eP,(.fn 215 [] []),aS],bF,[(true,0,cB)],λs=>vT a s.2.2.2.2.2.2 s.1 s.2.1 s.2.2.1 s.2.2.2.1 s.2.2.2.2.1 s.2.2.2.2.2.1⟩
def Jn(o:Ex->Ex)(q:Sh->(R:Type)->Option R->Option R)(p:Q2->Option Q3)(ops:Q1)(l:Q6)(a:aD)(g:x9->Option Q3):Int×Int×Int×Int×Int×Int×Int×(List Ex)->Option Q3:=λ⟨f,e,b,d,k,j,i,h⟩=> bif b==0 then (bM ops l f a e b d).bind λm=> bif !m.2 then some ((Ex.mk k j i h),f,e,b,d) else (aZ l f a e b d).bind λn=> (mJ p l (i64.wrap (f+1)) a e b d).bind λc=> g (c.2.1,c.2.2.1,c.2.2.2.1,c.2.2.2.2,m.1,0,n.2.2.2,([(Ex.mk k j i h),(o c.1)]:List Ex)) else some ((Ex.mk k j i h),f,e,b,d)
def rZ(e:Ex->Ex)(h:Sh->(R:Type)->Option R->Option R)(g:Q2->Option Q3)(ops:Q1)(l:Q6)(at_:Int)(b:aD)(d:Int)(f:Int)(c:Int):Option Q3:= (mJ g l at_ b d f c).bind λa=> az (Jn e h g ops l b) aC (a.2.1,a.2.2.1,a.2.2.2.1,a.2.2.2.2,a.1.op,a.1.n,a.1.at_,a.1.l)
theorem Jc(a:bP)(b:fc a):Ko (P5 a):=
 aX (.l ⟨[(true,0,cB),(true,6,Ip),(true,7,Kl)],[]⟩ .o) call214 func214 (aj (JL a b) (aj cU (aj cg al))) al al λs=>(show _=rZ bk aM a s.2.2.2.2.2.2 s.1 s.2.1 s.2.2.1 s.2.2.2.1 s.2.2.2.2.1 s.2.2.2.2.2.1 from by kernel_rfl).trans ((congrArg (λc=>rZ c aM a s.2.2.2.2.2.2 s.1 s.2.1 s.2.2.1 s.2.2.2.1 s.2.2.2.2.1 s.2.2.2.2.2.1) aJ).trans ((congrArg (λd=>rZ id d a s.2.2.2.2.2.2 s.1 s.2.1 s.2.2.1 s.2.2.2.1 s.2.2.2.2.1 s.2.2.2.2.2.1) aN).trans (by kernel_rfl)))
def UN(a:bP):aq:=⟨206,[eP],bF,[(true,0,cB)],λs=>Bu a s.1 s.2.1 s.2.2.1 s.2.2.2.1 s.2.2.2.2.1 s.2.2.2.2.2⟩
def vA(e:Ex->Ex)(h:Sh->(R:Type)->Option R->Option R)(g:Q2->Option Q3)(l:Q6)(at_:Int)(c:aD)(d:Int)(f:Int)(b:Int):Option Q3:= (vT g ([17]:xi) l at_ c d f b).bind λa=> some ((e a.1),a.2.1,a.2.2.1,a.2.2.2.1,a.2.2.2.2)
theorem Nk(a:bP)(b:fc a):Ko (UN a):=
 aX .o call206 func206 (aj (Jc a b) al) al al λs=>(show _=vA bk aM a s.1 s.2.1 s.2.2.1 s.2.2.2.1 s.2.2.2.2.1 s.2.2.2.2.2 from by kernel_rfl).trans ((congrArg (λc=>vA c aM a s.1 s.2.1 s.2.2.1 s.2.2.2.1 s.2.2.2.2.1 s.2.2.2.2.2) aJ).trans ((congrArg (λd=>vA id d a s.1 s.2.1 s.2.2.1 s.2.2.2.1 s.2.2.2.2.1 s.2.2.2.2.2) aN).trans (by kernel_rfl)))
def GB(a:bP)(b:RV):aq:=⟨137,[eP,(.fn 206 [] []),MH,aS],bF,[(true,0,cB)],λs=>oL a b s.2.2.2.2.2.2 s.1 s.2.1 s.2.2.1 s.2.2.2.1 s.2.2.2.2.1 s.2.2.2.2.2.1⟩
def lM(e:Ex->Ex)(p:Sh->(R:Type)->Option R->Option R)(o:Q2->Option Q3)(n:Q2->Option Q3)(ops:Q1)(l:Q6)(at_:Int)(b:aD)(g:Int)(i:Int)(d:Int):Option Q3:= (Bu o l at_ b g i d).bind λa=> (bM ops l a.2.1 b a.2.2.1 a.2.2.2.1 a.2.2.2.2).bind λf=> ai (a.2.2.2.1 != 0) λm=> ai (!f.2) λk=> ai (m||k) λj=> bif j then ( some ((e a.1),a.2.1,a.2.2.1,a.2.2.2.1,a.2.2.2.2)) else ( (aZ l a.2.1 b a.2.2.1 a.2.2.2.1 a.2.2.2.2).bind λh=> (n (l,(i64.wrap (a.2.1+1)),b,a.2.2.1,a.2.2.2.1,a.2.2.2.2)).bind λc=> some ((Ex.mk f.1 0 h.2.2.2 ([(e a.1),(e c.1)]:List Ex)),c.2.1,c.2.2.1,c.2.2.2.1,c.2.2.2.2))
theorem Co(a:bP)(c:fc a)(b:RV)(e:OK9 b):Ko (GB a b):=
 aX .o call137 func137 (aj (Nk a c) (aj cU (aj cg (aj e al)))) al al λs=>(show _=lM bk aM a b s.2.2.2.2.2.2 s.1 s.2.1 s.2.2.1 s.2.2.2.1 s.2.2.2.2.1 s.2.2.2.2.2.1 from by kernel_rfl).trans ((congrArg (λd=>lM d aM a b s.2.2.2.2.2.2 s.1 s.2.1 s.2.2.1 s.2.2.2.1 s.2.2.2.2.1 s.2.2.2.2.2.1) aJ).trans ((congrArg (λf=>lM id f a b s.2.2.2.2.2.2 s.1 s.2.1 s.2.2.1 s.2.2.2.1 s.2.2.2.2.1 s.2.2.2.2.2.1) aN).trans (by kernel_rfl)))
def RJ(a:bP)(b:RV):aq:=⟨184,[eP],bF,[(true,0,cB)],λs=>xG a b s.1 s.2.1 s.2.2.1 s.2.2.2.1 s.2.2.2.2.1 s.2.2.2.2.2⟩
def uK(e:Ex->Ex)(i:Sh->(R:Type)->Option R->Option R)(h:Q2->Option Q3)(g:Q2->Option Q3)(l:Q6)(at_:Int)(c:aD)(d:Int)(f:Int)(b:Int):Option Q3:= (oL h g ([18]:xi) l at_ c d f b).bind λa=> some ((e a.1),a.2.1,a.2.2.1,a.2.2.2.1,a.2.2.2.2)
theorem KS(a:bP)(c:fc a)(b:RV)(e:OK9 b):Ko (RJ a b):=
 aX .o call184 func184 (aj (Co a c b e) al) al al λs=>(show _=uK bk aM a b s.1 s.2.1 s.2.2.1 s.2.2.2.1 s.2.2.2.2.1 s.2.2.2.2.2 from by kernel_rfl).trans ((congrArg (λd=>uK d aM a b s.1 s.2.1 s.2.2.1 s.2.2.2.1 s.2.2.2.2.1 s.2.2.2.2.2) aJ).trans ((congrArg (λf=>uK id f a b s.1 s.2.1 s.2.2.1 s.2.2.2.1 s.2.2.2.2.1 s.2.2.2.2.2) aN).trans (by kernel_rfl)))
def uG(a:bP):aq:=⟨91,[eP,MH],bF,[(true,0,cB)],λs=>oq a s.1 s.2.1 s.2.2.1 s.2.2.2.1 s.2.2.2.2.1 s.2.2.2.2.2⟩
def ko(f:Ex->Ex)(j:Sh->(R:Type)->Option R->Option R)(i:Q2->Option Q3)(h:Q2->Option Q3)(l:Q6)(at_:Int)(d:aD)(a:Int)(g:Int)(c:Int):Option Q3:= bif decide (320<=a) then (cd 9 l at_ d a g c).bind λe=> some ((f e.1),at_,a,e.2.1,e.2.2) else (xG i h l at_ d (i64.wrap (a+1)) g c).bind λb=> some ((f b.1),b.2.1,(i64.wrap (b.2.2.1-1)),b.2.2.2.1,b.2.2.2.2)
def tT(a:bP):RV->RV:=λb s=>tn a b s.1 s.2.1 s.2.2.1 s.2.2.2.1 s.2.2.2.2.1 s.2.2.2.2.2
theorem yO(a:bP)(c:fc a)(b:RV)(e:OK9 b):(iz (tT a b)).Ok X0.P X0.Γ:=
 aX .o call91 func91 (aj fi (aj (KS a c b e) al)) al al λs=>(show _=ko bk aM a b s.1 s.2.1 s.2.2.1 s.2.2.2.1 s.2.2.2.2.1 s.2.2.2.2.2 from by kernel_rfl).trans ((congrArg (λd=>ko d aM a b s.1 s.2.1 s.2.2.1 s.2.2.2.1 s.2.2.2.2.1 s.2.2.2.2.2) aJ).trans ((congrArg (λf=>ko id f a b s.1 s.2.1 s.2.2.1 s.2.2.2.1 s.2.2.2.2.1 s.2.2.2.2.2) aN).trans (by kernel_rfl)))
theorem B7(a:bP)(b:fc a):Ko (uG a):=(show uG a=iz (az (tT a) aC) by kernel_rfl)▸dT (X:=X0) (E:=iz) ⟨call91,λ_ _ h=>nomatch h⟩ (yO a b) aC
def Jz(a:bP):aq:=⟨138,[eP],bF,[(true,0,cB)],λs=>pH a s.1 s.2.1 s.2.2.1 s.2.2.2.1 s.2.2.2.2.1 s.2.2.2.2.2⟩
def nc(e:Ex->Ex)(h:Sh->(R:Type)->Option R->Option R)(g:Q2->Option Q3)(l:Q6)(at_:Int)(c:aD)(d:Int)(f:Int)(b:Int):Option Q3:= (oq g l at_ c d f b).bind λa=> some ((e a.1),a.2.1,a.2.2.1,a.2.2.2.1,a.2.2.2.2)
theorem DU(a:bP)(b:fc a):Ko (Jz a):=
 aX .o call138 func138 (aj (B7 a b) al) al al λs=>(show _=nc bk aM a s.1 s.2.1 s.2.2.1 s.2.2.2.1 s.2.2.2.2.1 s.2.2.2.2.2 from by kernel_rfl).trans ((congrArg (λc=>nc c aM a s.1 s.2.1 s.2.2.1 s.2.2.2.1 s.2.2.2.2.1 s.2.2.2.2.2) aJ).trans ((congrArg (λd=>nc id d a s.1 s.2.1 s.2.2.1 s.2.2.2.1 s.2.2.2.2.1 s.2.2.2.2.2) aN).trans (by kernel_rfl)))
def Nn(a:bP):aq:=⟨137,[eP,(.fn 138 [] []),(.fn 92 [] []),aS],bF,[(true,0,cB)],λs=>ue a s.2.2.2.2.2.2 s.1 s.2.1 s.2.2.1 s.2.2.2.1 s.2.2.2.2.1 s.2.2.2.2.2.1⟩
def pG(e:Ex->Ex)(o:Sh->(R:Type)->Option R->Option R)(n:Q2->Option Q3)(ops:Q1)(l:Q6)(at_:Int)(b:aD)(g:Int)(i:Int)(d:Int):Option Q3:= (pH n l at_ b g i d).bind λa=> (bM ops l a.2.1 b a.2.2.1 a.2.2.2.1 a.2.2.2.2).bind λf=> ai (a.2.2.2.1 != 0) λm=> ai (!f.2) λk=> ai (m||k) λj=> bif j then ( some ((e a.1),a.2.1,a.2.2.1,a.2.2.2.1,a.2.2.2.2)) else ( (aZ l a.2.1 b a.2.2.1 a.2.2.2.1 a.2.2.2.2).bind λh=> (n (l,(i64.wrap (a.2.1+1)),b,a.2.2.1,a.2.2.2.1,a.2.2.2.2)).bind λc=> some ((Ex.mk f.1 0 h.2.2.2 ([(e a.1),(e c.1)]:List Ex)),c.2.1,c.2.2.1,c.2.2.2.1,c.2.2.2.2))
theorem Hq(a:bP)(b:fc a):Ko (Nn a):=
 aX .o call137 func137 (aj (DU a b) (aj cU (aj cg (aj b al)))) al al λs=>(show _=pG bk aM a s.2.2.2.2.2.2 s.1 s.2.1 s.2.2.1 s.2.2.2.1 s.2.2.2.2.1 s.2.2.2.2.2.1 from by kernel_rfl).trans ((congrArg (λc=>pG c aM a s.2.2.2.2.2.2 s.1 s.2.1 s.2.2.1 s.2.2.2.1 s.2.2.2.2.1 s.2.2.2.2.2.1) aJ).trans ((congrArg (λd=>pG id d a s.2.2.2.2.2.2 s.1 s.2.1 s.2.2.1 s.2.2.2.1 s.2.2.2.2.1 s.2.2.2.2.2.1) aN).trans (by kernel_rfl)))
def Sa(a:bP):aq:=⟨92,[eP],bF,[(true,0,cB)],λs=>xo a s.1 s.2.1 s.2.2.1 s.2.2.2.1 s.2.2.2.2.1 s.2.2.2.2.2⟩
def tx(e:Ex->Ex)(h:Sh->(R:Type)->Option R->Option R)(g:Q2->Option Q3)(l:Q6)(at_:Int)(c:aD)(d:Int)(f:Int)(b:Int):Option Q3:= (ue g ([19]:xi) l at_ c d f b).bind λa=> some ((e a.1),a.2.1,a.2.2.1,a.2.2.2.1,a.2.2.2.2)
theorem Kx(a:bP)(b:fc a):Ko (Sa a):=
 aX .o call92 func92 (aj (Hq a b) al) al al λs=>(show _=tx bk aM a s.1 s.2.1 s.2.2.1 s.2.2.2.1 s.2.2.2.2.1 s.2.2.2.2.2 from by kernel_rfl).trans ((congrArg (λc=>tx c aM a s.1 s.2.1 s.2.2.1 s.2.2.2.1 s.2.2.2.2.1 s.2.2.2.2.2) aJ).trans ((congrArg (λd=>tx id d a s.1 s.2.1 s.2.2.1 s.2.2.2.1 s.2.2.2.2.1 s.2.2.2.2.2) aN).trans (by kernel_rfl)))
def yp:aq:=⟨91,[eP,(.fn 92 [] [])],bF,[(true,0,cB)],U6 tZ⟩
def nu(f:Ex->Ex)(i:Sh->(R:Type)->Option R->Option R)(h:Q2->Option Q3)(l:Q6)(at_:Int)(d:aD)(a:Int)(g:Int)(c:Int):Option Q3:= bif decide (320<=a) then (cd 9 l at_ d a g c).bind λe=> some ((f e.1),at_,a,e.2.1,e.2.2) else (xo h l at_ d (i64.wrap (a+1)) g c).bind λb=> some ((f b.1),b.2.1,(i64.wrap (b.2.2.1-1)),b.2.2.2.1,b.2.2.2.2)
def yf:bP->bP:=λa s=>ym a s.1 s.2.1 s.2.2.1 s.2.2.2.1 s.2.2.2.2.1 s.2.2.2.2.2
theorem ER(a:bP)(b:fc a):(jY (yf a)).Ok X0.P X0.Γ:=
 aX .o call91 func91 (aj fi (aj (Kx a b) al)) al al λs=>(show _=nu bk aM a s.1 s.2.1 s.2.2.1 s.2.2.2.1 s.2.2.2.2.1 s.2.2.2.2.2 from by kernel_rfl).trans ((congrArg (λc=>nu c aM a s.1 s.2.1 s.2.2.1 s.2.2.2.1 s.2.2.2.2.1 s.2.2.2.2.2) aJ).trans ((congrArg (λd=>nu id d a s.1 s.2.1 s.2.2.1 s.2.2.2.1 s.2.2.2.2.1 s.2.2.2.2.2) aN).trans (by kernel_rfl)))
theorem HQ:Ko yp:=(show yp=jY (az (yf) aC) by kernel_rfl)▸dT (X:=X0) (E:=jY) ⟨call91,λ_ _ h=>nomatch h⟩ (ER) aC
def ZV:aq:=⟨58,[(.sli mX),an,(.sli .s)],(.cD [bF,an,an,an]),[],U3 Iq⟩
def BG(c:Ex->Ex)(d:Sh->(R:Type)->Option R->Option R)(l:Q6)(at_:Int)(b:aD):Option On:= (tZ l at_ b 0 0 0).bind λa=> bif a.2.2.2.1 != 0 then some ((Ex.mk 0 0 0 []),0,a.2.2.2.1,a.2.2.2.2) else some ((c a.1),a.2.1,0,0)
theorem UK:Ko ZV:=
 aX (.c (.r [6] .o) (.r [6] .o)) call58 func58 (aj HQ al) al al λs=>(show _=BG bk aM s.1 s.2.1 s.2.2 from by kernel_rfl).trans ((congrArg (λa=>BG a aM s.1 s.2.1 s.2.2) aJ).trans ((congrArg (λb=>BG id b s.1 s.2.1 s.2.2) aN).trans (by kernel_rfl)))
def ajj:aq:=⟨112,[fE],.bool,[],λs=>o8 s⟩
def Kh(a:Ex->Ex)(g:Sh->(R:Type)->Option R->Option R)(e:Ex):vb:= (j4 (a e)).bind λd=> ai (d.2.1==0) λf=> ai (d.1==2) λc=> ai (f&&c) λb=> some b
theorem Az:Ko ajj:=
 aX .o call112 func112 (aj oU al) al al λs=>(show _=Kh bk aM s from by kernel_rfl).trans ((congrArg (λa=>Kh a aM s) aJ).trans ((congrArg (λb=>Kh id b s) aN).trans (by kernel_rfl)))
def X8(a:G0):aq:=⟨185,[an,.bool,Wh,(.bx 261 0 true [Ax])],fE,[(true,3,Zq),(true,1003,Ax)],λs=>bz a s.1 s.2.1 s.2.2.1 s.2.2.2.1 s.2.2.2.2.1 s.2.2.2.2.2.1 s.2.2.2.2.2.2⟩
def xN(b:Ex->Ex)(e:Sh->(R:Type)->Option R->Option R)(d:N5->Option iQ)(i:Int)(not:Bool)(f:Int)(h:Int)(g:Int)(L:(List Ex))(x:Int):Option iQ:= (idx L i).bind λc=> (d ((b c),not,x)).bind λa=> some ((b a.1),a.2)
theorem Bw(a:G0)(b:alB a):Ko (X8 a):=
 aX (.r [3,6] .o) call185 func185 (aj b al) al al λs=>(show _=xN bk aM a s.1 s.2.1 s.2.2.1 s.2.2.2.1 s.2.2.2.2.1 s.2.2.2.2.2.1 s.2.2.2.2.2.2 from by kernel_rfl).trans ((congrArg (λc=>xN c aM a s.1 s.2.1 s.2.2.1 s.2.2.2.1 s.2.2.2.2.1 s.2.2.2.2.2.1 s.2.2.2.2.2.2) aJ).trans ((congrArg (λd=>xN id d a s.1 s.2.1 s.2.2.1 s.2.2.2.1 s.2.2.2.2.1 s.2.2.2.2.2.1 s.2.2.2.2.2.2) aN).trans (by kernel_rfl)))
def Y0:aq:=⟨186,[an,an,fE,fE,Mc,Wh],bF,[],U9 dR⟩
def Pv(d:Ex->Ex)(e:Sh->(R:Type)->Option R->Option R)(a:Ex)(b:Ex)(At:Int)(c:Int):Option Ex:= some (Ex.mk c 0 At ([(d a),(d b)]:List Ex))
def xn(f:Ex->Ex)(g:Sh->(R:Type)->Option R->Option R)(op:Int)(d:Int)(a:Ex)(b:Ex)(x:Bool)(h:Int)(i:Int)(At:Int)(j:(List Ex)):Option Ex:= ai (λ(e:Int)=>Pv f g a b At e) λc=> bif x then ( c d) else ( c op)
theorem PQ:Ko Y0:=
 aX (.s (.j ⟨[(false,0,an)],[]⟩ .o .o)) call186 func186 al al al λs=>(show _=xn bk aM s.1 s.2.1 s.2.2.1 s.2.2.2.1 s.2.2.2.2.1 s.2.2.2.2.2.1 s.2.2.2.2.2.2.1 s.2.2.2.2.2.2.2.1 s.2.2.2.2.2.2.2.2 from by kernel_rfl).trans ((congrArg (λa=>xn a aM s.1 s.2.1 s.2.2.1 s.2.2.2.1 s.2.2.2.2.1 s.2.2.2.2.2.1 s.2.2.2.2.2.2.1 s.2.2.2.2.2.2.2.1 s.2.2.2.2.2.2.2.2) aJ).trans ((congrArg (λb=>xn id b s.1 s.2.1 s.2.2.1 s.2.2.2.1 s.2.2.2.2.1 s.2.2.2.2.2.1 s.2.2.2.2.2.2.1 s.2.2.2.2.2.2.2.1 s.2.2.2.2.2.2.2.2) aN).trans (by kernel_rfl)))
def YI(a:G0):aq:=⟨188,[.bool,.bool,Wh,(.bx 304 0 true [(.fn 185 [] [(.ptr 0 0),(.bx 261 0 true [Ax])])])],bF,[(true,3,(.bx 304 0 true [.same])),(true,1003,Zq),(true,1004,Ax)],λs=>rq a s.1 s.2.1 s.2.2.1 s.2.2.2.1 s.2.2.2.2.1 s.2.2.2.2.2.1 s.2.2.2.2.2.2⟩
def xu(d:Ex->Ex)(g:Sh->(R:Type)->Option R->Option R)(e:N5->Option iQ)(x:Bool)(y:Bool)(f:Int)(N:Int)(At:Int)(L:(List Ex))(c:Int):Option iQ:= (bz e 0 x f N At L c).bind λb=> (bz e 1 y f N At L b.2).bind λa=> some ((Ex.mk 16 0 At ([(d b.1),(d a.1)]:List Ex)),a.2)
theorem QM(a:G0)(b:alB a):Ko (YI a):=
 aX (.r [3,6] .o) call188 func188 (aj (Bw a b) al) al al λs=>(show _=xu bk aM a s.1 s.2.1 s.2.2.1 s.2.2.2.1 s.2.2.2.2.1 s.2.2.2.2.2.1 s.2.2.2.2.2.2 from by kernel_rfl).trans ((congrArg (λc=>xu c aM a s.1 s.2.1 s.2.2.1 s.2.2.2.1 s.2.2.2.2.1 s.2.2.2.2.2.1 s.2.2.2.2.2.2) aJ).trans ((congrArg (λd=>xu id d a s.1 s.2.1 s.2.2.1 s.2.2.2.1 s.2.2.2.2.1 s.2.2.2.2.2.1 s.2.2.2.2.2.2) aN).trans (by kernel_rfl)))
def Za:aq:=⟨187,[an,an,(.bx 261 0 true [Ax]),Mc,Wh],bF,[(true,2,Zq),(true,1001,Ax)],λs=>ru s.1 s.2.1 s.2.2.2.1 s.2.2.2.2.1 s.2.2.2.2.2.1 s.2.2.2.2.2.2.1 s.2.2.2.2.2.2.2 s.2.2.1⟩
theorem PO:Ko Za:=
 aw .o call187 func187 al
def SY:aq:=⟨139,[fE,.bool,Ax],fE,[(true,2,Ax)],U3 PV⟩
def Yf(b:Ex->Ex)(i:Sh->(R:Type)->Option R->Option R)(h:N5->Option iQ)(e:Ex)(not:Bool)(c:Int)(a:Bool):Option iQ:= (bz h 0 a e.op e.n e.at_ e.l (i64.wrap (c-1))).bind λf=> (bz h 1 not e.op e.n e.at_ e.l f.2).bind λd=> (dR 17 16 (b f.1) (b d.1) not e.op e.n e.at_ e.l).bind λg=> some ((b g),d.2)
def Am(a:Ex->Ex)(C:Sh->(R:Type)->Option R->Option R)(c:N5->Option iQ)(e:Ex)(not:Bool)(b:Int):Option iQ:= bif decide ((i64.wrap (b-1))<0) then some ((Ex.mk 0 0 0 []),(i64.wrap (b-1))) else (o8 (a e)).bind λB=> bif B then ( bif not then ( some ((Ex.mk 15 0 e.at_ ([(a e)]:List Ex)),(i64.wrap (b-1)))) else ( some ((a e),(i64.wrap (b-1))))) else ( ai (λ(z:Bool)=>Yf a C c e not b z) λo=> bif e.op==15 then (bz c 0 (!not) e.op e.n e.at_ e.l (i64.wrap ((i64.wrap (b-1))+1))).bind λu=> some ((a u.1),u.2) else bif e.op==18 then o (!not) else bif e.op==17 then o not else bif e.op==16 then (bz c 0 not e.op e.n e.at_ e.l (i64.wrap (b-1))).bind λt=> (bz c 1 not e.op e.n e.at_ e.l t.2).bind λs=> (dR 16 17 (a t.1) (a s.1) not e.op e.n e.at_ e.l).bind λA=> some ((a A),s.2) else bif e.op==19 then (rq c false not e.op e.n e.at_ e.l (i64.wrap ((i64.wrap (b-1))-2))).bind λr=> (rq c true (!not) e.op e.n e.at_ e.l r.2).bind λq=> some ((Ex.mk 17 0 e.at_ ([(a r.1),(a q.1)]:List Ex)),q.2) else bif e.op==20 then (bz c 0 not e.op e.n e.at_ e.l (i64.wrap (b-1))).bind λp=> some ((Ex.mk 20 0 e.at_ ([(a p.1)]:List Ex)),p.2) else bif e.op==21 then (ru 13 14 not e.op e.n e.at_ e.l (i64.wrap (b-1))).bind λm=> (bz c 0 not e.op e.n e.at_ e.l m.2).bind λk=> (dR 23 24 (a m.1) (a k.1) not e.op e.n e.at_ e.l).bind λy=> some ((a y),k.2) else bif e.op==22 then (ru 14 13 not e.op e.n e.at_ e.l (i64.wrap (b-1))).bind λj=> (bz c 0 not e.op e.n e.at_ e.l j.2).bind λi=> (dR 24 23 (a j.1) (a i.1) not e.op e.n e.at_ e.l).bind λx=> some ((a x),i.2) else bif e.op==23 then (bz c 0 not e.op e.n e.at_ e.l (i64.wrap (b-1))).bind λh=> (bz c 1 not e.op e.n e.at_ e.l h.2).bind λg=> (dR 23 24 (a h.1) (a g.1) not e.op e.n e.at_ e.l).bind λw=> some ((a w),g.2) else (bz c 0 not e.op e.n e.at_ e.l (i64.wrap (b-1))).bind λf=> (bz c 1 not e.op e.n e.at_ e.l f.2).bind λd=> (dR 24 23 (a f.1) (a d.1) not e.op e.n e.at_ e.l).bind λv=> some ((a v),d.2))
def Sv:G0->G0:=λa s=>S3 a s.1 s.2.1 s.2.2
theorem Ut(a:G0)(b:alB a):(wq (Sv a)).Ok X0.P X0.Γ:=
 aX (.c .o (.c .o (.s (.s (.s (.s (.s (.s (.s (.s (.s (.s (.s (.s (.j ⟨[(true,6,Ip),(true,7,(.bx 304 0 true [.same])),(true,5,Zq),(true,2,(.bx 3 0 true [.same])),(false,10,.bool)],[]⟩ (.c .o (.c .o (.c .o (.c (.r [9,6] .o) (.c (.r [11,6] .o) (.c (.r [7,6] .o) (.c (.r [9,6] .o) (.c (.r [9,6] .o) (.c (.r [7,4,6] .o) (.r [7,4,6] .o)))))))))) (.r [7,4,6] .o)))))))))))))))) call139 func139 (aj Az (aj (Bw a b) (aj PQ (aj (QM a b) (aj PO al))))) al al λs=>(show _=Am bk aM a s.1 s.2.1 s.2.2 from by kernel_rfl).trans ((congrArg (λd=>Am d aM a s.1 s.2.1 s.2.2) aJ).trans ((congrArg (λe=>Am id e a s.1 s.2.1 s.2.2) aN).trans (by kernel_rfl)))
theorem YN:Ko SY:=(show SY=wq (az (Sv) aC) by kernel_rfl)▸dT (X:=X0) (E:=wq) ⟨call139,λ_ _ h=>nomatch h⟩ (Ut) aC
def agy:aq:=⟨93,[fE,.bool],(.cD [fE,an]),[],U2 QC⟩
def Ii(b:Ex->Ex)(c:Sh->(R:Type)->Option R->Option R)(e:Ex)(not:Bool):Option iQ:= (PV (b e) not 24).bind λa=> bif decide (a.2<0) then some ((Ex.mk 0 0 0 []),9) else some ((b a.1),0)
theorem Yt:Ko agy:=
 aX .o call93 func93 (aj YN al) al al λs=>(show _=Ii bk aM s.1 s.2 from by kernel_rfl).trans ((congrArg (λa=>Ii a aM s.1 s.2) aJ).trans ((congrArg (λb=>Ii id b s.1 s.2) aN).trans (by kernel_rfl)))
def ajm:aq:=⟨60,[fE],(.cD [fE,an]),[],λs=>E7 s⟩
def Lc(a:Ex->Ex)(c:Sh->(R:Type)->Option R->Option R)(e:Ex):Option iQ:= (QC (a e) true).bind λb=> some ((a b.1),b.2)
theorem JJ:Ko ajm:=
 aX .o call60 func60 (aj Yt al) al al λs=>(show _=Lc bk aM s from by kernel_rfl).trans ((congrArg (λa=>Lc a aM s) aJ).trans ((congrArg (λb=>Lc id b s) aN).trans (by kernel_rfl)))
def RF:aq:=⟨43,[.str,(.sli .s)],(.cD [fE,an,an]),[],U2 IG⟩
def uC(d:Ex->Ex)(j:Sh->(R:Type)->Option R->Option R)(f:aF)(c:aD):Option (Ex×Int×Int):= (y7 f).bind λe=> bif e.2.1 != 0 then some ((Ex.mk 0 0 0 []),e.2.1,e.2.2) else (Iq e.1 0 c).bind λa=> bif a.2.2.1 != 0 then some ((Ex.mk 0 0 0 []),a.2.2.1,a.2.2.2) else (idx e.1 a.2.1).bind λi=> bif i.1 != 4 then (idx e.1 a.2.1).bind λh=> some ((Ex.mk 0 0 0 []),2,h.2.2.2) else (j4 (d a.1)).bind λb=> bif b.2.1 != 0 then some ((Ex.mk 0 0 0 []),b.2.1,b.2.2) else bif b.1==1 then some ((Ex.mk 0 0 0 []),4,a.1.at_) else (E7 (d a.1)).bind λg=> bif g.2 != 0 then some ((Ex.mk 0 0 0 []),g.2,a.1.at_) else some ((d a.1),0,0)
theorem KZ:Ko RF:=
 aX (.c .o (.c .o (.c (.r [4] .o) (.c .o (.c (.r [4] .o) (.c (.r [4] .o) .o)))))) call43 func43 (aj CR (aj UK (aj oU (aj JJ al)))) al al λs=>(show _=uC bk aM s.1 s.2 from by kernel_rfl).trans ((congrArg (λa=>uC a aM s.1 s.2) aJ).trans ((congrArg (λb=>uC id b s.1 s.2) aN).trans (by kernel_rfl)))
def Js:aq:=⟨42,[agE,an,an,aS],.bool,[(true,0,agn)],λs=>iS (d8 (d8 s)).2.2.2.2.2.2.2.1 (d8 (d8 (d8 s))).1 (d8 (d8 (d8 s))).2 s.1 s.2.1 s.2.2.1 s.2.2.2.1 s.2.2.2.2.1 s.2.2.2.2.2.1 s.2.2.2.2.2.2.1 s.2.2.2.2.2.2.2.1 s.2.2.2.2.2.2.2.2.1 (d8 s).2.1 (d8 s).2.2.1 (d8 s).2.2.2.1 (d8 s).2.2.2.2.1 (d8 s).2.2.2.2.2.1 (d8 s).2.2.2.2.2.2.1 (d8 s).2.2.2.2.2.2.2.1 (d8 (d8 s)).1 (d8 (d8 s)).2.1 (d8 (d8 s)).2.2.1 (d8 (d8 s)).2.2.2.1 (d8 (d8 s)).2.2.2.2.1 (d8 (d8 s)).2.2.2.2.2.1 (d8 (d8 s)).2.2.2.2.2.2.1⟩
theorem gP:Ko Js:=
 aw .o call42 func42 al
def M7:aq:=⟨34,[(.bx 81 0 true [.str,.str,an,an,an,nU,an,an,A8,HN,fp,A8,Pw,an,an,an,(.own .ex 79 true),an,an,an,fp,iq,iq])],.bool,[(true,0,(.bx 81 0 true [.same,.same,.same,.same,.same,.same,.same,.same,(.sli .s),gz,aS,(.sli .s),(.sli sb),an,an,an,(.sli .ex),an,an,an,aS,iq,iq]))],λs=>Dl s.1 s.2.1 s.2.2.1 s.2.2.2.1 s.2.2.2.2.1 s.2.2.2.2.2.1 s.2.2.2.2.2.2.1 s.2.2.2.2.2.2.2.1 s.2.2.2.2.2.2.2.2.1 (d8 s).2.1 (d8 s).2.2.1 (d8 s).2.2.2.1 (d8 s).2.2.2.2.1 (d8 s).2.2.2.2.2.1 (d8 s).2.2.2.2.2.2.1 (d8 s).2.2.2.2.2.2.2.1 (d8 (d8 s)).1 (d8 (d8 s)).2.1 (d8 (d8 s)).2.2.1 (d8 (d8 s)).2.2.2.1 (d8 (d8 s)).2.2.2.2.1 (d8 (d8 s)).2.2.2.2.2.1 (d8 (d8 s)).2.2.2.2.2.2⟩
theorem Hg:Ko M7:=
 aw (.c .o (.r [40000] .o)) call34 func34 (aj Pl (aj Jo (aj KZ (aj gP al))))
def Ly:aq:=⟨95,[gz,(.fn 96 [] [])],dP,[],λs=>AN s⟩
theorem FK:Ko Ly:=
 aw (.l ⟨[(true,5,dP),(false,13,an)],[]⟩ .o) call95 func95 (aj tX al)
def VD:aq:=⟨61,[gz],.bool,[],λs=>Af s⟩
theorem yi:Ko VD:=
 aw .o call61 func61 (aj FK (aj fV al))
def Yw:aq:=⟨62,[],(.sli .n),[],λ_=>we⟩
theorem A0:Ko Yw:=
 aw .o call62 func62 al
def pY:aq:=⟨63,[gz],HN,[],λs=>fC s⟩
def pS(s:Q8):Option Q8:= vD s ( some []) ( aI (aH (List.length ([]:List cu)+List.length s) 16)<| some (([]:List cu)++s))
theorem gO:Ko pY:=
 aX .o call63 func63 al al al λs=>(show _=pS s from by kernel_rfl).trans kf
def N6:aq:=⟨256,[an],(.cD [(.dat eN [some 109,some 7]),an]),[],λs=>nZ s⟩
theorem vM:Ko N6:=
 aw .o call256 func256 al
def af1:aq:=⟨251,[an],(.cD [(.dat (.p eN gr) [some 109,some 7,some 11]),an]),[],λs=>ZZ s⟩
theorem Yb:Ko af1:=
 aw .o call251 func251 (aj vM al)
def Jv:aq:=⟨245,[lB,kL,wu],(.cD [(.dat Sx [none,some 109,some 7,some 11,none,none,none,none,none,none,none,none,none,none,none,none,none,none,none]),an]),[],U3 yq⟩
theorem DF:Ko Jv:=
 aw .o call245 func245 (aj Yb al)
def Hn:aq:=⟨291,[gz,an],(.cD [(.dat RX [some 193,some 109,some 7,some 11]),an]),[],U2 aaV⟩
def YU(g:Nat)(s:Q8)(e:Int)(f:(Q7×Int))(a:((List Q7)×Int)->Option (uZ×Int)):(List Q7)×Int->Option (uZ×Int):=λ⟨b,c⟩=> bif decide (c<(i64.wrap (Int.tdiv (i64.wrap ((i64.wrap ((s.length:Int)+2))-1)) 2))) then (nZ e).bind λd=> aI (aH (List.length b+List.length ([d.1]:List Q7)) 56)<| a ((b++([d.1]:List Q7)),(i64.wrap (c+1))) else some ((b,f.1,[]),0)
def afS(fl:Nat)(s:Q8)(a:Int):Option (uZ×Int):= (nZ a).bind λb=> bif b.2 != 0 then some (([],(0,[],[]),[]),b.2) else az (YU fl s a b) fl ([],0)
theorem Wk(fl:Nat)(s:eo (lV Hn.ps)):Z5 { X0 with fl:=fl } [N6] [] [] (.c .o (.l ⟨[(true,4,agb),(true,8,agq),(false,27,an)],[]⟩ .o)) Tryz.f291 Hn s=afS fl s.1 s.2:=by kernel_rfl
theorem Zg:Ko Hn:=
 aX (.c .o (.l ⟨[(true,4,agb),(true,8,agq),(false,27,an)],[]⟩ .o)) call291 func291 (aj vM al) al al λs=>(Wk aC s).trans (by kernel_rfl)
def Ih:aq:=⟨285,[lB,kL,wu],(.cD [(.dat Sx [none,none,none,none,some 193,some 109,some 7,some 11,none,none,none,none,none,none,none,none,none,none,none]),an]),[],U3 wN⟩
theorem Cj:Ko Ih:=
 aw .o call285 func285 (aj Zg al)
def ady:aq:=⟨313,[an],(.cD [(.dat eN [some 109,some 7]),an]),[],λs=>W3 s⟩
theorem WK:Ko ady:=
 aw .o call313 func313 (aj vM al)
def Ot:aq:=⟨314,[an],an,[],λs=>C2 s⟩
def NY:aaM->aaM:=λa s=>OF a s
theorem QP(a:aaM)(b:ap7 a):(ua (NY a)).Ok X0.P X0.Γ:=
 aw .o call314 func314 (aj b al)
theorem vN:Ko Ot:=(show Ot=ua (az (NY) aC) by kernel_rfl)▸dT (X:=X0) (E:=ua) ⟨call314,λ_ _ h=>nomatch h⟩ (QP) aC
def af5:aq:=⟨309,[gz,an],(.cD [(.dat Sc [some 699,some 11]),an]),[],U2 Z2⟩
theorem XZ:Ko af5:=
 aw (.c .o (.r [30000,20006] (.l ⟨[(true,4,(.bx 104 0 true [.same,.same])),(true,8,(.bx 104 0 true [(.own eN 349 true),.same])),(false,23,an)],[]⟩ .o))) call309 func309 (aj WK (aj vN al))
def HV:aq:=⟨303,[lB,kL,wu],(.cD [(.dat Sx [none,none,none,none,none,none,none,none,some 699,some 11,none,none,none,none,none,none,none,none,none]),an]),[],U3 wF⟩
theorem B2:Ko HV:=
 aw .o call303 func303 (aj XZ al)
def adi:aq:=⟨275,[nU],an,[],λs=>Lg s⟩
theorem FF:Ko adi:=
 aw (.l ⟨[(false,0,nU),(false,3,an)],[]⟩ .o) call275 func275 al
def Lj:aq:=⟨267,[(.dat dC [])],an,[],λs=>AY s⟩
theorem EZ:Ko Lj:=
 aw .o call267 func267 (aj FF al)
def NG:aq:=⟨266,[gz,(.fn 267 [] [])],fp,[],λs=>uf s⟩
theorem tK:Ko NG:=
 aw (.l ⟨[(true,5,fp),(false,13,an)],[]⟩ .o) call266 func266 (aj EZ al)
def Yq:aq:=⟨278,[gz],an,[],λs=>OI s⟩
theorem QR:Ko Yq:=
 aw (.l ⟨[(false,3,an),(false,9,an)],[]⟩ .o) call278 func278 (aj tK al)
def VS:aq:=⟨269,[gz],an,[],λs=>AI s⟩
theorem x7:Ko VS:=
 aw .o call269 func269 (aj QR al)
def aiq:aq:=⟨336,[an],(.cD [(.dat vR [some 705,some 7]),an]),[],λs=>afd s⟩
theorem ab4:Ko aiq:=
 aw .o call336 func336 al
def Jl:aq:=⟨330,[lB,kL,wu],yX,[],U3 yk⟩
theorem EU:Ko Jl:=
 aw (.c .o (.l ⟨[(true,4,(.bx 113 0 true [.same,.same,.same,.same,.same,.same,.same,.same,.same,.same,.same,.same,.same,.same,an,(.sli ky),an,an,aS,an,(.sli ky),an,an,aS,an,(.sli ky),an,an,aS,.same,.same,.same,.same,.same,.same])),(true,6,(.bx 113 0 true [.same,.same,.same,.same,.same,.same,.same,.same,.same,.same,.same,.same,.same,.same,.same,.same,.same,.same,.same,.same,.same,.same,.same,.same,.same,.same,.same,.same,.same,.same,.same,.same,.same,.same,.same])),(false,18,an)],[]⟩ .o)) call330 func330 (aj x7 (aj ab4 al))
def ahc:aq:=⟨370,[an,an,nU],(.cD [(.dat ED [some 11,some 11,some 11]),an]),[],U3 ZW⟩
theorem YK:Ko ahc:=
 aw (.c .o (.l ⟨[(true,6,(.bx 111 0 true [.same,.same,.same,.same,.same,.same])),(true,8,(.bx 111 0 true [.same,.same,.same,fW,fW,fW])),(false,29,an)],[]⟩ .o)) call370 func370 al
def Jg:aq:=⟨364,[lB,kL,wu],yX,[],U3 yl⟩
theorem Ei:Ko Jg:=
 aw .o call364 func364 (aj YK al)
def adh:aq:=⟨44,[gz,wu],yX,[],U2 C6⟩
theorem vw:Ko adh:=
 aw (.r [] (.c .o (.r [3,40000] .o))) call44 func44 (aj yi (aj A0 (aj gO (aj DF (aj Cj (aj B2 (aj EU (aj Ei al))))))))
def Jm:aq:=⟨35,[agE],.bool,[(true,0,agn)],λs=>yd s.1 s.2.1 s.2.2.1 s.2.2.2.1 s.2.2.2.2.1 s.2.2.2.2.2.1 s.2.2.2.2.2.2.1 s.2.2.2.2.2.2.2.1 s.2.2.2.2.2.2.2.2.1 (d8 s).2.1 (d8 s).2.2.1 (d8 s).2.2.2.1 (d8 s).2.2.2.2.1 (d8 s).2.2.2.2.2.1 (d8 s).2.2.2.2.2.2.1 (d8 s).2.2.2.2.2.2.2.1 (d8 (d8 s)).1 (d8 (d8 s)).2.1 (d8 (d8 s)).2.2.1 (d8 (d8 s)).2.2.2.1 (d8 (d8 s)).2.2.2.2.1 (d8 (d8 s)).2.2.2.2.2.1 (d8 (d8 s)).2.2.2.2.2.2⟩
theorem EM:Ko Jm:=
 aw (.r [40000] (.j ⟨[(false,4,an)],[]⟩ .o .o)) call35 func35 (aj vw (aj gP al))
def O0:aq:=⟨97,[gz,aS],an,[],U2 ie⟩
theorem eU:Ko O0:=
 aw (.c .o (.l ⟨[(false,14,an)],[]⟩ .o)) call97 func97 (aj lX al)
def af6:aq:=⟨98,[kL],.ifn,[],λs=>HE s⟩
theorem xM:Ko af6:=
 aw (.r [1] .o) call98 func98 (aj A0 al)
def YB:aq:=⟨271,[di],fW,[],λs=>DI s⟩
def YD(b:Q1):Option Q1:= vD b ( some []) ( aI (aH (List.length ([]:xi)+List.length b) 1)<| some (([]:xi)++b))
theorem AU:Ko YB:=
 aX .o call271 func271 al al al λs=>(show _=YD s from by kernel_rfl).trans kf
def ahG:aq:=⟨276,[(.dat rE [none])],Zt,[],λs=>aev s⟩
theorem abi:Ko ahG:=
 aw .o call276 func276 (aj AU al)
def V7:aq:=⟨277,[Zt,.bool],ew,[(true,0,Zt)],λs=>LP s.2.2 s.1 s.2.1⟩
theorem M9:Ko V7:=
 aw (.j ⟨[(true,0,(.bx 395 0 true [fW,.same]))],[]⟩ .o (.j ⟨[(true,0,(.bx 395 0 true [fW,.same]))],[]⟩ (.c (.r [0] .o) .o) .o)) call277 func277 al
def afr:aq:=⟨268,[(.dat rE [none]),nU,an],(.cD [(.dat rE [none]),an]),[],U3 abg⟩
theorem Y8:Ko afr:=
 aw (.c .o (.c .o (.l ⟨[(true,6,(.bx 374 0 true [.same,.same])),(true,8,Zt),(false,9,an)],[]⟩ (.c (.r [8] .o) .o)))) call268 func268 (aj FF (aj abi (aj M9 al)))
def CL:aq:=⟨259,[gz,aS],(.cD [fW,an]),[],U2 mG⟩
theorem oF:Ko CL:=
 aw (.c .o (.l ⟨[(true,7,(.bx 374 0 true [di,an])),(false,20,an)],[]⟩ (.c (.r [7] .o) .o))) call259 func259 (aj eU (aj tK (aj Y8 (aj x7 al))))
def adf:aq:=⟨253,[kL,aS],di,[],U2 eQ⟩
theorem dV:Ko adf:=
 aw .o call253 func253 (aj oF al)
def Ye:aq:=⟨282,[GN],ew,[(true,0,GN)],λs=>N8 s⟩
theorem Qc:Ko Ye:=
 aw .o call282 func282 al
def Yr:aq:=⟨283,[GN],ew,[(true,0,GN)],λs=>OH s⟩
theorem Pe:Ko Yr:=
 aw .o call283 func283 al
def Zi:aq:=⟨284,[GN],ew,[(true,0,GN)],λs=>Oe s⟩
theorem PK:Ko Zi:=
 aw .o call284 func284 al
def ahx:aq:=⟨280,[di,nU],nU,[],U2 Il⟩
theorem xx:Ko ahx:=
 aw (.l ⟨[(true,5,GN),(false,15,an)],[]⟩ (.c .o (.n 50 .o))) call280 func280 (aj Qc (aj Pe (aj PK al)))
def adn:aq:=⟨279,[nU,an],an,[],U2 Dh⟩
theorem vz:Ko adn:=
 aw .o call279 func279 al
def Zb:aq:=⟨281,[di,di],.bool,[],U2 Dw⟩
theorem Av:Ko Zb:=
 aw .o call281 func281 al
def MV:aq:=⟨273,[DN,di],an,[],U2 tP⟩
theorem ux:Ko MV:=
 aw (.n 0 (.j ⟨[(false,5,an)],[]⟩ .o .o)) call273 func273 (aj xx (aj vz (aj Av al)))
def MX:aq:=⟨274,[DN,di],A5,[],U2 CO⟩
theorem H7:Ko MX:=
 aw .o call274 func274 (aj ux al)
def Z4:aq:=⟨265,[DN,di],A5,[],U2 jZ⟩
theorem j8:Ko Z4:=
 aw .o call265 func265 (aj H7 al)
def H4:aq:=⟨273,[(.dat eN [some 108,some 6]),di],an,[],U2 xk⟩
theorem Ca:Ko H4:=
 aw (.n 0 (.j ⟨[(false,5,an)],[]⟩ .o .o)) call273 func273 (aj xx (aj vz (aj Av al)))
def Kw:aq:=⟨272,[(.bx 384 0 true [an,(.own gr 54 true),aS]),an],ew,[(true,0,(.bx 384 0 true [.same,(.own gr 54 true),aS]))],λs=>Aj s.2.2.2 s.1 s.2.1 s.2.2.1⟩
theorem E9:Ko Kw:=
 aw (.l ⟨[(true,0,(.bx 384 0 true [.same,(.own gr 54 true),fp])),(false,18,(.slr 1)),(false,20,an)],[]⟩ (.c (.r [0] .o) .o)) call272 func272 (aj Ca al)
def EI:aq:=⟨101,[aS],fp,[],λs=>cW s⟩
def DT(s:Q1):Option Q1:= vD s ( some []) ( aI (aH (List.length ([]:xi)+List.length s) 8)<| some (([]:xi)++s))
theorem dv:Ko EI:=
 aX .o call101 func101 al al al λs=>(show _=DT s from by kernel_rfl).trans kf
def Gm:aq:=⟨260,[DN,di],(.cD [DN,an,.bool,an]),[],U2 fX⟩
theorem pW:Ko Gm:=
 aw (.c .o (.c .o (.s (.s (.j ⟨[(true,11,(.bx 384 0 true [.same,(.own gr 54 true),aS]))],[2]⟩ (.c .o (.r [11] .o)) .o))))) call260 func260 (aj j8 (aj AU (aj E9 (aj dv (aj ux al)))))
def Yu:aq:=⟨254,[QU,di],(.cD [QU,.bool,an]),[],U2 Ov⟩
theorem PU:Ko Yu:=
 aw (.c .o (.r [4,40000] .o)) call254 func254 (aj pW al)
def HL:aq:=⟨247,[lB,kL,aS],Mn,[],U3 wP⟩
theorem B3:Ko HL:=
 aw (.r [40000] .o) call247 func247 (aj dV (aj PU al))
def IH:aq:=⟨299,[gz,aS],(.fn 302 [] [(.bx 73 0 true [gz]),Zp]),[],U2 wv⟩
theorem AK:Ko IH:=
 aw .o call299 func299 al
def IN:aq:=⟨300,[fW,aS],fW,[],U2 wb⟩
theorem Bf:Ko IN:=
 aw (.l ⟨[(false,0,fW),(false,10,an)],[]⟩ (.c (.l ⟨[(false,0,fW),(false,14,an)],[]⟩ .o) .o)) call300 func300 al
def Om:aq:=⟨296,[KB,gz,aS],an,[],U3 CJ⟩
theorem Xg:(⟨302,Tryz.f302⟩:jE).Ok X0.P:=⟨call302,func302⟩
theorem E6:Ko Om:=
 aX (.c (.c (.l ⟨[(false,4,an),(true,10006,Ax),(true,10007,(.bx 54 0 true [fW]))],[]⟩ .o) .o) (.r [70000,6,7] .o)) call296 func296 (aj AK (aj oF (aj j8 (aj Bf al)))) al (aj Xg al) λ_=>by kernel_rfl
def acD:aq:=⟨301,[DN],an,[],λs=>Im s⟩
theorem Cw:Ko acD:=
 aw .o call301 func301 al
def OC:aq:=⟨297,[KB],an,[],λs=>Ku s⟩
theorem V6:Ko OC:=
 aw .o call297 func297 (aj Cw al)
def iL:aq:=⟨298,[(.sli eN)],(.own eN 96 true),[],λs=>fA s⟩
def pE(s:(List Q7)):Option (List Q7):= vD s ( some []) ( aI (aH (List.length ([]:List Q7)+List.length s) 56)<| some (([]:List Q7)++s))
theorem nK:Ko iL:=
 aX .o call298 func298 al al al λs=>(show _=pE s from by kernel_rfl).trans kf
def xC:aq:=⟨293,[KB,gz,aS],(.cD [KB,.bool,an]),[],U3 NS⟩
def Qg(n:Nat)(c:uZ)(o:Q8)(b:(Q8×Q1))(e:(Int×(List Q7)×Q1)->Option Q61):Int×(List Q7)×Q1->Option Q61:=λ⟨a,d,j⟩=> bif decide ((i64.wrap (a*2))<(b.1.length:Int)) then aI (dp (i64.wrap (a*2)) (min (b.1.length:Int) (i64.wrap ((i64.wrap (a+1))*2))) (List.length b.1))<| aI (dp (i64.wrap (a*2)) (min (b.1.length:Int) (i64.wrap ((i64.wrap (a+1))*2))) (List.length b.2))<| (mG (bC b.1 (i64.wrap (a*2)) (min (b.1.length:Int) (i64.wrap ((i64.wrap (a+1))*2)))) (bC b.2 (i64.wrap (a*2)) (min (b.1.length:Int) (i64.wrap ((i64.wrap (a+1))*2))))).bind λk=> (idx d a).bind λl=> (fX l k.1).bind λf=> (wb j ([f.2.1]:xi)).bind λg=> (idx d a).bind λm=> bif !true then (fX c.2.1 g).bind λi=> aI (jB 0 (c.2.2.length:Int) (c.2.2.length:Int) (List.length c.2.2)&&((c.2.2.length:Int)==(c.2.2.length:Int)))<| aI (aH (List.length (bC c.2.2 0 (c.2.2.length:Int))+List.length ([0]:xi)) 1)<| some (((List.set d (Int.toNat a) f.1),i.1,((bC c.2.2 0 (c.2.2.length:Int))++([0]:xi))),true,0) else e ((i64.wrap (a+1)),(List.set d (Int.toNat a) f.1),g) else (fX c.2.1 j).bind λh=> aI (jB 0 (c.2.2.length:Int) (c.2.2.length:Int) (List.length c.2.2)&&((c.2.2.length:Int)==(c.2.2.length:Int)))<| aI (aH (List.length (bC c.2.2 0 (c.2.2.length:Int))+List.length ([0]:xi)) 1)<| some ((d,h.1,((bC c.2.2 0 (c.2.2.length:Int))++([0]:xi))),true,0)
def YL(fl:Nat)(c:uZ)(s:Q8)(a:Q1):Option Q61:= (ie s a).bind λb=> bif b != 0 then some (c,false,b) else (CJ c s a).bind λg=> bif decide (0<=g) then some (c,false,0) else (Ku c).bind λf=> bif decide (c.2.1.1<=f) then some (c,false,7) else (fA c.1).bind λe=> (wv s a).bind λd=> az (Qg fl c s d) fl (0,e,[])
theorem MT(fl:Nat)(s:eo (lV xC.ps)):Z5 { X0 with fl:=fl } [O0,Om,OC,iL,IH,CL,Gm,IN] [] [⟨302,Tryz.f302⟩] (.c .o (.c .o (.r [] (.c .o (.c (.c (.l ⟨[(false,4,an),(true,10003,agq),(true,10006,agb),(true,10010,(.bx 54 0 true [fW]))],[]⟩ .o) (.r [10,3] .o)) (.r [70000,3,6,10] .o)))))) Tryz.f293 xC s=YL fl s.1 s.2.1 s.2.2:=by kernel_rfl
theorem PX:Ko xC:=
 aX (.c .o (.c .o (.r [] (.c .o (.c (.c (.l ⟨[(false,4,an),(true,10003,agq),(true,10006,agb),(true,10010,(.bx 54 0 true [fW]))],[]⟩ .o) (.r [10,3] .o)) (.r [70000,3,6,10] .o)))))) call293 func293 (aj eU (aj E6 (aj V6 (aj nK (aj AK (aj oF (aj pW (aj Bf al)))))))) al (aj Xg al) λs=>(MT aC s).trans (by kernel_rfl)
def FY:aq:=⟨287,[lB,kL,aS],Mn,[],U3 vm⟩
theorem Ak:Ko FY:=
 aw .o call287 func287 (aj PX al)
def WJ:aq:=⟨321,[gz,aS],(.own (.i .u32) 38 true),[],U2 Aq⟩
theorem xY:Ko WJ:=
 aw (.l ⟨[(false,5,(.own (.i .u32) 38 true)),(false,10,an)],[]⟩ .o) call321 func321 al
def agS:aq:=⟨328,[jz,jz],(.dat Vj []),[],U2 P7⟩
theorem IE:Ko agS:=
 aw (.l ⟨[(true,4,(.bx 443 0 true [.same,.same,.same,.same,.same,.same,.same,.same])),(true,5,(.bx 443 0 true [ic,ic,ic,ic,ic,ic,ic,ic])),(false,7,an)],[]⟩ (.c (.r [5] .o) .o)) call328 func328 al
def QH:aq:=⟨329,[(.dat Vj [])],di,[],λs=>vV s⟩
theorem vn:Ko QH:=
 aw .o call329 func329 al
def acx:aq:=⟨327,[DN,jz,jz],A5,[],U3 SJ⟩
theorem RG:Ko acx:=
 aw .o call327 func327 (aj IE (aj vn (aj j8 al)))
def Qt:bH:=⟨323,[afv,an,jz,jz],Df,none,false,false,jz,[],λs=>vB s.2.1 s.2.2.1 s.2.2.2 s.1⟩
theorem vk:pw Qt:=
 aa2 .o call323 func323 (aj RG al)
def AO:bH:=⟨326,[afv,an,Mt],Df,none,false,false,jz,[],λs=>F2 s.2.1 s.2.2 s.1⟩
def Aw:acz->acz:=λa s=>Bn a s.1 s.2.1 s.2.2
theorem Fq(a:acz)(b:ap8 a):(kP (Aw a)).Ok X0.P X0.Γ:=
 oz (.c .o (.r [0] .o)) call326 func326 (aj vN al) (aj b (aj vk al)) al λ_=>by kernel_rfl
theorem Ja:pw AO:=(show AO=kP (az (Aw) aC) by kernel_rfl)▸aaL (X:=X0) (E:=kP) ⟨call326,λ_ _ h=>nomatch h⟩ (Fq) aC
def M6:bH:=⟨320,[afv,Mt],Df,none,false,false,jz,[],λs=>CU s.2 s.1⟩
theorem G2:pw M6:=
 oz (.c (.r [0] .o) .o) call320 func320 al (aj vk (aj Ja al)) al λ_=>by kernel_rfl
def adN:aq:=⟨316,[J3,gz,aS],A5,[],U3 K3⟩
theorem aiP:(⟨322,Tryz.f322⟩:jE).Ok X0.P:=⟨call322,func322⟩
theorem Gh:Ko adN:=
 aX .o call316 func316 (aj xY al) (aj G2 al) (aj aiP al) λ_=>by kernel_rfl
def ZM:aq:=⟨324,[DN],an,[],λs=>Sy s⟩
theorem Sg:Ko ZM:=
 aw .o call324 func324 (aj Cw al)
def adX:aq:=⟨317,[J3],an,[],λs=>XJ s⟩
theorem Wj:Ko adX:=
 aw .o call317 func317 (aj Sg al)
def pX:aq:=⟨318,[(.sli eN)],(.own eN 349 true),[],λs=>jw s⟩
def pJ(s:(List Q7)):Option (List Q7):= vD s ( some []) ( aI (aH (List.length ([]:List Q7)+List.length s) 56)<| some (([]:List Q7)++s))
theorem nI:Ko pX:=
 aX .o call318 func318 al al al λs=>(show _=pJ s from by kernel_rfl).trans kf
def Vi:aq:=⟨325,[DN,jz,jz],(.cD [DN,an,.bool,an]),[],U3 KT⟩
theorem Nr:Ko Vi:=
 aw (.r [40000] .o) call325 func325 (aj IE (aj vn (aj pW al)))
def LA:aq:=⟨319,[afK,an,jz,jz],jz,[(true,0,af9)],λs=>rH s.2.1 s.2.2.1 s.2.2.2 s.1⟩
theorem sM:Ko LA:=
 aw (.r [0] .o) call319 func319 (aj Nr al)
def u4:aq:=⟨326,[afK,an,Mt],jz,[(true,0,af9)],λs=>yb s.2.1 s.2.2 s.1⟩
def u7:acY->acY:=λa s=>vj a s.1 s.2.1 s.2.2
theorem BC(a:acY)(b:ap5 a):(jc (u7 a)).Ok X0.P X0.Γ:=
 aw (.c .o (.r [0] .o)) call326 func326 (aj b (aj vN (aj sM al)))
theorem DM:Ko u4:=(show u4=jc (az (u7) aC) by kernel_rfl)▸dT (X:=X0) (E:=jc) ⟨call326,λ_ _ h=>nomatch h⟩ (BC) aC
def GP:aq:=⟨320,[afK,Mt],jz,[(true,0,af9)],λs=>w7 s.2 s.1⟩
theorem BW:Ko GP:=
 aw (.c (.r [0] .o) .o) call320 func320 (aj sM (aj DM al))
def YR:aq:=⟨311,[J3,gz,aS],(.cD [J3,.bool,an]),[],U3 Og⟩
theorem PJ:Ko YR:=
 aw (.c .o (.c .o (.r [] (.c .o (.r [6,40000] .o))))) call311 func311 (aj eU (aj Gh (aj Wj (aj nI (aj xY (aj BW al))))))
def FO:aq:=⟨305,[lB,kL,aS],Mn,[],U3 vh⟩
theorem BM:Ko FO:=
 aw .o call305 func305 (aj PJ al)
def QT:aq:=⟨353,[ic],.bool,[],λs=>vC s⟩
theorem I8:Ko QT:=
 aw .o call353 func353 al
def JA:aq:=⟨347,[ic,ic],an,[],U2 rT⟩
theorem sN:Ko JA:=
 aw .o call347 func347 (aj I8 al)
def adH:aq:=⟨346,[(.dat jG []),ic],an,[],U2 KE⟩
theorem Vz:Ko adH:=
 aw .o call346 func346 (aj sN al)
def ji:aq:=⟨345,[(.sli jG),ic,(.fn 346 [] [])],A5,[],U2 dm⟩
theorem dW:Ko ji:=
 aw (.l ⟨[(false,9,an),(false,10,an)],[]⟩ .o) call345 func345 (aj Vz al)
def ajH:aq:=⟨341,[RQ,an,ic],an,[],U3 ahJ⟩
theorem ad5:Ko ajH:=
 aw .o call341 func341 (aj dW al)
def ai3:aq:=⟨338,[RQ,di],.bool,[],U2 vZ⟩
theorem uc:Ko ai3:=
 aw (.l ⟨[(false,5,an),(false,12,an)],[]⟩ .o) call338 func338 (aj ad5 al)
def afV:aq:=⟨339,[RQ],an,[],λs=>abo s⟩
theorem Yj:Ko afV:=
 aw .o call339 func339 al
def rQ:aq:=⟨342,[(.sli ky)],(.own ky 352 true),[],λs=>kb s⟩
def rG(s:Q4):Option Q4:= vD s ( some []) ( aI (aH (List.length ([]:List (Q8×Int))+List.length s) 32)<| some (([]:List (Q8×Int))++s))
theorem o9:Ko rQ:=
 aX .o call342 func342 al al al λs=>(show _=rG s from by kernel_rfl).trans kf
def rU:aq:=⟨359,[(.sli jG),(.sli jG)],.bool,[],U2 kg⟩
theorem oY:Ko rU:=
 aw (.c .o (.l ⟨[(false,13,an)],[]⟩ .o)) call359 func359 al
def UJ:aq:=⟨354,[(.bx 457 0 false [an,(.own ky 352 false),an,an,H8,(.mp bd .bo false)]),(.sli jG)],A5,[],λs=>Iw s.2.2.2.2.2.2 s.1 s.2.1 s.2.2.1 s.2.2.2.1 s.2.2.2.2.1 s.2.2.2.2.2.1⟩
theorem JZ:Ko UJ:=
 aw (.l ⟨[(false,14,an)],[]⟩ .o) call354 func354 (aj oY al)
def GR:aq:=⟨384,[H8],an,[],λs=>oC s⟩
theorem pr:Ko GR:=
 aw .o call384 func384 al
def Ge:aq:=⟨386,[fp,an,an],ew,[(true,0,fp)],U3 jC⟩
theorem jv:Ko Ge:=
 aw (.r [0] .o) call386 func386 al
def F7:aq:=⟨385,[H8,an,an],.bool,[],U3 jy⟩
theorem nS:Ko F7:=
 aw .o call385 func385 al
def Gq:aq:=⟨362,[DL,an,an],.bool,[(true,0,DL)],λs=>uX s.2.1 s.2.2 s.1⟩
theorem AA:Ko Gq:=
 aw (.l ⟨[(true,0,DL),(false,7,an)],[]⟩ (.c .o (.s (.j ⟨[(false,9,an)],[]⟩ .o .o)))) call362 func362 (aj nS (aj jv al))
def Nt:aq:=⟨387,[Zo],Df,[(true,0,Zo)],λs=>CD s⟩
theorem Hh:Ko Nt:=
 aw .o call387 func387 al
def H2:aq:=⟨360,[DL],Df,[(true,0,DL)],λs=>wD s⟩
theorem Cd:Ko H2:=
 aw .o call360 func360 (aj pr (aj jv (aj AA (aj Hh al))))
def PE:aq:=⟨355,[akX],an,[(true,0,ab0)],U6 FN⟩
theorem Jh:Ko PE:=
 aw .o call355 func355 (aj Cd al)
def Uk:aq:=⟨348,[ak6,(.sli jG)],an,[(true,0,aj0)],λs=>xE s.2.2.2.2.2.2 s.1 s.2.1 s.2.2.1 s.2.2.2.1 s.2.2.2.2.1 s.2.2.2.2.2.1⟩
theorem KV:Ko Uk:=
 aw (.c .o (.l ⟨[(true,0,(.bx 457 0 true [.same,(.own ky 352 true),.same,.same,.same,.same])),(false,35,an)],[]⟩ (.c (.r [0] .o) .o))) call348 func348 (aj JZ (aj Jh al))
def adl:aq:=⟨341,[(.dat vR [some 704,some 6]),an,ic],an,[],U3 Xs⟩
theorem WO:Ko adl:=
 aw .o call341 func341 (aj dW al)
def MW:aq:=⟨350,[(.dat jG []),ic],an,[],U2 tE⟩
theorem Hb:Ko MW:=
 aw .o call350 func350 (aj sN al)
def iK:aq:=⟨345,[(.own jG 462 false),ic,(.fn 350 [] [])],A5,[],U2 ez⟩
theorem ik:Ko iK:=
 aw (.l ⟨[(false,9,an),(false,10,an)],[]⟩ .o) call345 func345 (aj Hb al)
def rL:aq:=⟨349,[(.sli jG)],(.own jG 462 true),[],λs=>jS s⟩
def rO(s:Q8):Option Q8:= vD s ( some []) ( aI (aH (List.length ([]:List cu)+List.length s) 16)<| some (([]:List cu)++s))
theorem pb:Ko rL:=
 aX .o call349 func349 al al al λs=>(show _=rO s from by kernel_rfl).trans kf
def EY:aq:=⟨343,[ak6,an,di],an,[(true,0,aj0)],λs=>Le s.2.2.2.2.2.2.1 s.2.2.2.2.2.2.2 s.1 s.2.1 s.2.2.1 s.2.2.2.1 s.2.2.2.2.1 s.2.2.2.2.2.1⟩
def F3:ab3->ab3:=λa s=>FU a s.1 s.2.1 s.2.2.1 s.2.2.2.1 s.2.2.2.2.1 s.2.2.2.2.2.1 s.2.2.2.2.2.2.1 s.2.2.2.2.2.2.2
theorem Jq(a:ab3)(b:ap1 a):(nz (F3 a)).Ok X0.P X0.Γ:=
 aw (.c .o (.s (.j ⟨[(false,7,(.own jG 462 true))],[]⟩ .o (.r [0,40000] (.s (.j ⟨[(false,7,(.own jG 462 true))],[8]⟩ .o .o)))))) call343 func343 (aj KV (aj WO (aj b (aj ik (aj adO (aj pb al))))))
theorem Ng:Ko EY:=(show EY=nz (az (F3) aC) by kernel_rfl)▸dT (X:=X0) (E:=nz) ⟨call343,λ_ _ h=>nomatch h⟩ (Jq) aC
def Lk:aq:=⟨388,[Zo,Df],ew,[(true,0,Zo)],λs=>AZ s.2 s.1⟩
theorem Fe:Ko Lk:=
 aw (.r [0] .o) call388 func388 al
def DS:aq:=⟨358,[DL,an],ew,[(true,0,DL)],λs=>uh s.2 s.1⟩
theorem yr:Ko DS:=
 aw (.l ⟨[(true,0,DL),(false,1,an)],[]⟩ .o) call358 func358 (aj nS (aj jv al))
def FZ:aq:=⟨352,[DL,Df],ew,[(true,0,DL)],λs=>uW s.2 s.1⟩
theorem BN:Ko FZ:=
 aw .o call352 func352 (aj Fe (aj pr (aj yr al)))
def AJ:aq:=⟨344,[akX,an],ew,[(true,0,ab0)],λs=>Gp s.2.2.2.2.2.2 s.1 s.2.1 s.2.2.1 s.2.2.2.1 s.2.2.2.2.1 s.2.2.2.2.2.1⟩
def AQ:acs->acs:=λa s=>Al a s.1 s.2.1 s.2.2.1 s.2.2.2.1 s.2.2.2.2.1 s.2.2.2.2.2.1 s.2.2.2.2.2.2
theorem Gn(a:acs)(b:aqa a):(kU (AQ a)).Ok X0.P X0.Γ:=
 aw (.c .o (.l ⟨[(true,0,ab0),(false,42,an)],[]⟩ .o)) call344 func344 (aj b (aj BN al))
theorem IV:Ko AJ:=(show AJ=kU (az (AQ) aC) by kernel_rfl)▸dT (X:=X0) (E:=kU) ⟨call344,λ_ _ h=>nomatch h⟩ (Gn) aC
def aad:aq:=⟨340,[RQ,di],(.cD [RQ,.bool,an]),[],U2 tU⟩
theorem CX:Ko aad:=
 aw (.c .o (.c .o (.r [7] (.r [7] (.j ⟨[(true,7,ab0)],[]⟩ .o .o))))) call340 func340 (aj uc (aj o9 (aj dv (aj Ng (aj IV al)))))
def HH:aq:=⟨332,[lB,kL,aS],Mn,[],U3 xf⟩
theorem Cm:Ko HH:=
 aw .o call332 func332 (aj dV (aj uc (aj Yj (aj CX al))))
def aa9:aq:=⟨381,[di,nU,an,an],fp,[],U4 o6⟩
theorem j7:Ko aa9:=
 aw (.l ⟨[(false,9,fp),(false,13,an)],[]⟩ .o) call381 func381 (aj xx (aj vz al))
def adt:aq:=⟨378,[tM,di,(.iH (.int .i64 0)),UP],ew,[(true,3,UP)],U3 XD⟩
theorem Ww:Ko adt:=
 aw (.l ⟨[(true,3,UP),(false,19,an)],[]⟩ (.c (.r [3] .o) .o)) call378 func378 (aj j7 al)
def afB:aq:=⟨375,[tM,di,(.iH (.int .i64 0))],.bool,[],U2 aaP⟩
theorem Y7:Ko afB:=
 aw .o call375 func375 (aj Ww al)
def Ze:aq:=⟨376,[tM,di],.bool,[],U2 D8⟩
theorem An:Ko Ze:=
 aw .o call376 func376 (aj Y7 al)
def By:aq:=⟨263,[di],fW,[],λs=>cX s⟩
def Bp(s:Q1):Option Q1:= vD s ( some []) ( aI (aH (List.length ([]:xi)+List.length s) 1)<| some (([]:xi)++s))
theorem dK:Ko By:=
 aX .o call263 func263 al al al λs=>(show _=Bp s from by kernel_rfl).trans kf
def Vg:aq:=⟨378,[(.dat ED [some 11,none,none]),di,(.iH (.int .i64 0)),(.fn 380 [] [])],ew,[(true,0,(.agg [.same,.same,.same,fW,.same,.same]))],U2 BE⟩
theorem yc:Ko Vg:=
 aw (.l ⟨[(true,0,(.agg [.same,.same,.same,fW,.same,.same])),(false,19,an)],[]⟩ (.c (.r [4,0] .o) .o)) call378 func378 (aj j7 al)
def agp:aq:=⟨377,[tM,di,(.iH (.int .i64 0))],(.dat ED [some 11,none,none]),[],U2 ace⟩
theorem YZ:Ko agp:=
 aw .o call377 func377 (aj dK (aj yc al))
def X7:aq:=⟨372,[tM,di],(.cD [tM,.bool]),[],U2 OQ⟩
theorem QE:Ko X7:=
 aw .o call372 func372 (aj An (aj YZ al))
def HM:aq:=⟨366,[lB,kL,aS],Mn,[],U3 wH⟩
theorem Cc:Ko HM:=
 aw (.r [40000] .o) call366 func366 (aj dV (aj QE al))
def Vu:aq:=⟨64,[kL,aS],Mn,[],U2 uA⟩
theorem yh:Ko Vu:=
 aw (.c .o (.r [2,4] .o)) call64 func64 (aj eU (aj xM (aj B3 (aj Ak (aj BM (aj Cm (aj Cc al)))))))
def aa3:aq:=⟨99,[xF,aS],(.fn 142 [] [(.bx 76 0 true [(.sli .s),gz,aS,(.sli .s),(.sli sb)]),Zp]),[],U2 Rm⟩
theorem Rt:Ko aa3:=
 aw .o call99 func99 al
def abb:aq:=⟨198,[.bool],an,[],λs=>yD s⟩
theorem RD:Ko abb:=
 aw .o call198 func198 al
def OM:aq:=⟨162,[fE,aS],an,[],U2 lE⟩
def Wv(s:Ex->Ex)(A:Sh->(R:Type)->Option R->Option R)(z:(Ex×Q1)->vy)(e:Ex)(q:Q1)(b:nE->vy):Int×Int×Int->vy:=λ⟨a,c,d⟩=> bif decide (d<(List.length (bC e.l 0 (min (List.length e.l:Int) 2)):Int)) then (idx (bC e.l 0 (min (List.length e.l:Int) 2)) d).bind λu=> (z ((s u),q)).bind λk=> bif d==0 then b (k,c,(i64.wrap (d+1))) else bif d==1 then b (a,k,(i64.wrap (d+1))) else none else ai (λ(j:Int×Int×Bool)=>LY j.1 j.2.1 j.2.2) λp=> ai (λ(i:Int×Int×Bool)=>K8 i.1 i.2.1 i.2.2) λo=> ai (λ(h:Int×Int×Bool)=>JF h.1 h.2.1 h.2.2) λg=> bif e.op==1 then some e.n else bif e.op==2 then ai (decide (e.n<0)) λx=> ai (decide ((q.length:Int)<=e.n)) λw=> ai (x||w) λv=> bif v then ( some 0) else ( (idx q e.n).bind λt=> some t) else bif e.op==3 then some (i64.wrap (a+c)) else bif e.op==5 then some (i64.wrap (a*c)) else bif e.op==6 then some (i64.wrap (0-a)) else bif e.op==4 then some (i64.wrap (a-c)) else bif e.op==8 then g (a,c,true) else ai (λ(y:Unit)=>Ky e a c p o) λm=> ai (λ(r:Bool)=>LB a c g m r) λf=> bif e.op==7 then f (e.op==7) else f (e.op==19)
def xz(a:Ex->Ex)(d:Sh->(R:Type)->Option R->Option R)(c:(Ex×Q1)->vy)(e:Ex)(b:Q1):vy:= aI (dp 0 (min (List.length e.l:Int) 2) (List.length e.l))<| az (Wv a d c e b) aC (0,0,0)
def OZ:acS->acS:=λa s=>OA a s.1 s.2
theorem QZ(a:acS)(b:apZ a):(tV (OZ a)).Ok X0.P X0.Γ:=
 aX (.l ⟨[(true,5,(.bx 319 0 true [an,an])),(false,19,an)],[]⟩ (.c .o (.r [] (.s (.s (.s (.s (.s (.s (.s (.s (.j ⟨[(false,8,an),(false,9,an),(false,10,.bool)],[2]⟩ (.s (.j ⟨[(false,8,an),(false,9,an),(false,10,.bool)],[2]⟩ (.s (.j ⟨[(false,8,an),(false,9,an),(false,10,.bool)],[2]⟩ (.c .o (.c .o (.c .o (.c .o (.c .o (.c .o (.c .o (.j ⟨[],[]⟩ (.j ⟨[(false,50,.bool)],[]⟩ .o .o) .o)))))))) .o)) .o)) .o)))))))))))) call162 func162 (aj b (aj RD al)) al al λs=>(show _=xz bk aM a s.1 s.2 from by kernel_rfl).trans ((congrArg (λd=>xz d aM a s.1 s.2) aJ).trans ((congrArg (λe=>xz id e a s.1 s.2) aN).trans (by kernel_rfl)))
theorem oZ:Ko OM:=(show OM=tV (az (OZ) aC) by kernel_rfl)▸dT (X:=X0) (E:=tV) ⟨call162,λ_ _ h=>nomatch h⟩ (QZ) aC
def Wl:aq:=⟨143,[xF,aS],fp,[],U2 Kg⟩
def NK(f:Ex->Ex)(h:Sh->(R:Type)->Option R->Option R)(m:sV)(d:Q1)(a:fy->Option Q1):Q1×Int->Option Q1:=λ⟨b,c⟩=> bif decide (c<(m.2.2.2.2.length:Int)) then (idx m.2.2.2.2 c).bind λg=> (lE (f g.2.1) d).bind λe=> bif e==1 then aI (aH (List.length b+List.length ([c]:xi)) 8)<| a ((b++([c]:xi)),(i64.wrap (c+1))) else a (b,(i64.wrap (c+1))) else some b
def v8(b:Ex->Ex)(c:Sh->(R:Type)->Option R->Option R)(m:sV)(a:Q1):Option Q1:= az (NK b c m a) aC ([],0)
theorem M5:Ko Wl:=
 aX (.l ⟨[(false,5,fp),(false,11,an)],[]⟩ .o) call143 func143 (aj oZ al) al al λs=>(show _=v8 bk aM s.1 s.2 from by kernel_rfl).trans ((congrArg (λa=>v8 a aM s.1 s.2) aJ).trans ((congrArg (λb=>v8 id b s.1 s.2) aN).trans (by kernel_rfl)))
def Vx:aq:=⟨97,[gz,H8],an,[],U2 A3⟩
theorem Nb:Ko Vx:=
 aw (.c .o (.l ⟨[(false,14,an)],[]⟩ .o)) call97 func97 (aj lX al)
def adA:aq:=⟨144,[xF,aS,an],(.cD [fp,an]),[],U3 Xu⟩
def UW(i:Ex->Ex)(k:Sh->(R:Type)->Option R->Option R)(m:sV)(f:Q1)(e:Q63)(a:fy->Option fy):Q1×Int->Option fy:=λ⟨b,c⟩=> bif decide (c<(e.2.2.length:Int)) then (idx e.2.2 c).bind λd=> (lE (i d.2) f).bind λh=> (idx b d.1).bind λj=> a ((List.set b (Int.toNat d.1) h),(i64.wrap (c+1))) else (A3 m.2.1 b).bind λg=> bif g != 0 then some ([],6) else some (b,0)
def EA(c:Ex->Ex)(g:Sh->(R:Type)->Option R->Option R)(m:sV)(a:Q1)(k:Int):Option fy:= ai (decide (k<0)) λh=> ai (decide ((m.2.2.2.2.length:Int)<=k)) λf=> ai (h||f) λe=> bif e then ( some ([],10)) else ( (cW a).bind λb=> (idx m.2.2.2.2 k).bind λd=> az (UW c g m a d) aC (b,0))
theorem VE:Ko adA:=
 aX (.c .o (.l ⟨[(true,8,fp),(false,29,an)],[]⟩ (.c (.r [8] .o) .o))) call144 func144 (aj dv (aj oZ (aj Nb al))) al al λs=>(show _=EA bk aM s.1 s.2.1 s.2.2 from by kernel_rfl).trans ((congrArg (λa=>EA a aM s.1 s.2.1 s.2.2) aJ).trans ((congrArg (λb=>EA id b s.1 s.2.1 s.2.2) aN).trans (by kernel_rfl)))
def w8:aq:=⟨30,[(.bx 56 0 true [.sfp,(.own aP 5 false)])],ew,[(true,0,(.bx 56 0 true [.sfp,.same]))],U2 ja⟩
theorem jX:Ko w8:=
 aw .o call30 func30 al
def uR:aq:=⟨21,[EL,.str],(.cD [an,(.iH (.raw .nilIface))]),[(true,0,EL)],λs=>cO s.2.2 s.1 s.2.1⟩
theorem jn:Ko uR:=
 aw .o call21 func21 (aj jX al)
def wS:aq:=⟨189,[EL,ic],(.iH (.raw .nilIface)),[(true,0,EL)],λs=>nA s.2.2 s.1 s.2.1⟩
theorem uD:Ko wS:=
 aw .o call189 func189 (aj jX al)
def BH:aq:=⟨23,[EL],.str,[],U2 kq⟩
theorem lI:Ko BH:=
 aw (.r [0] .o) call23 func23 al
def aed:aq:=⟨145,[aS],.str,[],λs=>Xb s⟩
theorem VJ:Ko aed:=
 aw (.l ⟨[(true,3,EL),(false,8,an)],[]⟩ .o) call145 func145 (aj W5 (aj jn (aj uD (aj lI al))))
def Ud:aq:=⟨100,[ahq,aS],ew,[(true,0,ahq)],λs=>rA s.2.2 s.1 s.2.1⟩
theorem Lr:Ko Ud:=
 aw (.j ⟨[(true,0,(.bx 217 0 true [.same,(.mp .s .bo true)]))],[]⟩ .o .o) call100 func100 (aj VJ al)
def ada:aq:=⟨65,[xF,aS],(.cD [iq,an]),[],U2 Dp⟩
theorem ahV:(⟨142,Tryz.f142⟩:jE).Ok X0.P:=⟨call142,func142⟩
theorem vL:Ko ada:=
 aX (.c (.c (.l ⟨[(false,10,an),(true,10004,(.bx 24 0 true [.same])),(true,10005,(.bx 22 0 true [an])),(true,10006,ahq)],[]⟩ .o) .o) (.r [70000,4,5,6] .o)) call65 func65 (aj Rt (aj M5 (aj VE (aj Lr (aj dv al))))) al (aj ahV al) λ_=>by kernel_rfl
def YM:aq:=⟨45,[xF,wu],(.cD [an,aS]),[],U2 ON⟩
theorem Qd:Ko YM:=
 aw (.c .o (.l ⟨[(true,6,aov),(false,10,an),(false,11,iq)],[]⟩ (.c (.r [] (.c .o (.l ⟨[(true,6,aov),(false,10,an),(false,11,iq),(false,61,an)],[]⟩ .o))) .o))) call45 func45 (aj vw (aj yh (aj vL al)))
def Fg:aq:=⟨36,[agE],.bool,[(true,0,agn)],λs=>vl s.1 s.2.1 s.2.2.1 s.2.2.2.1 s.2.2.2.2.1 s.2.2.2.2.2.1 s.2.2.2.2.2.2.1 s.2.2.2.2.2.2.2.1 s.2.2.2.2.2.2.2.2.1 (d8 s).2.1 (d8 s).2.2.1 (d8 s).2.2.2.1 (d8 s).2.2.2.2.1 (d8 s).2.2.2.2.2.1 (d8 s).2.2.2.2.2.2.1 (d8 s).2.2.2.2.2.2.2.1 (d8 (d8 s)).1 (d8 (d8 s)).2.1 (d8 (d8 s)).2.2.1 (d8 (d8 s)).2.2.2.1 (d8 (d8 s)).2.2.2.2.1 (d8 (d8 s)).2.2.2.2.2.1 (d8 (d8 s)).2.2.2.2.2.2⟩
theorem AG:Ko Fg:=
 aw .o call36 func36 (aj Qd (aj gP al))
def im(a:Qw):aq:=⟨197,[(.sli .ex),(.sli .ex),(.fn 155 [] [])],.bool,[],λs=>dN a s.1 s.2⟩
def gF(b:Ex->Ex)(j:Sh->(R:Type)->Option R->Option R)(h:(Ex×Ex)->vb)(f:(List Ex))(g:(List Ex))(a:Int->vb)(c:Int):vb:= bif decide (c<(f.length:Int)) then (idx f c).bind λi=> (idx g c).bind λe=> (h ((b i),(b e))).bind λd=> bif !d then some false else a (i64.wrap (c+1)) else some true
def cN(a:Ex->Ex)(e:Sh->(R:Type)->Option R->Option R)(d:(Ex×Ex)->vb)(c:(List Ex))(b:(List Ex)):vb:= bif (c.length:Int) != (b.length:Int) then some false else az (gF a e d c b) aC 0
theorem gE(a:Qw)(b:aos a):Ko (im a):=
 aX (.c .o (.l ⟨[(false,17,an)],[]⟩ .o)) call197 func197 (aj b al) al al λs=>(show _=cN bk aM a s.1 s.2 from by kernel_rfl).trans ((congrArg (λd=>cN d aM a s.1 s.2) aJ).trans ((congrArg (λe=>cN id e a s.1 s.2) aN).trans (by kernel_rfl)))
def NP:aq:=⟨155,[fE,fE],.bool,[],U2 wU⟩
def NU:Qw->Qw:=λa s=>OX a s.1 s.2
theorem Ql(a:Qw)(b:aos a):(tW (NU a)).Ok X0.P X0.Γ:=
 aw .o call155 func155 (aj (gE a b) al)
theorem FJ:Ko NP:=(show NP=tW (az (NU) aC) by kernel_rfl)▸dT (X:=X0) (E:=tW) ⟨call155,λ_ _ h=>nomatch h⟩ (Ql) aC
def MQ:aq:=⟨109,[Hd,fE],nU,[(true,0,Hd)],λs=>fY s.2 s.1⟩
def Ia(c:Ex->Ex)(i:Sh->(R:Type)->Option R->Option R)(e:Ex)(l:(List Ex))(d:Int->Option Q65)(a:Int):Option Q65:= bif decide (a<(l.length:Int)) then (idx l a).bind λg=> (wU (c g) (c e)).bind λf=> bif f then ( aI (decide (0<=a))<| some ((bW .u64 1 a),l)) else ( d (i64.wrap (a+1))) else aI (aH (List.length l+List.length ([(Ex.mk 0 0 0 [])]:List Ex)) 48)<| (idx (l++([(Ex.mk 0 0 0 [])]:List Ex)) (l.length:Int)).bind λh=> i (.b .l .l) _ ( aI (decide (0<=(i64.wrap ((List.length (List.set (l++([(Ex.mk 0 0 0 [])]:List Ex)) (Int.toNat (l.length:Int)) (c e)):Int)-1))))<| some ((bW .u64 1 (i64.wrap ((List.length (List.set (l++([(Ex.mk 0 0 0 [])]:List Ex)) (Int.toNat (l.length:Int)) (c e)):Int)-1))),(List.set (l++([(Ex.mk 0 0 0 [])]:List Ex)) (Int.toNat (l.length:Int)) (c e))))
def pA(a:Ex->Ex)(b:Sh->(R:Type)->Option R->Option R)(e:Ex)(l:(List Ex)):Option Q65:= az (Ia a b e l) aC 0
theorem tF:Ko MQ:=
 aX (.l ⟨[(true,0,(.bx 234 0 true [.same])),(false,12,an)],[]⟩ (.c .o (.r [0] .o))) call109 func109 (aj FJ al) al al λs=>(show _=pA bk aM s.2 s.1 from by kernel_rfl).trans ((congrArg (λa=>pA a aM s.2 s.1) aJ).trans ((congrArg (λb=>pA id b s.2 s.1) aN).trans (by kernel_rfl)))
def rv:aq:=⟨156,[nU,(.dat ta []),Zr,Kp,(.bx 232 0 true [Hd]),amv],ew,[(true,2,Zr),(true,3,Kp),(true,4,(.bx 232 0 true [.same])),(true,1005,Hd),(true,5,(.bx 283 0 true [.same]))],U5 uF⟩
def yK(t:Ex->Ex)(y:Sh->(R:Type)->Option R->Option R)(o:Q42->Option IM)(b:Int)(n:cu)(x:Xz)(e:Q8)(l:(List Ex))(m:Int->Option IM)(a:Int):Option IM:= aI (decide (0<=a))<| bif (pQ .u64 (bI .u64 b n.1) (bW .u64 1 a))==0 then m (i64.wrap (a+1)) else (idx l a).bind λd=> aI (decide (0<=a))<| (o8 (t d)).bind λu=> bif u then ( (o ((bI .u64 (bI .u64 b n.1) (bW .u64 1 a)),((dO .u64 n.1 (bW .u64 1 a)),n.2),x,e,l)).bind λs=> some (s.1,s.2.1,s.2.2)) else ( (idx d.l 0).bind λw=> (fY (t w) l).bind λf=> bif d.op==20 then (o ((bI .u64 (bI .u64 b n.1) (bW .u64 1 a)),((dO .u64 n.1 (bW .u64 1 a)),(dO .u64 n.2 f.1)),x,e,f.2)).bind λr=> some (r.1,r.2.1,r.2.2) else (idx d.l 1).bind λv=> (fY (t v) f.2).bind λc=> bif d.op==16 then (o ((dO .u64 (dO .u64 (bI .u64 (bI .u64 b n.1) (bW .u64 1 a)) f.1) c.1),((dO .u64 n.1 (bW .u64 1 a)),n.2),x,e,c.2)).bind λq=> some (q.1,q.2.1,q.2.2) else bif d.op==17 then (o ((dO .u64 (bI .u64 (bI .u64 b n.1) (bW .u64 1 a)) f.1),((dO .u64 n.1 (bW .u64 1 a)),n.2),x,e,c.2)).bind λp=> (o ((dO .u64 (bI .u64 (bI .u64 b n.1) (bW .u64 1 a)) c.1),((dO .u64 n.1 (bW .u64 1 a)),n.2),p.1,p.2.1,p.2.2)).bind λk=> some (k.1,k.2.1,k.2.2) else bif d.op==23 then (o ((dO .u64 (bI .u64 (bI .u64 b n.1) (bW .u64 1 a)) c.1),((dO .u64 n.1 (bW .u64 1 a)),n.2),x,e,c.2)).bind λj=> (o ((dO .u64 (bI .u64 (bI .u64 b n.1) (bW .u64 1 a)) f.1),((dO .u64 n.1 (bW .u64 1 a)),(dO .u64 n.2 (bW .u64 1 a))),j.1,j.2.1,j.2.2)).bind λi=> some (i.1,i.2.1,i.2.2) else bif d.op==24 then (o ((dO .u64 (dO .u64 (bI .u64 (bI .u64 b n.1) (bW .u64 1 a)) f.1) c.1),((dO .u64 n.1 (bW .u64 1 a)),n.2),x,e,c.2)).bind λh=> (o ((dO .u64 (bI .u64 (bI .u64 b n.1) (bW .u64 1 a)) c.1),((dO .u64 n.1 (bW .u64 1 a)),(dO .u64 n.2 (bW .u64 1 a))),h.1,h.2.1,h.2.2)).bind λg=> some (g.1,g.2.1,g.2.2) else some (x,e,c.2))
def jm(d:Ex->Ex)(e:Sh->(R:Type)->Option R->Option R)(f:Q42->Option IM)(b:Int)(n:cu)(x:Xz)(a:Q8)(l:(List Ex)):Option IM:= bif (bI .u64 b n.1)==0 then bif !(kQ x n false) then (x).bind λc=> aI (aH (List.length a+List.length ([n]:List cu)) 16)<| some ((some (la c n true)),(a++([n]:List cu)),l) else some (x,a,l) else az (yK d e f b n x a l) aC 0
def ri:aaQ->aaQ:=λa s=>p6 a s.1 s.2.1 s.2.2.1 s.2.2.2.1 s.2.2.2.2
theorem wL(a:aaQ)(b:ap3 a):(gA (ri a)).Ok X0.P X0.Γ:=
 aX (.c .o (.l ⟨[(true,7,(.bx 239 0 true [.same,.same])),(false,8,an)],[]⟩ (.c .o (.r [40000] (.c .o (.r [4,40000] (.c .o (.r [4,40000] .o)))))))) call156 func156 (aj Az (aj b (aj tF al))) al al λs=>(show _=jm bk aM a s.1 s.2.1 s.2.2.1 s.2.2.2.1 s.2.2.2.2 from by kernel_rfl).trans ((congrArg (λd=>jm d aM a s.1 s.2.1 s.2.2.1 s.2.2.2.1 s.2.2.2.2) aJ).trans ((congrArg (λe=>jm id e a s.1 s.2.1 s.2.2.1 s.2.2.2.1 s.2.2.2.2) aN).trans (by kernel_rfl)))
theorem yA:Ko rv:=(show rv=gA (az (ri) aC) by kernel_rfl)▸dT (X:=X0) (E:=gA) ⟨call156,λ_ _ h=>nomatch h⟩ (wL) aC
def Jk:aq:=⟨111,[Hd,nU],(.own ta 239 true),[(true,0,Hd)],λs=>iI s.2 s.1⟩
theorem EE:Ko Jk:=
 aw .o call111 func111 (aj yA al)
def adg:aq:=⟨110,[(.sli ta),ZB,Kp],fp,[(true,1,ZB),(true,2,Kp)],U3 wO⟩
theorem UZ:Ko adg:=
 aw (.l ⟨[(true,1,ZB),(true,2,Kp),(false,5,fp),(false,12,an)],[]⟩ .o) call110 func110 al
def GD:aq:=⟨109,[(.bx 234 0 false [(.sli .ex)]),fE],nU,[],λs=>oM s.2 s.1⟩
def B8(c:Ex->Ex)(g:Sh->(R:Type)->Option R->Option R)(e:Ex)(l:(List Ex))(a:Int->vy)(b:Int):vy:= bif decide (b<(l.length:Int)) then (idx l b).bind λf=> (wU (c f) (c e)).bind λd=> bif d then ( aI (decide (0<=b))<| some (bW .u64 1 b)) else ( a (i64.wrap (b+1))) else none
def lQ(a:Ex->Ex)(b:Sh->(R:Type)->Option R->Option R)(e:Ex)(l:(List Ex)):vy:= az (B8 a b e l) aC 0
theorem BY:Ko GD:=
 aX (.l ⟨[(false,12,an)],[]⟩ .o) call109 func109 (aj FJ al) al al λs=>(show _=lQ bk aM s.2 s.1 from by kernel_rfl).trans ((congrArg (λa=>lQ a aM s.2 s.1) aJ).trans ((congrArg (λb=>lQ id b s.2 s.1) aN).trans (by kernel_rfl)))
def ali:aq:=⟨70,[fE],ahg,[],λs=>aax s⟩
def aec(g:Ex->Ex)(n:Sh->(R:Type)->Option R->Option R)(j:(List Ex))(i:jU)(l:Int)(e:(jU×Int)->Option dj)(m:cu)(b:((List Ex)×Int)->Option dj):(List Ex)×Int->Option dj:=λ⟨c,a⟩=> bif decide (a<(j.length:Int)) then (idx j a).bind λd=> aI (decide (0<=a))<| ai ((pQ .u64 m.1 (bW .u64 1 a)) != 0) λf=> bu f default (o8 (g d)) λh=> ai (f&&h) λk=> bif k then ( aI (aH (List.length c+List.length ([(g d)]:List Ex)) 48)<| b ((c++([(g d)]:List Ex)),(i64.wrap (a+1)))) else ( b (c,(i64.wrap (a+1)))) else aI (aH (List.length i+List.length ([c]:List (List Ex))) 24)<| e ((i++([c]:List (List Ex))),(i64.wrap (l+1)))
def adM(h:Ex->Ex)(q:Sh->(R:Type)->Option R->Option R)(m:UD)(e:(List Ex))(o:(List Q1))(p:Q8)(n:jU)(a:gM->Option dj):(List Q1)×Int->Option dj:=λ⟨c,b⟩=> bif decide (b<(e.length:Int)) then (idx e b).bind λd=> (o8 (h d)).bind λg=> ai (d.op != 23) λk=> ai (g||k) λj=> bif j then ( a (c,(i64.wrap (b+1)))) else ( (idx d.l 1).bind λi=> (oM (h i) e).bind λf=> az (W8 p c b a f) aC (([]:xi),0)) else some (n,o,m.1,c)
def ad7(e:Ex->Ex)(j:Sh->(R:Type)->Option R->Option R)(g:UD)(f:(List Ex))(h:(List Q1))(c:Q8)(a:(jU×Int)->Option dj):jU×Int->Option dj:=λ⟨d,b⟩=> bif decide (b<(c.length:Int)) then (idx c b).bind λi=> az (aec e j f d b a i) aC ([],0) else az (adM e j g f h c d) aC ([],0)
def adp(j:Ex->Ex)(l:Sh->(R:Type)->Option R->Option R)(h:UD)(a:((List Ex)×(List Q1)×Q8×NW×Int)->Option dj):(List Ex)×(List Q1)×Q8×NW×Int->Option dj:=λ⟨g,d,c,i,e⟩=> bif decide (e<(c.length:Int)) then (idx c e).bind λk=> (iI k.2 g).bind λf=> (wO f.1 i c).bind λb=> aI (aH (List.length d+List.length ([b.1]:List Q1)) 24)<| a (f.2,(d++([b.1]:List Q1)),b.2.2,b.2.1,(i64.wrap (e+1))) else az (ad7 j l h g d c) aC ([],0)
def P1(d:Ex->Ex)(f:Sh->(R:Type)->Option R->Option R)(e:Ex):Option dj:= (fY (d e) []).bind λc=> (iI c.1 c.2).bind λb=> (wO b.1 (some []:NW) []).bind λa=> az (adp d f a) aC (b.2,[],a.2.2,a.2.1,0)
theorem adD:Ko ali:=
 aX (.l ⟨[(true,3,Hd),(true,5,(.bx 122 0 true [.same,iq,.same,.same])),(true,6,Kp),(true,8,(.fn 110 [] [ZB,.same])),(false,9,an)],[]⟩ (.c (.r [8,3,5,40000] .o) (.l ⟨[(true,5,(.bx 122 0 true [(.own (.l .ex) 77 true),.same,.same,.same])),(false,56,an)],[]⟩ (.c (.l ⟨[(true,5,Vd),(false,12,(.own .ex 79 true)),(false,65,an)],[]⟩ (.c (.r [40000] .o) .o)) (.r [30000,20003] (.l ⟨[(true,2,Vd),(true,5,(.bx 122 0 true [.same,.same,.same,iq])),(false,97,an)],[]⟩ (.c (.c .o (.l ⟨[(true,5,Vd),(false,18,fp),(false,118,an)],[]⟩ (.c (.r [40000] .o) .o))) .o))))))) call70 func70 (aj tF (aj EE (aj UZ (aj Az (aj BY al))))) al al λs=>(show _=P1 bk aM s from by kernel_rfl).trans ((congrArg (λa=>P1 a aM s) aJ).trans ((congrArg (λb=>P1 id b s) aN).trans (by kernel_rfl)))
def Ib:aq:=⟨107,[(.dat dC []),an],an,[],U2 j9⟩
theorem Cs:Ko Ib:=
 aw .o call107 func107 al
def Dz:aq:=⟨154,[aS,an],an,[],U2 tf⟩
theorem yT:Ko Dz:=
 aw (.l ⟨[(false,8,an)],[]⟩ .o) call154 func154 al
def yt:aq:=⟨108,[aS,an],.bool,[],U2 gB⟩
theorem lz:Ko yt:=
 aw .o call108 func108 (aj yT al)
def ag1:aq:=⟨69,[JO],ahg,[],λs=>Pa s⟩
theorem Y5:Ko ag1:=
 aw (.s (.s (.s (.j ⟨[(false,4,wA)],[]⟩ (.c (.l ⟨[(true,5,fp),(false,31,an)],[]⟩ .o) .o) (.l ⟨[(true,9,amz),(false,44,an)],[]⟩ (.c (.l ⟨[(true,9,amz),(false,48,an)],[]⟩ (.c (.s (.s (.s (.j ⟨[(false,12,an)],[]⟩ .o (.l ⟨[(true,9,Vd),(false,13,fp),(false,69,an)],[]⟩ (.c .o (.r [9] .o))))))) .o)) (.l ⟨[(true,9,(.bx 122 0 true [.same,.same,fp,.same])),(false,104,an)],[]⟩ (.c (.r [9] .o) (.l ⟨[(true,2,Vd),(true,9,Vd),(false,18,fp),(false,121,an)],[]⟩ .o))))))))) call69 func69 (aj Cs (aj lz al))
def NC:aq:=⟨47,[fE],ahg,[],λs=>C8 s⟩
def pI(a:Ex->Ex)(f:Sh->(R:Type)->Option R->Option R)(e:Ex):Option dj:= (E7 (a e)).bind λd=> (aax (a d.1)).bind λc=> (Pa c).bind λb=> some b
theorem H5:Ko NC:=
 aX .o call47 func47 (aj JJ (aj adD (aj Y5 al))) al al λs=>(show _=pI bk aM s from by kernel_rfl).trans ((congrArg (λa=>pI a aM s) aJ).trans ((congrArg (λb=>pI id b s) aN).trans (by kernel_rfl)))
def Y6:aq:=⟨66,[xF,JO],(.cD [HN,an]),[],U2 O4⟩
theorem P9:Ko Y6:=
 aw (.c .o (.r [40000] .o)) call66 func66 (aj yi (aj gO al))
def adS:aq:=⟨146,[JO,aS,aS],(.fn 190 [] [Zp,(.bx 122 0 true [(.sli (.l .ex)),wA,aS,wA]),Zp]),[],U3 J4⟩
theorem F5:Ko adS:=
 aw .o call146 func146 al
def Yz:aq:=⟨208,[fE,JW],.bool,[],U2 Ej⟩
def xQ(a:Ex->Ex)(c:Sh->(R:Type)->Option R->Option R)(e:Ex)(x:Q1):vb:= (lE (a e) x).bind λb=> some (b != 1)
theorem Qf:Ko Yz:=
 aX .o call208 func208 (aj oZ al) al al λs=>(show _=xQ bk aM s.1 s.2 from by kernel_rfl).trans ((congrArg (λa=>xQ a aM s.1 s.2) aJ).trans ((congrArg (λb=>xQ id b s.1 s.2) aN).trans (by kernel_rfl)))
def om:aq:=⟨216,[(.sli .ex),(.fn 208 [] [JW])],an,[],U2 iN⟩
def mL(e:Ex->Ex)(g:Sh->(R:Type)->Option R->Option R)(s:(List Ex))(c:Q1)(a:Int->vy)(b:Int):vy:= bif decide (b<(s.length:Int)) then (idx s b).bind λf=> (Ej (e f) c).bind λd=> bif d then ( some b) else ( a (i64.wrap (b+1))) else some (-1)
def eK(a:Ex->Ex)(b:Sh->(R:Type)->Option R->Option R)(s:(List Ex))(c:Q1):vy:= az (mL a b s c) aC 0
theorem mF:Ko om:=
 aX (.l ⟨[(false,8,an)],[]⟩ .o) call216 func216 (aj Qf al) al al λs=>(show _=eK bk aM s.1 s.2 from by kernel_rfl).trans ((congrArg (λa=>eK a aM s.1 s.2) aJ).trans ((congrArg (λb=>eK id b s.1 s.2) aN).trans (by kernel_rfl)))
def mP:aq:=⟨207,[(.sli .ex),(.fn 208 [] [JW])],.bool,[],U2 gN⟩
theorem lA:Ko mP:=
 aw .o call207 func207 (aj mF al)
def agW:aq:=⟨191,[JO,an,aS],.bool,[],U3 O9⟩
theorem IS:Ko agW:=
 aw .o call191 func191 (aj lA al)
def s6:aq:=⟨209,[fW,an,an],fW,[],U3 kM⟩
theorem pP:Ko s6:=
 aw (.s (.s (.j ⟨[(false,0,fW),(false,7,nU)],[]⟩ .o .o))) call209 func209 (aj ahK al)
def Eu:aq:=⟨192,[fW,an,an],fW,[],U3 uz⟩
theorem yG:Ko Eu:=
 aw .o call192 func192 (aj pP al)
def VF:aq:=⟨147,[abr,aS],ew,[(true,0,abr)],λs=>BQ s.2.2 s.1 s.2.1⟩
theorem ya:Ko VF:=
 aw (.j ⟨[(true,0,(.bx 270 0 true [.same,(.mp .s .bo true)]))],[]⟩ .o (.l ⟨[(true,0,(.bx 270 0 true [.same,.same])),(false,4,fW),(false,18,an)],[]⟩ (.c .o (.r [] (.c (.r [0] .o) .o))))) call147 func147 (aj yG al)
def acZ:aq:=⟨102,[xF,JO],iq,[],U2 XR⟩
theorem XM:(⟨190,Tryz.f190⟩:jE).Ok X0.P:=⟨call190,func190⟩
theorem UR:Ko acZ:=
 aX (.c (.c (.l ⟨[(false,9,an),(true,10005,abr)],[]⟩ (.c (.n 4 (.c .o .o)) .o)) .o) (.r [70000,5] .o)) call102 func102 (aj F5 (aj IS (aj dv (aj ya al)))) al (aj XM al) λ_=>by kernel_rfl
def IW:bH:=⟨103,[Mi,aS],Qi,none,false,false,.bool,[(true,0,Gz)],λs=>kV (d8 (d8 (d8 (d8 (d8 s))))).2.2.2.2.2 s.1 s.2.1 s.2.2.1 s.2.2.2.1 s.2.2.2.2.1 s.2.2.2.2.2.1 s.2.2.2.2.2.2.1 s.2.2.2.2.2.2.2.1 s.2.2.2.2.2.2.2.2.1 (d8 s).2.1 (d8 s).2.2.1 (d8 s).2.2.2.1 (d8 s).2.2.2.2.1 (d8 s).2.2.2.2.2.1 (d8 s).2.2.2.2.2.2.1 (d8 s).2.2.2.2.2.2.2.1 (d8 (d8 s)).1 (d8 (d8 s)).2.1 (d8 (d8 s)).2.2.1 (d8 (d8 s)).2.2.2.1 (d8 (d8 s)).2.2.2.2.1 (d8 (d8 s)).2.2.2.2.2.1 (d8 (d8 s)).2.2.2.2.2.2.1 (d8 (d8 s)).2.2.2.2.2.2.2.1 (d8 (d8 (d8 s))).1 (d8 (d8 (d8 s))).2.1 (d8 (d8 (d8 s))).2.2.1 (d8 (d8 (d8 s))).2.2.2.1 (d8 (d8 (d8 s))).2.2.2.2.1 (d8 (d8 (d8 s))).2.2.2.2.2.1 (d8 (d8 (d8 s))).2.2.2.2.2.2.1 (d8 (d8 (d8 s))).2.2.2.2.2.2.2.1 (d8 (d8 (d8 (d8 s)))).1 (d8 (d8 (d8 (d8 s)))).2.1 (d8 (d8 (d8 (d8 s)))).2.2.1 (d8 (d8 (d8 (d8 s)))).2.2.2.1 (d8 (d8 (d8 (d8 s)))).2.2.2.2.1 (d8 (d8 (d8 (d8 s)))).2.2.2.2.2.1 (d8 (d8 (d8 (d8 s)))).2.2.2.2.2.2.1 (d8 (d8 (d8 (d8 s)))).2.2.2.2.2.2.2.1 (d8 (d8 (d8 (d8 (d8 s))))).1 (d8 (d8 (d8 (d8 (d8 s))))).2.1 (d8 (d8 (d8 (d8 (d8 s))))).2.2.1 (d8 (d8 (d8 (d8 (d8 s))))).2.2.2.1 (d8 (d8 (d8 (d8 (d8 s))))).2.2.2.2.1⟩
theorem ku:pw IW:=
 aa2 (.s (.s (.j ⟨[],[]⟩ .o .o))) call103 func103 (aj yh al)
def abd:aq:=⟨194,[aS],(.cD [aS,an]),[],λs=>H9 s⟩
theorem C0:Ko abd:=
 aw .o call194 func194 al
def adE:aq:=⟨193,[xF,JO,aS],(.cD [iq,an]),[],U3 Xv⟩
theorem Vl:Ko adE:=
 aX (.c .o (.l ⟨[(true,12,abr),(false,32,an)],[]⟩ (.c (.r [] (.c (.c (.l ⟨[(false,9,an),(true,10012,abr)],[]⟩ (.c (.n 4 (.c .o .o)) .o)) .o) (.r [70000,12] .o))) .o))) call193 func193 (aj C0 (aj vL (aj F5 (aj IS (aj dv (aj ya al)))))) al (aj XM al) λ_=>by kernel_rfl
def Fv:bH:=⟨148,[(.bx 169 0 false QL6),(.own xX 277 true),aS],Qi,none,false,false,(.own xX 277 true),[],λs=>gD (d8 (d8 (d8 (d8 (d8 s))))).2.2.2.2.2.1 (d8 (d8 (d8 (d8 (d8 s))))).2.2.2.2.2.2 s.1 s.2.1 s.2.2.1 s.2.2.2.1 s.2.2.2.2.1 s.2.2.2.2.2.1 s.2.2.2.2.2.2.1 s.2.2.2.2.2.2.2.1 s.2.2.2.2.2.2.2.2.1 (d8 s).2.1 (d8 s).2.2.1 (d8 s).2.2.2.1 (d8 s).2.2.2.2.1 (d8 s).2.2.2.2.2.1 (d8 s).2.2.2.2.2.2.1 (d8 s).2.2.2.2.2.2.2.1 (d8 (d8 s)).1 (d8 (d8 s)).2.1 (d8 (d8 s)).2.2.1 (d8 (d8 s)).2.2.2.1 (d8 (d8 s)).2.2.2.2.1 (d8 (d8 s)).2.2.2.2.2.1 (d8 (d8 s)).2.2.2.2.2.2.1 (d8 (d8 s)).2.2.2.2.2.2.2.1 (d8 (d8 (d8 s))).1 (d8 (d8 (d8 s))).2.1 (d8 (d8 (d8 s))).2.2.1 (d8 (d8 (d8 s))).2.2.2.1 (d8 (d8 (d8 s))).2.2.2.2.1 (d8 (d8 (d8 s))).2.2.2.2.2.1 (d8 (d8 (d8 s))).2.2.2.2.2.2.1 (d8 (d8 (d8 s))).2.2.2.2.2.2.2.1 (d8 (d8 (d8 (d8 s)))).1 (d8 (d8 (d8 (d8 s)))).2.1 (d8 (d8 (d8 (d8 s)))).2.2.1 (d8 (d8 (d8 (d8 s)))).2.2.2.1 (d8 (d8 (d8 (d8 s)))).2.2.2.2.1 (d8 (d8 (d8 (d8 s)))).2.2.2.2.2.1 (d8 (d8 (d8 (d8 s)))).2.2.2.2.2.2.1 (d8 (d8 (d8 (d8 s)))).2.2.2.2.2.2.2.1 (d8 (d8 (d8 (d8 (d8 s))))).1 (d8 (d8 (d8 (d8 (d8 s))))).2.1 (d8 (d8 (d8 (d8 (d8 s))))).2.2.1 (d8 (d8 (d8 (d8 (d8 s))))).2.2.2.1 (d8 (d8 (d8 (d8 (d8 s))))).2.2.2.2.1⟩
theorem nR:pw Fv:=
 aa2 (.s (.j ⟨[],[]⟩ .o (.r [] (.j ⟨[],[]⟩ .o .o)))) call148 func148 (aj Vl al)
def aau:aq:=⟨149,[JO,aS],.bool,[],U2 UI⟩
theorem Ro:Ko aau:=
 aw .o call149 func149 (aj C0 (aj lz al))
def yV:aq:=⟨153,[Ml],ew,[],λs=>pn s⟩
theorem vx:Ko yV:=
 aw .o call153 func153 al
def DJ:aq:=⟨116,[aS,aS],.bool,[],U2 iV⟩
theorem iW:Ko DJ:=
 aw (.c .o (.l ⟨[(false,13,an)],[]⟩ .o)) call116 func116 al
def Yx:aq:=⟨151,[(.sli xX)],iq,[],λs=>DK s⟩
theorem Ph:Ko Yx:=
 aw (.l ⟨[(false,3,iq),(false,8,an)],[]⟩ .o) call151 func151 al
def yU:bH:=⟨150,[Ml,aS,JW,(.bx 225 0 false [Ml])],aaR,none,false,true,ew,[],U4 px⟩
theorem vX:pw yU:=
 aa2 (.c (.r [80000] .o) .o) call150 func150 (aj iW (aj Ph al))
def afA:aq:=⟨264,[an],ic,[],λs=>QI s⟩
theorem IB:Ko afA:=
 aw .o call264 func264 al
def Yp:aq:=⟨258,[an,ic,agv,Zz],ew,[(true,3,Zz)],U7 OR⟩
theorem P2:Ko Yp:=
 aw .o call258 func258 al
def aja:aq:=⟨257,[QU,di,an,(.fn 258 [] [agv,Zz])],an,[(true,3,(.fn 258 [] [.same,Zz]))],U8 aeJ⟩
theorem acK:Ko aja:=
 aw .o call257 func257 (aj IB (aj j8 (aj P2 al)))
def afR:aq:=⟨252,[QU,di,an],EX,[],U3 aaw⟩
theorem Yd:Ko afR:=
 aw .o call252 func252 (aj acK al)
def Nu:aq:=⟨246,[lB,kL,aS,an],EX,[],U4 Dc⟩
theorem Hw:Ko Nu:=
 aw (.r [5] .o) call246 func246 (aj dV (aj Yd al))
def ai9:aq:=⟨295,[KB,gz,aS,an],(.cD [an,an]),[],U4 Vv⟩
theorem L4:Ko ai9:=
 aw .o call295 func295 (aj eU (aj E6 al))
def agj:aq:=⟨292,[KB,gz,aS,an],EX,[],U4 abR⟩
theorem Zd:Ko agj:=
 aw .o call292 func292 (aj L4 al)
def JP:aq:=⟨286,[lB,kL,aS,an],EX,[],U4 As⟩
theorem Gj:Ko JP:=
 aw .o call286 func286 (aj Zd al)
def ahH:aq:=⟨315,[J3,gz,aS,an],(.cD [an,an]),[],U4 Wo⟩
theorem Kq:Ko ahH:=
 aw .o call315 func315 (aj eU (aj Gh al))
def ag9:aq:=⟨310,[J3,gz,aS,an],EX,[],U4 ab7⟩
theorem YO:Ko ag9:=
 aw .o call310 func310 (aj Kq al)
def Ls:aq:=⟨304,[lB,kL,aS,an],EX,[],U4 BD⟩
theorem Gi:Ko Ls:=
 aw .o call304 func304 (aj YO al)
def SW:aq:=⟨337,[kL,aS,an],an,[],U3 xH⟩
theorem wI:Ko SW:=
 aw (.c .o (.r [3] .o)) call337 func337 (aj dV (aj uc al))
def ND:aq:=⟨331,[lB,kL,aS,an],EX,[],U4 CC⟩
theorem GM:Ko ND:=
 aw (.c .o (.r [5] .o)) call331 func331 (aj wI (aj dV (aj uc al)))
def afW:aq:=⟨374,[tM,di,an],an,[],U3 QL⟩
theorem Iy:Ko afW:=
 aw .o call374 func374 (aj An al)
def Wg:aq:=⟨378,[tM,di,an,UP],ew,[(true,3,UP)],U4 Ll⟩
theorem Nq:Ko Wg:=
 aw (.l ⟨[(true,3,UP),(false,19,an)],[]⟩ (.c (.r [3] .o) .o)) call378 func378 (aj j7 al)
def XT:aq:=⟨375,[tM,di,an],.bool,[],U3 OB⟩
theorem Pu:Ko XT:=
 aw .o call375 func375 (aj Nq al)
def af0:aq:=⟨371,[tM,di,an],EX,[],U3 aaG⟩
theorem Ym:Ko af0:=
 aw .o call371 func371 (aj Iy (aj Pu al))
def Ny:aq:=⟨365,[lB,kL,aS,an],EX,[],U4 Cu⟩
theorem HB:Ko Ny:=
 aw (.r [5] .o) call365 func365 (aj dV (aj Ym al))
def adu:aq:=⟨195,[kL,aS,an],EX,[],U3 Xo⟩
theorem Vq:Ko adu:=
 aw (.c .o (.r [3] .o)) call195 func195 (aj eU (aj xM (aj Hw (aj Gj (aj Gi (aj GM (aj HB al)))))))
def Yk:aq:=⟨262,[an,ic,agv,afM],ew,[(true,3,(.bx 98 0 true [.same,.same,.same,di]))],λs=>NR s.1 s.2.1 s.2.2.1 s.2.2.2.1 s.2.2.2.2.1 s.2.2.2.2.2.1 s.2.2.2.2.2.2.1 s.2.2.2.2.2.2.2.1 s.2.2.2.2.2.2.2.2.1 (d8 s).2⟩
theorem PW:Ko Yk:=
 aw .o call262 func262 (aj dK al)
def ab1:aq:=⟨257,[QU,di,an,(.fn 262 [] [agv,afM])],an,[(true,3,(.fn 262 [] [.same,afM]))],λs=>S4 s.1 s.2.1 s.2.2.1 s.2.2.2.1 s.2.2.2.2.1 s.2.2.2.2.2.1 s.2.2.2.2.2.2.1 s.2.2.2.2.2.2.2.1 s.2.2.2.2.2.2.2.2.1 (d8 s).2.1 (d8 s).2.2⟩
theorem Ua:Ko ab1:=
 aw .o call257 func257 (aj IB (aj j8 (aj PW al)))
def ahh:aq:=⟨255,[QU,di,an],(.cD [QU,an]),[],U3 abS⟩
theorem Y3:Ko ahh:=
 aw .o call255 func255 (aj Ua al)
def Nd:aq:=⟨250,[lB,kL,aS,an],yX,[],U4 Db⟩
theorem GH:Ko Nd:=
 aw (.r [40000] .o) call250 func250 (aj dV (aj Y3 al))
def ag3:aq:=⟨294,[KB,gz,aS,an],(.cD [KB,an]),[],U4 aaI⟩
theorem Yl:Ko ag3:=
 aw (.c .o (.r [4] .o)) call294 func294 (aj L4 (aj dK al))
def LK:aq:=⟨290,[lB,kL,aS,an],yX,[],U4 AR⟩
theorem Fi:Ko LK:=
 aw .o call290 func290 (aj Yl al)
def afU:aq:=⟨312,[J3,gz,aS,an],(.cD [J3,an]),[],U4 aa8⟩
theorem YW:Ko afU:=
 aw (.c .o (.r [4] .o)) call312 func312 (aj Kq (aj dK al))
def LO:aq:=⟨308,[lB,kL,aS,an],yX,[],U4 Bj⟩
theorem FQ:Ko LO:=
 aw .o call308 func308 (aj YW al)
def M8:aq:=⟨335,[lB,kL,aS,an],yX,[],U4 C7⟩
theorem Ho:Ko M8:=
 aw (.c .o (.r [5] .o)) call335 func335 (aj wI (aj dV (aj CX al)))
def V9:aq:=⟨378,[(.dat ED [none,some 11,none]),di,(.iH (.int .i64 1)),(.fn 380 [] [])],ew,[(true,0,(.agg [.same,.same,.same,.same,fW,.same]))],U2 LD⟩
theorem Nv:Ko V9:=
 aw (.l ⟨[(true,0,(.agg [.same,.same,.same,.same,fW,.same])),(false,19,an)],[]⟩ (.c (.r [4,0] .o) .o)) call378 func378 (aj j7 al)
def UM:aq:=⟨378,[(.dat ED [none,none,some 11]),di,(.iH (.int .i64 2)),(.fn 380 [] [])],ew,[(true,0,(.agg [.same,.same,.same,.same,.same,fW]))],U2 LW⟩
theorem No:Ko UM:=
 aw (.l ⟨[(true,0,(.agg [.same,.same,.same,.same,.same,fW])),(false,19,an)],[]⟩ (.c (.r [4,0] .o) .o)) call378 func378 (aj j7 al)
def Zc:aq:=⟨377,[tM,di,an],tM,[],U3 O2⟩
theorem PR:Ko Zc:=
 aw (.r [60000,2,0,0,1,2] (.c .o (.c .o (.c .o (.n 77777 .o))))) call377 func377 (aj dK (aj yc (aj Nv (aj No al))))
def agJ:aq:=⟨373,[tM,di,an],(.cD [tM,an]),[],U3 abO⟩
theorem Zf:Ko agJ:=
 aw .o call373 func373 (aj Iy (aj PR al))
def NF:aq:=⟨369,[lB,kL,aS,an],yX,[],U4 C1⟩
theorem Hp:Ko NF:=
 aw (.r [40000] .o) call369 func369 (aj dV (aj Zf al))
def adQ:aq:=⟨196,[kL,aS,an],yX,[],U3 XQ⟩
theorem VV:Ko adQ:=
 aw (.c .o (.r [3,6] .o)) call196 func196 (aj eU (aj xM (aj GH (aj Fi (aj FQ (aj Ho (aj Hp al)))))))
def IX:bH:=⟨152,[Mi,aS],Qi,none,false,false,.bool,[(true,0,Gz)],λs=>yo (d8 (d8 (d8 (d8 (d8 s))))).2.2.2.2.2 s.1 s.2.1 s.2.2.1 s.2.2.2.1 s.2.2.2.2.1 s.2.2.2.2.2.1 s.2.2.2.2.2.2.1 s.2.2.2.2.2.2.2.1 s.2.2.2.2.2.2.2.2.1 (d8 s).2.1 (d8 s).2.2.1 (d8 s).2.2.2.1 (d8 s).2.2.2.2.1 (d8 s).2.2.2.2.2.1 (d8 s).2.2.2.2.2.2.1 (d8 s).2.2.2.2.2.2.2.1 (d8 (d8 s)).1 (d8 (d8 s)).2.1 (d8 (d8 s)).2.2.1 (d8 (d8 s)).2.2.2.1 (d8 (d8 s)).2.2.2.2.1 (d8 (d8 s)).2.2.2.2.2.1 (d8 (d8 s)).2.2.2.2.2.2.1 (d8 (d8 s)).2.2.2.2.2.2.2.1 (d8 (d8 (d8 s))).1 (d8 (d8 (d8 s))).2.1 (d8 (d8 (d8 s))).2.2.1 (d8 (d8 (d8 s))).2.2.2.1 (d8 (d8 (d8 s))).2.2.2.2.1 (d8 (d8 (d8 s))).2.2.2.2.2.1 (d8 (d8 (d8 s))).2.2.2.2.2.2.1 (d8 (d8 (d8 s))).2.2.2.2.2.2.2.1 (d8 (d8 (d8 (d8 s)))).1 (d8 (d8 (d8 (d8 s)))).2.1 (d8 (d8 (d8 (d8 s)))).2.2.1 (d8 (d8 (d8 (d8 s)))).2.2.2.1 (d8 (d8 (d8 (d8 s)))).2.2.2.2.1 (d8 (d8 (d8 (d8 s)))).2.2.2.2.2.1 (d8 (d8 (d8 (d8 s)))).2.2.2.2.2.2.1 (d8 (d8 (d8 (d8 s)))).2.2.2.2.2.2.2.1 (d8 (d8 (d8 (d8 (d8 s))))).1 (d8 (d8 (d8 (d8 (d8 s))))).2.1 (d8 (d8 (d8 (d8 (d8 s))))).2.2.1 (d8 (d8 (d8 (d8 (d8 s))))).2.2.2.1 (d8 (d8 (d8 (d8 (d8 s))))).2.2.2.2.1⟩
theorem DH:pw IX:=
 oz .o call152 func152 (aj Vq (aj VV al)) (aj ku al) al λ_=>by kernel_rfl
def FG:bH:=⟨104,[Mi,aS,(.fn 152 [(.ptr 0 0)] []),(.fn 150 [] [JW,(.bx 225 0 false [Ml])]),(.fn 153 [] [])],Qi,some aaR,false,true,ew,[(true,0,Gz)],λs=>u5 (d8 (d8 (d8 (d8 (d8 s))))).2.2.2.2.2.1 s.1 s.2.1 s.2.2.1 s.2.2.2.1 s.2.2.2.2.1 s.2.2.2.2.2.1 s.2.2.2.2.2.2.1 s.2.2.2.2.2.2.2.1 s.2.2.2.2.2.2.2.2.1 (d8 s).2.1 (d8 s).2.2.1 (d8 s).2.2.2.1 (d8 s).2.2.2.2.1 (d8 s).2.2.2.2.2.1 (d8 s).2.2.2.2.2.2.1 (d8 s).2.2.2.2.2.2.2.1 (d8 (d8 s)).1 (d8 (d8 s)).2.1 (d8 (d8 s)).2.2.1 (d8 (d8 s)).2.2.2.1 (d8 (d8 s)).2.2.2.2.1 (d8 (d8 s)).2.2.2.2.2.1 (d8 (d8 s)).2.2.2.2.2.2.1 (d8 (d8 s)).2.2.2.2.2.2.2.1 (d8 (d8 (d8 s))).1 (d8 (d8 (d8 s))).2.1 (d8 (d8 (d8 s))).2.2.1 (d8 (d8 (d8 s))).2.2.2.1 (d8 (d8 (d8 s))).2.2.2.2.1 (d8 (d8 (d8 s))).2.2.2.2.2.1 (d8 (d8 (d8 s))).2.2.2.2.2.2.1 (d8 (d8 (d8 s))).2.2.2.2.2.2.2.1 (d8 (d8 (d8 (d8 s)))).1 (d8 (d8 (d8 (d8 s)))).2.1 (d8 (d8 (d8 (d8 s)))).2.2.1 (d8 (d8 (d8 (d8 s)))).2.2.2.1 (d8 (d8 (d8 (d8 s)))).2.2.2.2.1 (d8 (d8 (d8 (d8 s)))).2.2.2.2.2.1 (d8 (d8 (d8 (d8 s)))).2.2.2.2.2.2.1 (d8 (d8 (d8 (d8 s)))).2.2.2.2.2.2.2.1 (d8 (d8 (d8 (d8 (d8 s))))).1 (d8 (d8 (d8 (d8 (d8 s))))).2.1 (d8 (d8 (d8 (d8 (d8 s))))).2.2.1 (d8 (d8 (d8 (d8 (d8 s))))).2.2.2.1 (d8 (d8 (d8 (d8 (d8 s))))).2.2.2.2.1 (d8 (d8 (d8 (d8 (d8 s))))).2.2.2.2.2.2.1 (d8 (d8 (d8 (d8 (d8 s))))).2.2.2.2.2.2.2⟩
theorem BJ:pw FG:=
 oz (.l ⟨[(true,0,Gz),(false,11,(.own xX 277 true))],[]⟩ .o) call104 func104 (aj vx al) (aj nR (aj vX (aj DH al))) al λ_=>by kernel_rfl
def EH:bH:=⟨106,[Mi,Ml],Qi,some aaR,false,true,ew,[(true,0,Gz)],λs=>tH (d8 (d8 (d8 (d8 (d8 s))))).2.2.2.2.2 s.1 s.2.1 s.2.2.1 s.2.2.2.1 s.2.2.2.2.1 s.2.2.2.2.2.1 s.2.2.2.2.2.2.1 s.2.2.2.2.2.2.2.1 s.2.2.2.2.2.2.2.2.1 (d8 s).2.1 (d8 s).2.2.1 (d8 s).2.2.2.1 (d8 s).2.2.2.2.1 (d8 s).2.2.2.2.2.1 (d8 s).2.2.2.2.2.2.1 (d8 s).2.2.2.2.2.2.2.1 (d8 (d8 s)).1 (d8 (d8 s)).2.1 (d8 (d8 s)).2.2.1 (d8 (d8 s)).2.2.2.1 (d8 (d8 s)).2.2.2.2.1 (d8 (d8 s)).2.2.2.2.2.1 (d8 (d8 s)).2.2.2.2.2.2.1 (d8 (d8 s)).2.2.2.2.2.2.2.1 (d8 (d8 (d8 s))).1 (d8 (d8 (d8 s))).2.1 (d8 (d8 (d8 s))).2.2.1 (d8 (d8 (d8 s))).2.2.2.1 (d8 (d8 (d8 s))).2.2.2.2.1 (d8 (d8 (d8 s))).2.2.2.2.2.1 (d8 (d8 (d8 s))).2.2.2.2.2.2.1 (d8 (d8 (d8 s))).2.2.2.2.2.2.2.1 (d8 (d8 (d8 (d8 s)))).1 (d8 (d8 (d8 (d8 s)))).2.1 (d8 (d8 (d8 (d8 s)))).2.2.1 (d8 (d8 (d8 (d8 s)))).2.2.2.1 (d8 (d8 (d8 (d8 s)))).2.2.2.2.1 (d8 (d8 (d8 (d8 s)))).2.2.2.2.2.1 (d8 (d8 (d8 (d8 s)))).2.2.2.2.2.2.1 (d8 (d8 (d8 (d8 s)))).2.2.2.2.2.2.2.1 (d8 (d8 (d8 (d8 (d8 s))))).1 (d8 (d8 (d8 (d8 (d8 s))))).2.1 (d8 (d8 (d8 (d8 (d8 s))))).2.2.1 (d8 (d8 (d8 (d8 (d8 s))))).2.2.2.1 (d8 (d8 (d8 (d8 (d8 s))))).2.2.2.2.1⟩
theorem yZ:pw EH:=
 oz .o call106 func106 (aj Ro al) (aj BJ al) al λ_=>by kernel_rfl
def yP:aq:=⟨105,[Ml,aS],ew,[],U2 py⟩
theorem wa:Ko yP:=
 aw .o call105 func105 al
def Lz:bH:=⟨104,[Mi,aS,(.fn 103 [(.ptr 0 0)] []),(.fn 105 [] []),(.fn 106 [(.ptr 0 0)] [])],Qi,some aaR,false,false,ew,[(true,0,Gz)],λs=>A9 (d8 (d8 (d8 (d8 (d8 s))))).2.2.2.2.2 s.1 s.2.1 s.2.2.1 s.2.2.2.1 s.2.2.2.2.1 s.2.2.2.2.2.1 s.2.2.2.2.2.2.1 s.2.2.2.2.2.2.2.1 s.2.2.2.2.2.2.2.2.1 (d8 s).2.1 (d8 s).2.2.1 (d8 s).2.2.2.1 (d8 s).2.2.2.2.1 (d8 s).2.2.2.2.2.1 (d8 s).2.2.2.2.2.2.1 (d8 s).2.2.2.2.2.2.2.1 (d8 (d8 s)).1 (d8 (d8 s)).2.1 (d8 (d8 s)).2.2.1 (d8 (d8 s)).2.2.2.1 (d8 (d8 s)).2.2.2.2.1 (d8 (d8 s)).2.2.2.2.2.1 (d8 (d8 s)).2.2.2.2.2.2.1 (d8 (d8 s)).2.2.2.2.2.2.2.1 (d8 (d8 (d8 s))).1 (d8 (d8 (d8 s))).2.1 (d8 (d8 (d8 s))).2.2.1 (d8 (d8 (d8 s))).2.2.2.1 (d8 (d8 (d8 s))).2.2.2.2.1 (d8 (d8 (d8 s))).2.2.2.2.2.1 (d8 (d8 (d8 s))).2.2.2.2.2.2.1 (d8 (d8 (d8 s))).2.2.2.2.2.2.2.1 (d8 (d8 (d8 (d8 s)))).1 (d8 (d8 (d8 (d8 s)))).2.1 (d8 (d8 (d8 (d8 s)))).2.2.1 (d8 (d8 (d8 (d8 s)))).2.2.2.1 (d8 (d8 (d8 (d8 s)))).2.2.2.2.1 (d8 (d8 (d8 (d8 s)))).2.2.2.2.2.1 (d8 (d8 (d8 (d8 s)))).2.2.2.2.2.2.1 (d8 (d8 (d8 (d8 s)))).2.2.2.2.2.2.2.1 (d8 (d8 (d8 (d8 (d8 s))))).1 (d8 (d8 (d8 (d8 (d8 s))))).2.1 (d8 (d8 (d8 (d8 (d8 s))))).2.2.1 (d8 (d8 (d8 (d8 (d8 s))))).2.2.2.1 (d8 (d8 (d8 (d8 (d8 s))))).2.2.2.2.1⟩
theorem F9:pw Lz:=
 oz (.l ⟨[(true,0,Gz),(false,11,(.own xX 277 true))],[]⟩ .o) call104 func104 (aj wa al) (aj nR (aj yZ (aj ku al))) al λ_=>by kernel_rfl
def IZ:bH:=⟨68,[Mi],Qi,some aaR,false,false,ew,[(true,0,Gz)],λs=>yj s.1 s.2.1 s.2.2.1 s.2.2.2.1 s.2.2.2.2.1 s.2.2.2.2.2.1 s.2.2.2.2.2.2.1 s.2.2.2.2.2.2.2.1 s.2.2.2.2.2.2.2.2.1 (d8 s).2.1 (d8 s).2.2.1 (d8 s).2.2.2.1 (d8 s).2.2.2.2.1 (d8 s).2.2.2.2.2.1 (d8 s).2.2.2.2.2.2.1 (d8 s).2.2.2.2.2.2.2.1 (d8 (d8 s)).1 (d8 (d8 s)).2.1 (d8 (d8 s)).2.2.1 (d8 (d8 s)).2.2.2.1 (d8 (d8 s)).2.2.2.2.1 (d8 (d8 s)).2.2.2.2.2.1 (d8 (d8 s)).2.2.2.2.2.2.1 (d8 (d8 s)).2.2.2.2.2.2.2.1 (d8 (d8 (d8 s))).1 (d8 (d8 (d8 s))).2.1 (d8 (d8 (d8 s))).2.2.1 (d8 (d8 (d8 s))).2.2.2.1 (d8 (d8 (d8 s))).2.2.2.2.1 (d8 (d8 (d8 s))).2.2.2.2.2.1 (d8 (d8 (d8 s))).2.2.2.2.2.2.1 (d8 (d8 (d8 s))).2.2.2.2.2.2.2.1 (d8 (d8 (d8 (d8 s)))).1 (d8 (d8 (d8 (d8 s)))).2.1 (d8 (d8 (d8 (d8 s)))).2.2.1 (d8 (d8 (d8 (d8 s)))).2.2.2.1 (d8 (d8 (d8 (d8 s)))).2.2.2.2.1 (d8 (d8 (d8 (d8 s)))).2.2.2.2.2.1 (d8 (d8 (d8 (d8 s)))).2.2.2.2.2.2.1 (d8 (d8 (d8 (d8 s)))).2.2.2.2.2.2.2.1 (d8 (d8 (d8 (d8 (d8 s))))).1 (d8 (d8 (d8 (d8 (d8 s))))).2.1 (d8 (d8 (d8 (d8 (d8 s))))).2.2.1 (d8 (d8 (d8 (d8 (d8 s))))).2.2.2.1 (d8 (d8 (d8 (d8 (d8 s))))).2.2.2.2⟩
theorem DC:pw IZ:=
 oz (.r [] (.l ⟨[(true,0,Gz),(false,14,an)],[]⟩ .o)) call68 func68 (aj UR al) (aj ku (aj F9 al)) al λ_=>by kernel_rfl
def adT:aq:=⟨46,[xF,JO,wu],(.cD [.bool,WA,an,aS]),[],U3 Xt⟩
theorem ale:(⟨67,Tryz.f67⟩:jE).Ok X0.P:=⟨call67,func67⟩
theorem UU:Ko adT:=
 aX (.c (.r [6,7,8,9] .o) .o) call46 func46 (aj P9 (aj vw al)) (aj DC al) (aj ale al) λ_=>by kernel_rfl
def YX:aq:=⟨71,[aS],aS,[],λs=>Oj s⟩
theorem QW:Ko YX:=
 aw .o call71 func71 al
def HX:aq:=⟨72,[wA,(.fn 71 [] [])],iq,[],λs=>nT s⟩
theorem Cn:Ko HX:=
 aw (.l ⟨[(false,5,iq),(false,10,an)],[]⟩ .o) call72 func72 (aj QW al)
def agk:aq:=⟨48,[WA],WA,[],λs=>acW s⟩
theorem YA:Ko agk:=
 aw (.r [2] .o) call48 func48 (aj Cn al)
def BS:aq:=⟨113,[(.sli pU)],iq,[],λs=>ll s⟩
theorem mH:Ko BS:=
 aw (.l ⟨[(false,3,an),(false,11,an)],[]⟩ (.c .o (.l ⟨[(false,6,iq),(false,27,an)],[]⟩ .o))) call113 func113 (aj aiQ al)
def WT:aq:=⟨115,[aS,ahp],.bool,[],U6 Ln⟩
theorem M4:Ko WT:=
 aw .o call115 func115 (aj eU al)
def FM:aq:=⟨114,[wA,(.fn 115 [] [ahp])],dP,[],U6 va⟩
theorem A4:Ko FM:=
 aw (.l ⟨[(false,5,dP),(false,10,an)],[]⟩ .o) call114 func114 (aj M4 al)
def MZ:aq:=⟨120,[aS,JW],.bool,[],U2 Dj⟩
theorem Ir:Ko MZ:=
 aw .o call120 func120 (aj iW al)
def xT:aq:=⟨158,[wA,(.fn 120 [] [JW])],an,[],U2 oa⟩
theorem uP:Ko xT:=
 aw (.l ⟨[(false,8,an)],[]⟩ .o) call158 func158 (aj Ir al)
def uS:aq:=⟨119,[wA,(.fn 120 [] [JW])],.bool,[],U2 lC⟩
theorem ss:Ko uS:=
 aw .o call119 func119 (aj uP al)
def UT:aq:=⟨118,[aS,aS,ahp],.bool,[],U7 JS⟩
theorem M3:Ko UT:=
 aw .o call118 func118 (aj vL (aj ss al))
def PF:aq:=⟨117,[wA,(.fn 118 [] [ahp])],.bool,[],U6 Gb⟩
theorem Jt:Ko PF:=
 aw (.l ⟨[(false,5,an)],[]⟩ (.c (.r [1] .o) .o)) call117 func117 (aj M3 al)
def ad3:aq:=⟨73,[xF,WA],.bool,[],U2 L5⟩
theorem U1:Ko ad3:=
 aw (.c .o (.r [] (.r [6] .o))) call73 func73 (aj mH (aj A4 (aj fV (aj iW (aj Jt al)))))
def aaY:aq:=⟨75,[WA],(.dat (.p pU bd) [some 47]),[],λs=>GS s⟩
theorem RY:Ko aaY:=
 aw (.r [2] .o) call75 func75 (aj mH al)
def ai2:aq:=⟨159,[fE],.bool,[],λs=>WG s⟩
def JY(a:Ex->Ex)(g:Sh->(R:Type)->Option R->Option R)(e:Ex):vb:= (j4 (a e)).bind λd=> ai (d.2.1==0) λf=> ai (d.1==2) λc=> ai (f&&c) λb=> some b
theorem abX:Ko ai2:=
 aX .o call159 func159 (aj oU al) al al λs=>(show _=JY bk aM s from by kernel_rfl).trans ((congrArg (λa=>JY a aM s) aJ).trans ((congrArg (λb=>JY id b s) aN).trans (by kernel_rfl)))
def acy:aq:=⟨161,[an,Wh,KX],.bool,[],U7 Ur⟩
theorem Uy:Ko acy:=
 aw .o call161 func161 (aj oZ al)
def afE:aq:=⟨160,[an,(.fn 161 [] [Wh,KX])],dP,[],U7 Qk⟩
theorem Yn:Ko afE:=
 aw (.l ⟨[(true,5,dP),(false,11,an)],[]⟩ .o) call160 func160 (aj Uy al)
def abG:aq:=⟨165,[an,jb],.bool,[],U2 SS⟩
theorem Uu:Ko abG:=
 aw .o call165 func165 al
def Yg:aq:=⟨160,[an,(.fn 165 [] [jb])],dP,[],U2 OU⟩
theorem QY:Ko Yg:=
 aw (.l ⟨[(true,5,dP),(false,11,an)],[]⟩ .o) call160 func160 (aj Uu al)
def aam:aq:=⟨166,[an,jb,jb],.bool,[],U3 SB⟩
theorem Uo:Ko aam:=
 aw .o call166 func166 al
def Yi:aq:=⟨160,[an,(.fn 166 [] [jb,jb])],dP,[],U3 Ob⟩
theorem P3:Ko Yi:=
 aw (.l ⟨[(true,5,dP),(false,11,an)],[]⟩ .o) call160 func160 (aj Uo al)
def ZT:aq:=⟨167,[an,jb,jb],.bool,[],U3 UB⟩
theorem SK:Ko ZT:=
 aw .o call167 func167 al
def YF:aq:=⟨160,[an,(.fn 167 [] [jb,jb])],dP,[],U3 Oa⟩
theorem O6:Ko YF:=
 aw (.l ⟨[(true,5,dP),(false,11,an)],[]⟩ .o) call160 func160 (aj SK al)
def aal:aq:=⟨168,[an,jb,jb],.bool,[],U3 SO⟩
theorem Uw:Ko aal:=
 aw .o call168 func168 al
def YE:aq:=⟨160,[an,(.fn 168 [] [jb,jb])],dP,[],U3 N4⟩
theorem QJ:Ko YE:=
 aw (.l ⟨[(true,5,dP),(false,11,an)],[]⟩ .o) call160 func160 (aj Uw al)
def ZJ:aq:=⟨169,[an,jb,jb],.bool,[],U3 Sq⟩
theorem SU:Ko ZJ:=
 aw .o call169 func169 al
def YG:aq:=⟨160,[an,(.fn 169 [] [jb,jb])],dP,[],U3 NV⟩
theorem PM:Ko YG:=
 aw (.l ⟨[(true,5,dP),(false,11,an)],[]⟩ .o) call160 func160 (aj SU al)
def agM:aq:=⟨171,[Kf,an],an,[],U2 GY⟩
theorem xm:Ko agM:=
 aw .o call171 func171 al
def acB:aq:=⟨170,[an,jb,KX],.bool,[],U4 Rv⟩
theorem SD:Ko acB:=
 aw .o call170 func170 (aj xm al)
def Yc:aq:=⟨160,[an,(.fn 170 [] [jb,KX])],dP,[],U4 OW⟩
theorem P0:Ko Yc:=
 aw (.l ⟨[(true,5,dP),(false,11,an)],[]⟩ .o) call160 func160 (aj SD al)
def Uq:aq:=⟨164,[an,Mc],.bool,[],U2 IP⟩
theorem Lm:Ko Uq:=
 aw .o call164 func164 al
def YV:aq:=⟨160,[an,(.fn 164 [] [Mc])],dP,[],U2 NZ⟩
theorem Pb:Ko YV:=
 aw (.l ⟨[(true,5,dP),(false,11,an)],[]⟩ .o) call160 func160 (aj Lm al)
def acL:aq:=⟨163,[.bool,(.bx 3 0 false [an])],dP,[],U2 Hc⟩
theorem SV:Ko acL:=
 aw .o call163 func163 (aj Pb al)
def Wf:aq:=⟨210,[an,Mc],.bool,[],U2 K6⟩
theorem Nc:Ko Wf:=
 aw .o call210 func210 al
def YY:aq:=⟨160,[an,(.fn 210 [] [Mc])],dP,[],U2 EN⟩
theorem AL:Ko YY:=
 aw (.l ⟨[(true,5,dP),(false,11,an)],[]⟩ .o) call160 func160 (aj Nc al)
def MP:aq:=⟨200,[an,(.own .bo 4 false),Lp,Lp,KX],.bool,[],U6 Dt⟩
theorem Ig:Ko MP:=
 aw .o call200 func200 (aj xm al)
def V8:aq:=⟨211,[an,(.bx 321 0 false [ahj]),jb],.bool,[],λs=>Lo s.1 s.2.2.2.2.2 s.2.1 s.2.2.1 s.2.2.2.1 s.2.2.2.2.1⟩
theorem NI:Ko V8:=
 aw .o call211 func211 (aj Ig al)
def Vn:aq:=⟨160,[an,(.fn 211 [] [(.bx 321 0 false [ahj]),jb])],dP,[],λs=>Kz s.1 s.2.2.2.2.2 s.2.1 s.2.2.1 s.2.2.2.1 s.2.2.2.2.1⟩
theorem Nx:Ko Vn:=
 aw (.l ⟨[(true,5,dP),(false,11,an)],[]⟩ .o) call160 func160 (aj NI al)
def tS:aq:=⟨212,[(.own .bo 4 false),(.own .bo 4 false)],.bool,[],U2 gI⟩
theorem jf:Ko tS:=
 aw (.c .o (.l ⟨[(false,13,an)],[]⟩ .o)) call212 func212 al
def ac0:aq:=⟨199,[Kf,.bool,ahj],dP,[],U6 Xn⟩
theorem WN:Ko ac0:=
 aw (.n 0 (.j ⟨[(true,7,(.bx 287 0 true [dP]))],[]⟩ .o .o)) call199 func199 (aj AL (aj Nx (aj jf al)))
def adm:aq:=⟨172,[Kf,(.sli .bo),(.sli .bo)],dP,[],U3 Kd⟩
theorem Ws:Ko adm:=
 aw .o call172 func172 (aj WN al)
def Jb:aq:=⟨201,[an,(.own .bo 4 false),Lp,Lp,KX],.bool,[],U6 yn⟩
theorem Er:Ko Jb:=
 aw .o call201 func201 (aj xm al)
def Ns:aq:=⟨211,[an,(.bx 321 0 false [afG]),jb],.bool,[],λs=>Cv s.1 s.2.2.2.2.2 s.2.1 s.2.2.1 s.2.2.2.1 s.2.2.2.2.1⟩
theorem G5:Ko Ns:=
 aw .o call211 func211 (aj Er al)
def VZ:aq:=⟨160,[an,(.fn 211 [] [(.bx 321 0 false [afG]),jb])],dP,[],λs=>JE s.1 s.2.2.2.2.2 s.2.1 s.2.2.1 s.2.2.2.1 s.2.2.2.2.1⟩
theorem Nl:Ko VZ:=
 aw (.l ⟨[(true,5,dP),(false,11,an)],[]⟩ .o) call160 func160 (aj G5 al)
def WM:aq:=⟨199,[Kf,.bool,afG],dP,[],U6 LL⟩
theorem Na:Ko WM:=
 aw (.n 0 (.j ⟨[(true,7,(.bx 287 0 true [dP]))],[]⟩ .o .o)) call199 func199 (aj AL (aj Nl (aj jf al)))
def Yv:aq:=⟨173,[Kf,(.sli .bo),(.sli .bo)],dP,[],U3 ES⟩
theorem QX:Ko Yv:=
 aw .o call173 func173 (aj Na al)
def XL:aq:=⟨121,[fE,Kf],dP,[],U2 WH⟩
def EP(b:Ex->Ex)(o:Sh->(R:Type)->Option R->Option R)(m:(Ex×gM)->Option aU)(e:Ex)(c:gM):Option aU:= (WG (b e)).bind λj=> bif j then ( (Qk (c.1.length:Int) e.op e.n e.at_ e.l c.1 c.2).bind λi=> some i) else ( (idx e.l 0).bind λk=> (m ((b k),c)).bind λh=> ai (λ(d:aU)=>Ui e c h d) λa=> bif decide (1<(List.length e.l:Int)) then (idx e.l 1).bind λg=> (m ((b g),c)).bind λf=> a f else a [])
def XP:aas->aas:=λa s=>Xf a s.1 s.2
theorem U0(a:aas)(b:ap2 a):(yQ (XP a)).Ok X0.P X0.Γ:=
 aX (.c .o (.r [40000] (.s (.j ⟨[(true,7,(.bx 287 0 true [dP]))],[]⟩ (.c (.r [7] .o) .o) (.c .o (.c .o (.c .o (.c .o (.c .o (.c .o (.c (.r [6,8] .o) (.c (.r [6,8] .o) .o)))))))))))) call121 func121 (aj abX (aj Yn (aj b (aj QY (aj P3 (aj O6 (aj QJ (aj PM (aj P0 (aj SV (aj Ws (aj QX al)))))))))))) al al λs=>(show _=EP bk aM a s.1 s.2 from by kernel_rfl).trans ((congrArg (λd=>EP d aM a s.1 s.2) aJ).trans ((congrArg (λe=>EP id e a s.1 s.2) aN).trans (by kernel_rfl)))
theorem acT:Ko XL:=(show XL=yQ (az (XP) aC) by kernel_rfl)▸dT (X:=X0) (E:=yQ) ⟨call121,λ_ _ h=>nomatch h⟩ (U0) aC
def adL:aq:=⟨74,[fE,Kf],.bool,[],U2 KN⟩
def DA(a:Ex->Ex)(f:Sh->(R:Type)->Option R->Option R)(e:Ex)(c:gM):vb:= (WH (a e) c).bind λd=> (idx d 0).bind λb=> some b
theorem Vo:Ko adL:=
 aX .o call74 func74 (aj acT al) al al λs=>(show _=DA bk aM s.1 s.2 from by kernel_rfl).trans ((congrArg (λa=>DA a aM s.1 s.2) aJ).trans ((congrArg (λb=>DA id b s.1 s.2) aN).trans (by kernel_rfl)))
def Zj:aq:=⟨49,[xF,fE,WA],.bool,[],U3 O1⟩
def xR(d:Ex->Ex)(h:Sh->(R:Type)->Option R->Option R)(m:sV)(e:Ex)(l:te):vb:= (L5 m l).bind λa=> bu a default (GS l) λc=> bu a default (KN (d e) c) λb=> ai (!b) λg=> ai (a&&g) λf=> some f
theorem Qn:Ko Zj:=
 aX .o call49 func49 (aj U1 (aj RY (aj Vo al))) al al λs=>(show _=xR bk aM s.1 s.2.1 s.2.2 from by kernel_rfl).trans ((congrArg (λa=>xR a aM s.1 s.2.1 s.2.2) aJ).trans ((congrArg (λb=>xR id b s.1 s.2.1 s.2.2) aN).trans (by kernel_rfl)))
def IY:aq:=⟨37,[agE],.bool,[(true,0,(.bx 81 0 true [.same,.same,.same,.same,.same,.same,.same,.same,.same,.same,.same,.same,.same,.same,.same,.same,.same,an,an,an,aS,wA,wA]))],λs=>xZ s.1 s.2.1 s.2.2.1 s.2.2.2.1 s.2.2.2.2.1 s.2.2.2.2.2.1 s.2.2.2.2.2.2.1 s.2.2.2.2.2.2.2.1 s.2.2.2.2.2.2.2.2.1 (d8 s).2.1 (d8 s).2.2.1 (d8 s).2.2.2.1 (d8 s).2.2.2.2.1 (d8 s).2.2.2.2.2.1 (d8 s).2.2.2.2.2.2.1 (d8 s).2.2.2.2.2.2.2.1 (d8 (d8 s)).1 (d8 (d8 s)).2.1 (d8 (d8 s)).2.2.1 (d8 (d8 s)).2.2.2.1 (d8 (d8 s)).2.2.2.2.1 (d8 (d8 s)).2.2.2.2.2.1 (d8 (d8 s)).2.2.2.2.2.2⟩
theorem EF:Ko IY:=
 aw (.r [40000] (.c .o (.r [40000] .o))) call37 func37 (aj H5 (aj UU (aj gP (aj YA (aj Qn al)))))
def Y9:aq:=⟨27,[.str,.str,wu],(.dat QG [none,none,none]),[],U3 OD⟩
theorem alm:(⟨33,Tryz.f33⟩:jE).Ok X0.P:=⟨call33,func33⟩
theorem PS:Ko Y9:=
 aX (.n 50 .o) call27 func27 (aj Hg (aj EM (aj AG (aj EF al)))) al (aj alm al) λ_=>by kernel_rfl
def adZ:aq:=⟨11,[(.dat QG [none,none,none])],.str,[],λs=>LI s⟩
theorem FI:Ko adZ:=
 aw (.s (.s (.j ⟨[(true,3,EL)],[]⟩ .o (.l ⟨[(true,3,EL),(false,35,an)],[]⟩ (.c .o (.l ⟨[(true,3,EL),(false,47,an)],[]⟩ (.c .o (.j ⟨[(true,3,EL)],[1]⟩ .o .o)))))))) call11 func11 (aj IL (aj jn (aj lI al)))
def ahk:aq:=⟨16,[.str],.str,[],λs=>lU s⟩
theorem Ix:Ko ahk:=
 aw .o call16 func16 (aj alM (aj pL (aj IL (aj PS (aj FI al)))))
def FC:aq:=⟨7,[],.bool,[],λ_=>nt⟩
theorem AD:Ko FC:=
 aw .o call7 func7 (aj Ix (aj pL (aj FI al)))
end
end Go.Proofs.YtkedhpmpejhekaaGreatDoor
