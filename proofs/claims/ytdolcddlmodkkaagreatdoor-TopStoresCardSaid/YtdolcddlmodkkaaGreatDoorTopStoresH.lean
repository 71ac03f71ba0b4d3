/- Own texts for TopStores, cut and joined by a program. -/
import Derived.Test.YtdolcddlmodkkaaGreatDoorTopStoresG
set_option linter.all false
namespace Go.Proofs.YtdolcddlmodkkaaGreatDoor
open IntKind (i32 i64)
open Go.Proofs
noncomputable section
set_option maxRecDepth 100000
abbrev Xu:Ty:=(.p (.i .i64) (.p (.l (.p (.i .i64) (.i .i64))) (.p (.i .i64) (.p (.p (.p (.i .i64) (.p (.l (.l (.i .u8))) (.l (.i .i64)))) (.l (.i .u8))) (.p (.p (.l (.p (.i .i64) (.p (.l (.l (.i .u8))) (.l (.i .i64))))) (.p (.p (.i .i64) (.p (.l (.l (.i .u8))) (.l (.i .i64)))) (.l (.i .u8)))) (.p (.p (.l (.p (.i .i64) (.p (.l (.l (.i .u8))) (.l (.i .i64))))) (.l (.i .u8))) (.p (.p (.p (.i .i64) (.p (.l (.p (.l (.p (.i .u8) (.i .i64))) (.i .i64))) (.p (.i .i64) (.p (.i .i64) (.l (.i .i64)))))) (.p (.p (.i .i64) (.p (.l (.p (.l (.p (.i .u8) (.i .i64))) (.i .i64))) (.p (.i .i64) (.p (.i .i64) (.l (.i .i64)))))) (.p (.i .i64) (.p (.l (.p (.l (.p (.i .u8) (.i .i64))) (.i .i64))) (.p (.i .i64) (.p (.i .i64) (.l (.i .i64)))))))) (.p (.i .i64) (.p (.i .i64) (.p (.i .u64) (.p (.l (.i .u8)) (.p (.l (.i .u8)) (.l (.i .u8))))))))))))))
abbrev bc:Ty:=(.i .i64)
abbrev aq:Pt:=(.int .i64)
abbrev jY:Pt:=(.dat Xu [none,none,none,none,none,none,none,none,none,none,none,none,none,none,none,none,none,none,none])
abbrev QL5:List Pt:=(.same:: .same:: .same:: .same:: .same:: .same:: .same:: .same:: .same::aq::(.sli (.p bc bc))::aq::aq::(.sli (.l (.i .u8)))::(.sli bc)::(.sli (.i .u8))::(.sli (.p bc (.p (.l (.l (.i .u8))) (.l bc))))::aq::(.sli (.l (.i .u8)))::(.sli bc)::(.sli (.i .u8))::(.sli (.p bc (.p (.l (.l (.i .u8))) (.l bc))))::(.sli (.i .u8))::aq::(.sli (.p (.l (.p (.i .u8) bc)) bc))::aq::aq::(.sli bc)::aq::(.sli (.p (.l (.p (.i .u8) bc)) bc))::aq::aq::(.sli bc)::aq::(.sli (.p (.l (.p (.i .u8) bc)) bc))::aq::aq::(.sli bc)::aq::aq::(.int .u64)::(.sli (.i .u8))::(.sli (.i .u8))::(.sli (.i .u8)):: .same::[])
abbrev fy:Ty:=(.p bc (.p (.l (.l (.i .u8))) (.l bc)))
abbrev QL7:List Pt:=((.sli .s)::(.sli (.p bc bc))::(.sli bc)::(.sli .s)::(.sli (.p bc (.p .ex (.l (.p bc .ex)))))::(.sli (.l .ex))::(.sli (.l bc))::(.sli bc)::(.sli (.l bc))::aq::(.sli (.p bc bc))::aq::aq::(.sli (.l (.i .u8)))::(.sli bc)::(.sli (.i .u8))::(.sli fy)::aq::(.sli (.l (.i .u8)))::(.sli bc)::(.sli (.i .u8))::(.sli fy)::(.sli (.i .u8))::aq::(.sli (.p (.l (.p (.i .u8) bc)) bc))::aq::aq::(.sli bc)::aq::(.sli (.p (.l (.p (.i .u8) bc)) bc))::aq::aq::(.sli bc)::aq::(.sli (.p (.l (.p (.i .u8) bc)) bc))::aq::aq::(.sli bc)::aq::aq::(.int .u64)::(.sli (.i .u8))::(.sli (.i .u8))::(.sli (.i .u8))::aq::[])
abbrev cU:Pt:=(.bx 240 0 true [.same,aq,.same,aq,aq,aq])
abbrev jH:Pt:=(.bx 240 0 true [(.own (.p bc (.p .s (.p bc bc))) 170 false),aq,(.own .s 9 false),aq,aq,aq])
abbrev Lm:Ty:=(.p (.l .s) (.p (.l (.p bc bc)) (.p (.l bc) (.p (.l .s) (.l (.p bc (.p .ex (.l (.p bc .ex)))))))))
abbrev aP:Ty:=(.i .u8)
abbrev fN:Pt:=(.bx 240 0 true [(.sli (.p bc (.p .s (.p bc bc)))),aq,(.sli .s),aq,aq,aq])
abbrev akV:Ty:=(.p aP (.p aP (.p aP (.p aP (.p aP (.p aP (.p aP (.p aP (.p aP (.p aP (.p aP (.p aP (.p aP (.p aP (.p aP (.p aP (.p aP (.p aP (.p aP (.p aP (.p aP (.p aP (.p aP (.p aP (.p aP (.p aP (.p aP (.p aP (.p aP (.p aP (.p aP (.p aP (.p aP (.p aP (.p aP (.p aP (.p aP (.p aP (.p aP (.p aP (.p aP (.p aP (.p aP (.p aP (.p aP (.p aP (.p aP (.p aP (.p aP (.p aP (.p aP (.p aP (.p aP (.p aP (.p aP (.p aP (.p aP (.p aP (.p aP (.p aP (.p aP (.p aP (.p aP aP)))))))))))))))))))))))))))))))))))))))))))))))))))))))))))))))
abbrev dR:Ty:=(.p bc bc)
abbrev Ix:Ty:=(.p bc (.p bc (.p (.i .u64) (.p (.l aP) (.p (.l aP) (.l aP))))))
abbrev nC:Ty:=(.p (.l (.p aP bc)) bc)
abbrev bM:Pt:=(.dat .ex [some 89])
abbrev ni:Ty:=(.l (.l bc))
abbrev aO:Pt:=(.sli bc)
abbrev vk:Ty:=(.p bc (.p .ex (.l (.p bc .ex))))
abbrev akj:Pt:=(.bx 74 0 true [aq,(.sli dR),aq,aq,(.sli (.l aP)),aO,(.sli aP),(.sli fy),aq,(.sli (.l aP)),aO,(.sli aP),(.sli fy),(.sli aP),aq,(.sli nC),aq,aq,aO,aq,(.sli nC),aq,aq,aO,aq,(.sli nC),aq,aq,aO,aq,aq,(.int .u64),(.sli aP),(.sli aP),(.sli aP)])
abbrev jj:Pt:=(.own (.l bc) 30 true)
abbrev nq:Ty:=(.p bc (.p .s dR))
abbrev kF:Pt:=(.bx 323 0 false [(.own .bo 4 false)])
abbrev V4:Ty:=(.p (.l (.l .ex)) (.p ni (.p (.l bc) ni)))
abbrev Aa:Ty:=(.p bc (.p (.l nC) (.p bc (.p bc (.l bc)))))
abbrev ZE:Ty:=(.p bc (.p bc (.p bc (.p (.i .u64) dR))))
abbrev gJ:Pt:=(.own bc 3 true)
abbrev apB:Ty:=(.p aP (.p aP (.p aP (.p aP (.p aP (.p aP (.p aP (.p aP (.p aP (.p aP (.p aP (.p aP (.p aP (.p aP (.p aP (.p aP (.p aP (.p aP (.p aP (.p aP (.p aP (.p aP (.p aP aP)))))))))))))))))))))))
abbrev agl:Pt:=(.bx 166 0 true [(.own nq 170 false),aq,(.own .s 9 false),(.own dR 134 false),(.own bc 3 false),(.own .s 9 false),(.own vk 272 false)])
abbrev aat:Ty:=(.p (.l dR) (.p bc (.p ni (.l (.p .bo .bo)))))
abbrev iw:Pt:=(.own aP 5 true)
abbrev xi:Ty:=(.p (.i .u64) (.i .u64))
abbrev alW:Pt:=(.bx 115 0 true [.str,.str,aq,aq,aq,(.int .u64),aq,aq,(.sli .s),(.sli dR),aO,(.sli .s),(.sli vk),aq,aq,aq,(.sli .ex),aq,aq,aq,aO,jj,jj])
abbrev akP:Pt:=(.bx 115 0 true [.same,.same,.same,.same,.same,.same,.same,.same,.same,.same,.same,.same,.same,.same,.same,.same,.same,aq,aq,aq,aO,jj,jj])
abbrev eU:Pt:=(.own .bo 4 true)
abbrev K0:Pt:=(.dat (.p (.l fy) (.p fy (.l aP))) [none,none,none,none])
abbrev Vp:Ty:=(.p bc (.p bc (.p bc (.p (.l bc) (.p ni ni)))))
abbrev AG:Pt:=(.dat Lm [none,none,none,none,none])
abbrev ajV:Pt:=(.bx 166 0 false [(.own nq 170 false),aq,(.own .s 9 false),(.own dR 134 false),(.own bc 3 false),(.own .s 9 false),(.own vk 272 false)])
abbrev NK:Pt:=(.bx 131 0 false [(.sli (.l bc)),aq])
abbrev gW:Pt:=(.dat .ex [none])
abbrev Ns:Pt:=(.bx 323 0 false [(.sli .bo)])
abbrev Vn:Pt:=(.bx 166 0 true [.same,aq,.same,.same,.same,.same,.same])
abbrev aah:Ty:=(.p aP (.p aP (.p aP (.p aP (.p aP (.p aP (.p aP aP)))))))
abbrev ym:Pt:=(.dat Ix [none,none,none])
abbrev jD:Ty:=(.l aP)
abbrev NO:Pt:=(.bx 44 0 true [aq,aq,aq,(.own .ex 44 true)])
abbrev L0:Pt:=(.bx 44 0 true [.same,.same,.same,.same])
abbrev eC:Pt:=(.sli aP)
abbrev afs:Pt:=(.bx 526 0 true [.same,(.own nC 420 true),.same,.same,gJ,.same])
abbrev LD:Pt:=(.dat (.p (.l fy) jD) [none,none])
abbrev auX:Ty:=(.p (.i .u64) (.p (.i .u64) (.p (.i .u64) (.p (.i .u64) (.p (.i .u64) (.p (.i .u64) (.p (.i .u64) (.p (.i .u64) (.p (.i .u64) (.p (.i .u64) (.p (.i .u64) (.p (.i .u64) (.p (.i .u64) (.p (.i .u64) (.p (.i .u64) (.p (.i .u64) (.p (.i .u64) (.p (.i .u64) xi))))))))))))))))))
abbrev Iw:Pt:=(.ifc 539 (.bx 537 0 true [gJ]))
abbrev fF:Pt:=(.sli dR)
abbrev K8:Pt:=(.bx 307 0 true [(.own .ex 44 true)])
abbrev PO:Pt:=(.bx 309 0 true [(.own xi 312 true)])
abbrev NU:Pt:=(.dat (.p fy jD) [none,none,none])
abbrev xC:Pt:=(.sli (.l bc))
abbrev Hg:Pt:=(.bx 259 0 true [.sfp,iw])
abbrev B6:Ty:=(.p (.l bc) ni)
abbrev Pr:Pt:=(.dat V4 [none,none,none,none])
abbrev HN:Pt:=(.ifc 162 (.agg [aq,aq]))
abbrev ka:Pt:=(.dat .un [])
abbrev vz:Pt:=(.cB [.bool,aq])
abbrev aaI:Pt:=(.bx 156 0 true [.same,.same,.same,.same])
abbrev Y4:Pt:=(.bx 44 0 false [aq,aq,aq,(.sli .ex)])
abbrev aut:Ty:=(.p .s (.p .s (.p .s (.p .s (.p .s (.p .s (.p .s (.p .s (.p .s (.p .s (.p .s (.p .s (.p .s (.p .s (.p .s (.p .s (.p .s (.p .s (.p .s (.p .s (.p .s (.p .s (.p .s (.p .s .s))))))))))))))))))))))))
abbrev lM:Ty:=(.p aP bc)
abbrev aj9:Pt:=(.bx 502 0 true [(.own fy 417 true),(.fn 380 [(.ptr 0 0)] [])])
abbrev Pb:Pt:=(.dat aat [none,none,none])
abbrev akU:Pt:=(.bx 62 0 true [(.own fy 56 true),.same,.same,.same,.same])
abbrev akL:Pt:=(.bx 41 0 false [(.sli .s),fF,aO,(.sli .s),(.sli vk)])
abbrev fH:Pt:=(.cB [])
abbrev It:Pt:=(.dat fy [none,none])
abbrev Y8:Pt:=(.fn 440 [] [(.bx 4 0 true [.bool])])
abbrev aqi:Pt:=(.bx 526 0 true [.same,(.own nC 420 true),.same,.same,gJ,(.mp bc .bo true)])
abbrev Nz:Pt:=(.dat (.p ni bc) [none])
abbrev EC:Pt:=(.bx 3 0 true [aq])
abbrev akW:Pt:=(.bx 502 0 false [(.sli fy),(.fn 384 [(.ptr 0 0)] [])])
abbrev sf:Pt:=(.int .u64)
abbrev ao4:Pt:=(.bx 526 0 true [aq,(.own nC 420 true),aq,aq,gJ,(.mp bc .bo false)])
abbrev aqM:Pt:=(.bx 526 0 true [aq,(.own nC 420 true),aq,aq,gJ,(.mp bc .bo true)])
abbrev af4:Pt:=(.bx 224 0 true [jj,(.mp .s .bo true)])
abbrev agS:Pt:=(.bx 363 0 true [jj,(.mp .s .bo true)])
abbrev jK:Pt:=(.int .u8)
abbrev Ed:Pt:=(.cB [aq,.bool])
abbrev Vt:Pt:=(.ifc 285 (.agg [aq,aO]))
abbrev Zm:Pt:=(.dat (.p ni ni) [none,none])
abbrev Ep:Pt:=(.own .s 9 true)
abbrev akv:Pt:=(.bx 62 0 true [.same,.same,.same,.same,.same])
abbrev Ur:Ty:=(.p aP (.p (.l bc) bc))
abbrev aj4:Ty:=(.p (.l nq) (.p bc (.p (.l .s) (.p bc dR))))
abbrev ami:Ty:=(.p .s (.p .s (.p ZE (.p Lm (.p .ex Vp)))))
abbrev OX:Pt:=(.bx 30 0 false [aO])
abbrev EO:Pt:=(.own .s 9 false)
abbrev aj3:Pt:=(.bx 59 0 false [aq,(.sli jD),aO,eC])
abbrev VW:Pt:=(.own vk 272 true)
abbrev KX:Pt:=(.bx 290 0 true QL5)
abbrev oV:Ty:=(.p jD bc)
abbrev adJ:Pt:=(.bx 502 0 true [(.own fy 417 true),.same])
abbrev lG:Pt:=(.int .u32)
abbrev KH:Pt:=(.own dR 134 true)
abbrev adP:Ty:=(.p (.l nq) (.p bc (.p (.l .s) dR)))
abbrev P7:Ty:=(.p .s (.p .s (.p .s .s)))
abbrev Km:Pt:=(.bx 25 0 true [sf])
abbrev CJ:Pt:=(.cB [jY,aq])
abbrev Yd:Pt:=(.ifc 287 (.agg [xC,xC]))
abbrev adD:Ty:=(.p (.l nq) (.p bc (.p Lm dR)))
abbrev adx:Pt:=(.bx 344 0 true [(.mp xi .bo true)])
abbrev KS:Pt:=(.own nq 170 false)
abbrev adB:Pt:=(.bx 310 0 true [(.mp xi bc true)])
abbrev QA:Pt:=(.cB [jY,.bool,aq])
abbrev QD:Pt:=(.bx 4 0 false [.bool])
abbrev Yc:Ty:=(.p (.l fy) (.p fy jD))
abbrev AQ:Pt:=(.dat ZE [])
abbrev u4:Ty:=(.p bc .ex)
abbrev akB:Pt:=(.dat V4 [some 85,some 61,some 7,some 61])
abbrev Qf:Pt:=(.own dR 134 false)
abbrev Qk:Pt:=(.own B6 370 false)
abbrev adM:Ty:=(.p Lm (.p V4 (.p Xu bc)))
abbrev LC:Pt:=(.own bc 3 false)
abbrev aki:Pt:=(.bx 59 0 true [aq,(.sli jD),aO,eC])
abbrev adU:Ty:=(.p bc (.p bc (.p .bo aP)))
abbrev ark:Ty:=(.p aP (.p aP (.p aP (.p aP (.p aP (.p aP (.p aP (.p aP apB))))))))
abbrev Xh:Pt:=(.dat Aa [none,none])
abbrev QE:Pt:=(.bx 290 0 true QL7)
abbrev adT:Ty:=(.p .s (.p .s (.p aP dR)))
abbrev arU:Pt:=(.bx 345 0 true [(.fn 210 [] [(.ptr 0 0),(.ptr 2 0),(.ptr 4 0),(.ptr 7 0)])])
abbrev adI:Ty:=(.p (.l nq) (.p bc Lm))
abbrev adu:Pt:=(.bx 463 0 true [iw,aq])
abbrev Gx:Ty:=(.p ni ni)
abbrev Qj:Pt:=(.sli (.i .u32))
abbrev adC:Pt:=(.bx 319 0 true [.same])
abbrev ars:Pt:=(.bx 166 0 true [.same,aq,.same,.same,.same,.same,VW])
abbrev arR:Pt:=(.bx 240 0 false [(.sli nq),aq,(.sli .s),aq,aq,aq])
abbrev arZ:Pt:=(.bx 156 0 true [(.own (.l .ex) 42 true),jj,.same,.same])
abbrev ady:Pt:=(.bx 537 0 true [gJ])
abbrev YK:Ty:=(.p (.l fy) jD)
abbrev GW:Pt:=(.ifc 3 aq)
abbrev arG:Pt:=(.bx 166 0 true [.same,aq,Ep,KH,gJ,Ep,VW])
abbrev Qm:Pt:=(.fn 286 [] [])
abbrev Qc:Pt:=(.fn 280 [] [])
abbrev P6:Pt:=(.fn 278 [] [])
abbrev Qz:Pt:=(.fn 219 [] [])
abbrev P5:Pt:=(.fn 115 [] [])
abbrev adE:Pt:=(.bx 30 0 true [aO])
abbrev adO:Pt:=(.bx 4 0 true [.bool])
abbrev alr:Pt:=(.fn 226 [] [Ns,Ns,NK])
abbrev ame:Pt:=(.fn 227 [] [Ns,Ns,NK])
open Tryz
theorem ajE:ao3 Tryz.prog 233:=λv w=>by rw [run_callFunc_extern func233 (by kernel_rfl) (by kernel_rfl) (by kernel_rfl) (e:=Extern.AbiNoEscape.same) (by kernel_rfl)];rfl
noncomputable def X00:Cx:=⟨Tryz.prog,[(2,bc),(3,bc),(4,.bo),(5,aP),(6,aP),(7,adU),(8,adU),(9,.s),(10,.s),(11,.s),(12,(.i .u64)),(13,(.p .s (.i .u64))),(14,(.p .s (.i .u64))),(21,(.i .i32)),(22,adT),(23,adT),(25,(.i .u64)),(26,ZE),(27,ZE),(29,bc),(30,(.l bc)),(31,ni),(32,Gx),(33,Gx),(34,Vp),(35,Vp),(37,(.l .s)),(38,(.l dR)),(39,(.l vk)),(40,Lm),(41,Lm),(42,(.l .ex)),(43,(.p bc (.p bc (.p bc (.l .ex))))),(44,.ex),(52,(.l Ur)),(54,(.l jD)),(55,fy),(56,fy),(57,jD),(58,(.p fy jD)),(59,(.p fy jD)),(60,(.l fy)),(61,Yc),(62,Yc),(63,(.l fy)),(64,YK),(65,YK),(66,(.l nC)),(67,Aa),(68,Aa),(69,(.p Aa (.p Aa Aa))),(70,(.p jD (.p jD jD))),(71,Ix),(72,Ix),(73,Xu),(74,Xu),(77,(.l (.p .bo .bo))),(78,aat),(79,aat),(82,Ur),(83,Ur),(114,ami),(115,ami),(119,(.l .bo)),(120,(.l (.l .bo))),(130,(.p ni bc)),(131,(.p ni bc)),(133,dR),(134,dR),(135,(.l .n)),(140,.n),(147,(.p .bo .bo)),(154,(.l (.l .ex))),(155,V4),(156,V4),(158,(.l nq)),(161,dR),(162,dR),(165,adI),(166,adI),(169,nq),(170,nq),(183,adD),(184,adD),(214,dR),(215,.un),(216,.un),(217,.un),(218,.un),(219,.un),(220,.un),(239,aj4),(240,aj4),(252,(.p .s P7)),(253,(.p bc (.p bc (.p bc dR)))),(264,P7),(270,(.l u4)),(271,vk),(272,vk),(274,u4),(275,u4),(276,adP),(277,adP),(284,(.p bc (.l bc))),(285,(.p bc (.l bc))),(286,Gx),(287,Gx),(289,adM),(290,adM),(302,dR),(303,dR),(306,(.l .ex)),(307,(.l .ex)),(309,(.l xi)),(311,xi),(312,xi),(320,(.l ni)),(323,(.l .bo)),(336,(.l B6)),(351,dR),(355,(.i .u64)),(356,(.l dR)),(357,dR),(358,dR),(369,B6),(370,B6),(375,(.p .s (.p .s (.p .s (.p .s (.p .s P7)))))),(378,aut),(380,(.i .u32)),(383,apB),(395,auX),(396,(.p aP akV)),(402,ark),(403,akV),(406,.un),(407,.un),(408,.un),(409,aP),(410,aP),(412,(.i .i32)),(413,(.i .i32)),(416,fy),(417,fy),(418,(.l lM)),(419,nC),(420,nC),(441,oV),(442,oV),(449,fy),(450,fy),(451,fy),(452,fy),(460,oV),(461,oV),(462,oV),(463,oV),(504,(.l (.i .u32))),(511,aah),(512,aah),(530,lM),(531,lM),(537,(.l bc))],[],[233],(List.forall_mem_cons.2 ⟨ajE,(λ_ h=>nomatch h)⟩),aA,[216,217,218,219,220],[],(λ_ h=>nomatch h),[(25,21),(66,40),(83,44)]⟩
noncomputable def X0:Cx:=⟨Tryz.prog,[(2,bc),(3,bc),(4,.bo),(5,aP),(6,aP),(7,adU),(8,adU),(9,.s),(10,.s),(11,.s),(12,(.i .u64)),(13,(.p .s (.i .u64))),(14,(.p .s (.i .u64))),(21,(.i .i32)),(22,adT),(23,adT),(25,(.i .u64)),(26,ZE),(27,ZE),(29,bc),(30,(.l bc)),(31,ni),(32,Gx),(33,Gx),(34,Vp),(35,Vp),(37,(.l .s)),(38,(.l dR)),(39,(.l vk)),(40,Lm),(41,Lm),(42,(.l .ex)),(43,(.p bc (.p bc (.p bc (.l .ex))))),(44,.ex),(52,(.l Ur)),(54,(.l jD)),(55,fy),(56,fy),(57,jD),(58,(.p fy jD)),(59,(.p fy jD)),(60,(.l fy)),(61,Yc),(62,Yc),(63,(.l fy)),(64,YK),(65,YK),(66,(.l nC)),(67,Aa),(68,Aa),(69,(.p Aa (.p Aa Aa))),(70,(.p jD (.p jD jD))),(71,Ix),(72,Ix),(73,Xu),(74,Xu),(77,(.l (.p .bo .bo))),(78,aat),(79,aat),(82,Ur),(83,Ur),(114,ami),(115,ami),(119,(.l .bo)),(120,(.l (.l .bo))),(130,(.p ni bc)),(131,(.p ni bc)),(133,dR),(134,dR),(135,(.l .n)),(140,.n),(147,(.p .bo .bo)),(154,(.l (.l .ex))),(155,V4),(156,V4),(158,(.l nq)),(161,dR),(162,dR),(165,adI),(166,adI),(169,nq),(170,nq),(183,adD),(184,adD),(214,dR),(215,.un),(216,.un),(217,.un),(218,.un),(219,.un),(220,.un),(239,aj4),(240,aj4),(252,(.p .s P7)),(253,(.p bc (.p bc (.p bc dR)))),(264,P7),(270,(.l u4)),(271,vk),(272,vk),(274,u4),(275,u4),(276,adP),(277,adP),(284,(.p bc (.l bc))),(285,(.p bc (.l bc))),(286,Gx),(287,Gx),(289,adM),(290,adM),(302,dR),(303,dR),(306,(.l .ex)),(307,(.l .ex)),(309,(.l xi)),(311,xi),(312,xi),(320,(.l ni)),(323,(.l .bo)),(336,(.l B6)),(351,dR),(355,(.i .u64)),(356,(.l dR)),(357,dR),(358,dR),(369,B6),(370,B6),(375,(.p .s (.p .s (.p .s (.p .s (.p .s P7)))))),(378,aut),(380,(.i .u32)),(383,apB),(395,auX),(396,(.p aP akV)),(402,ark),(403,akV),(406,.un),(407,.un),(408,.un),(409,aP),(410,aP),(412,(.i .i32)),(413,(.i .i32)),(416,fy),(417,fy),(418,(.l lM)),(419,nC),(420,nC),(441,oV),(442,oV),(449,fy),(450,fy),(451,fy),(452,fy),(460,oV),(461,oV),(462,oV),(463,oV),(504,(.l (.i .u32))),(511,aah),(512,aah),(530,lM),(531,lM),(537,(.l bc))],[(0,0,⟨.l .s,EM⟩),(1,0,⟨.l .s,oA⟩),(2,0,⟨.un,()⟩),(3,0,⟨.l .s,Kh⟩),(4,0,⟨.l .s,Br⟩),(5,0,⟨.l (.i .u64),uJ⟩)],[233],(List.forall_mem_cons.2 ⟨ajE,(λ_ h=>nomatch h)⟩),aA,[216,217,218,219,220],[⟨329,λargs H st K=>UU X00 Tryz.f329 args H st K⟩,⟨320,λargs H st K=>UU X00 Tryz.f320 args H st K⟩,⟨440,λargs H st K=>UU X00 Tryz.f440 args H st K⟩,⟨441,λargs H st K=>UU X00 Tryz.f441 args H st K⟩],(List.forall_mem_cons.2 ⟨W7 (X:=X00) call329 func329 rfl,(List.forall_mem_cons.2 ⟨W7 (X:=X00) call320 func320 rfl,(List.forall_mem_cons.2 ⟨W7 (X:=X00) call440 func440 rfl,(List.forall_mem_cons.2 ⟨W7 (X:=X00) call441 func441 rfl,(λ_ h=>nomatch h)⟩)⟩)⟩)⟩),[(25,21),(66,40),(83,44)]⟩
abbrev Ko(e:au):=e.Ok X0.P X0.Γ
abbrev tY(e:bO):=e.Ok X0.P X0.Γ
theorem ay{X:Cx}{tb:List au}{fn:Func}{e:au}(h:HT)(c:Enters X.P e.f)(b:X.P.funcs[e.f]? =some fn)(a:∀e∈tb,e.Ok X.P X.Γ)(eq:∀s,afr X tb [] [] h fn e s=e.m s:=by intro _;kernel_rfl):e.Ok X.P X.Γ:=ba h c b a ao ao eq
theorem agE{X:Cx}{tb:List au}{fn:Func}{e:bO}(h:HT)(c:Enters X.P e.f)(b:X.P.funcs[e.f]? =some fn)(a:∀e∈tb,e.Ok X.P X.Γ)(eq:∀s,aqD X tb [] [] h fn e s=e.m s:=by intro _;kernel_rfl):e.Ok X.P X.Γ:=s6 h c b a ao ao eq
abbrev U2{a z r:Type}(F:a->z->r)(s:a×z):r:=F s.1 s.2
abbrev U3{a b z r:Type}(F:a->b->z->r)(s:a×b×z):r:=F s.1 s.2.1 s.2.2
abbrev U4{a b c z r:Type}(F:a->b->c->z->r)(s:a×b×c×z):r:=F s.1 s.2.1 s.2.2.1 s.2.2.2
abbrev U5{a b c d z r:Type}(F:a->b->c->d->z->r)(s:a×b×c×d×z):r:=F s.1 s.2.1 s.2.2.1 s.2.2.2.1 s.2.2.2.2
abbrev U6{a b c d e z r:Type}(F:a->b->c->d->e->z->r)(s:a×b×c×d×e×z):r:=F s.1 s.2.1 s.2.2.1 s.2.2.2.1 s.2.2.2.2.1 s.2.2.2.2.2
abbrev U7{a b c d e f z r:Type}(F:a->b->c->d->e->f->z->r)(s:a×b×c×d×e×f×z):r:=F s.1 s.2.1 s.2.2.1 s.2.2.2.1 s.2.2.2.2.1 s.2.2.2.2.2.1 s.2.2.2.2.2.2
abbrev U8{a b c d e f g z r:Type}(F:a->b->c->d->e->f->g->z->r)(s:a×b×c×d×e×f×g×z):r:=F s.1 s.2.1 s.2.2.1 s.2.2.2.1 s.2.2.2.2.1 s.2.2.2.2.2.1 s.2.2.2.2.2.2.1 s.2.2.2.2.2.2.2
abbrev U9{a b c d e f g h z r:Type}(F:a->b->c->d->e->f->g->h->z->r)(s:a×b×c×d×e×f×g×h×z):r:=F s.1 s.2.1 s.2.2.1 s.2.2.2.1 s.2.2.2.2.1 s.2.2.2.2.2.1 s.2.2.2.2.2.2.1 s.2.2.2.2.2.2.2.1 s.2.2.2.2.2.2.2.2
def bq(x:Ex):Ex:=Ex.mk x.op x.n x.at_ x.l
theorem aK:bq=id:=funext λx=>by cases x;rfl
def atY:au:=⟨130,[.int .i64],.str,[],λs=>adF s⟩
theorem abP:Ko atY:=ao2 (ρ:=Tryz.PT) Tryz.ap8 call130 (G:=5) (tab:=uJ) (by kernel_rfl) (show gl 5 (uJ.map (Value.int .u64))∈X0.Γ by first|exact ct ..|exact (.tail _ (ct ..))|exact (.tail _ (.tail _ (ct ..)))|exact (.tail _ (.tail _ (.tail _ (ct ..))))|exact (.tail _ (.tail _ (.tail _ (.tail _ (ct ..)))))|exact (.tail _ (.tail _ (.tail _ (.tail _ (.tail _ (ct ..))))))) (by decide+kernel) adF λn r h=>by obtain ⟨b,a⟩:=fj h;cases a;exact ⟨b,rfl⟩
def auC:au:=⟨277,[.own aP 5 true,.int .u64,.int .i64],.own aP 5 true,[],U3 amh⟩
theorem anR:Ko auC:=aqB (ρ:=Tryz.SJ) Tryz.ar9 call277 (G:=5) (tab:=uJ) (by kernel_rfl) (show gl 5 (uJ.map (Value.int .u64))∈X0.Γ by first|exact ct ..|exact (.tail _ (ct ..))|exact (.tail _ (.tail _ (ct ..)))|exact (.tail _ (.tail _ (.tail _ (ct ..))))|exact (.tail _ (.tail _ (.tail _ (.tail _ (ct ..)))))|exact (.tail _ (.tail _ (.tail _ (.tail _ (.tail _ (ct ..))))))) (by decide+kernel) amh λl u b r h=>by obtain ⟨a,c⟩:=fj h;simp only [ah,kR,j6] at a;cases c;exact ⟨a.1.1,a.1.2.1,a.1.2.2,a.2,rfl⟩
def atS:au:=⟨172,[.kB (.raw (.slice none 0 0)),.int .i64],.own (.l bc) 30 true,[],λs=>aj7 s⟩
theorem ana:Ko atS:=apI (ρ:=Tryz.abo) Tryz.avz call172 (z:= .slice none 0 0) (bytes:=24) (t:= .l bc) (by unfold TI;kernel_rfl) rfl rfl (by decide) aj7 λn r h=>by obtain ⟨a,b⟩:=fj h;simp only [ah,j6] at a;cases b;exact ⟨a.1,a.2,rfl⟩
def avy:au:=⟨68,[.str,.str],.cB [.str,.str,.bool],[],U2 alL⟩
theorem aqL:Ko avy:=atu (ρ:=Tryz.R9) Tryz.ajL call68 (show glx 2∈X0.Γ by repeat (first|exact ct ..|refine cb _ ?_)) alL λs t r h=>by obtain ⟨b,a⟩:=fj h;cases a;exact ⟨qp b,rfl⟩
theorem aie(W:World)(x:Nat):FnGives X0.P 191 #[] #[.int .i32 x] (.bool (x==32)) W:=by
 refine Calls.mono (jG (S:=λv w'=>v= .bool (x==32)/\w'=W) (Sp:=λ_ _=>False) func191 rfl Tryz.ntmps191 rfl ?_) (λe w' h=>?_)
 .refine bB<|bn<|aL (da aw.c) rfl rfl rfl rfl<|cg<|bg<|bB<|bn<|aL (aM (aw.t rfl)) rfl rfl rfl rfl<|aL (tO (aw.t rfl) aw.c) rfl rfl rfl rfl<|aL (da (aw.t rfl)) rfl rfl rfl rfl<|cg<|bg<|wV ?_
  repeat refine pW ?_
  refine QM rfl (kK.t rfl) ?_;exact ⟨by congr 1;rw [qh,kR,kR];omega,rfl⟩
 .cases e with
  |returned v=>obtain ⟨rfl,rfl⟩:=h;exact ⟨rfl,0,rfl⟩
  |panicked c=>exact h.elim
  |outgrown=>exact h.elim
def avG:au:=⟨190,[.str,.fn 191 [] []],.sli .s,[],λs=>apD s⟩
theorem aqd:Ko avG:=atw (ρ:=Tryz.S6) Tryz.asS call190 call191 aie apD λs r h=>by obtain ⟨b,a⟩:=fj h;cases a;exact ⟨qp b,rfl⟩
theorem amP{α:Type}{b:Nat}{s y r:List α}{k:Int}(h:aaY b s k y=some r):y≠[]/\BY k s.length=true/\aH (s.length+y.length) b=true/\r=kE s k y:=by
 unfold aaY at h;split at h
 .cases h
 .obtain ⟨a,c⟩:=fj h;simp only [ah] at a;cases c;exact ⟨by simp,a.1,a.2,rfl⟩
def aqS:au:=⟨412,[.own lM 531 true,.int .i64,.own lM 531 true],.own lM 531 true,[],λs=>aaY 16 s.1 s.2.1 s.2.2⟩
theorem ah7:Ko aqS:=as3 (t:=lM) (bytes:=16) call412 (λa d c b=>I412.ad5 a d c b) (aaY 16) (λ_ _ _ _ h=>amP h)
abbrev YW:=Q2->Option Q5
def ju(k:YW):au:=⟨114,[jH,Qm],bM,[(true,0,cU)],λs=>k (s.1,s.2.1,s.2.2.1,s.2.2.2.1,s.2.2.2.2.1,s.2.2.2.2.2)⟩
abbrev OK0(k:YW):Prop:=Ko (ju k)
abbrev Yn:=Q2->Option Q5
def jr(k:Yn):au:=⟨114,[jH,Qc],bM,[(true,0,cU)],λs=>k (s.1,s.2.1,s.2.2.1,s.2.2.2.1,s.2.2.2.2.1,s.2.2.2.2.2)⟩
abbrev OK1(k:Yn):Prop:=Ko (jr k)
abbrev Xy:=Q2->Option Q5
def js(k:Xy):au:=⟨114,[jH,P6],bM,[(true,0,cU)],λs=>k (s.1,s.2.1,s.2.2.1,s.2.2.2.1,s.2.2.2.2.1,s.2.2.2.2.2)⟩
abbrev OK2(k:Xy):Prop:=Ko (js k)
abbrev YT:=Q2->Option Q5
def jw(k:YT):au:=⟨114,[jH,Qz],bM,[(true,0,cU)],λs=>k (s.1,s.2.1,s.2.2.1,s.2.2.2.1,s.2.2.2.2.1,s.2.2.2.2.2)⟩
abbrev OK3(k:YT):Prop:=Ko (jw k)
abbrev dq:=Q2->Option Q5
def jB(k:dq):au:=⟨114,[jH,P5],bM,[(true,0,cU)],λs=>k (s.1,s.2.1,s.2.2.1,s.2.2.2.1,s.2.2.2.2.1,s.2.2.2.2.2)⟩
abbrev kx(k:dq):Prop:=Ko (jB k)
abbrev TK5:=Ex->Option rP
def yv(k:TK5):au:=⟨63,[gW],(.cB [aq,aq,aq]),[],λs=>k s⟩
abbrev OK5(k:TK5):Prop:=Ko (yv k)
abbrev WR:=Q2->Option Q5
def jR(k:WR):au:=⟨114,[fN,Qm],bM,[(true,0,cU)],λs=>k (s.1,s.2.1,s.2.2.1,s.2.2.2.1,s.2.2.2.2.1,s.2.2.2.2.2)⟩
abbrev OK6(k:WR):Prop:=Ko (jR k)
abbrev Yo:=Q2->Option Q5
def jV(k:Yo):au:=⟨114,[fN,Qc],bM,[(true,0,cU)],λs=>k (s.1,s.2.1,s.2.2.1,s.2.2.2.1,s.2.2.2.2.1,s.2.2.2.2.2)⟩
abbrev OK7(k:Yo):Prop:=Ko (jV k)
abbrev XQ:=Q2->Option Q5
def jU(k:XQ):au:=⟨114,[fN,P6],bM,[(true,0,cU)],λs=>k (s.1,s.2.1,s.2.2.1,s.2.2.2.1,s.2.2.2.2.1,s.2.2.2.2.2)⟩
abbrev OK8(k:XQ):Prop:=Ko (jU k)
abbrev Yw:=Q2->Option Q5
def jZ(k:Yw):au:=⟨114,[fN,Qz],bM,[(true,0,cU)],λs=>k (s.1,s.2.1,s.2.2.1,s.2.2.2.1,s.2.2.2.2.1,s.2.2.2.2.2)⟩
abbrev OK9(k:Yw):Prop:=Ko (jZ k)
abbrev bX:=Q2->Option Q5
def mF(k:bX):au:=⟨114,[fN,P5],bM,[(true,0,cU)],λs=>k (s.1,s.2.1,s.2.2.1,s.2.2.2.1,s.2.2.2.2.1,s.2.2.2.2.2)⟩
abbrev gu(k:bX):Prop:=Ko (mF k)
abbrev Lh:=SY->Option kA
def AJ(k:Lh):au:=⟨171,[gW,.bool,EC],gW,[(true,2,EC)],λs=>k (s.1,s.2.1,s.2.2)⟩
abbrev aoZ(k:Lh):Prop:=Ko (AJ k)
abbrev afi:=(Ex×Q1)->zr
def yf(k:afi):au:=⟨177,[gW,aO],aq,[],λs=>k (s.1,s.2)⟩
abbrev avY(k:afi):Prop:=Ko (yf k)
abbrev Uq:=(Ex×Ex)->zo
def xV(k:Uq):au:=⟨209,[gW,gW],.bool,[],λs=>k (s.1,s.2)⟩
abbrev auz(k:Uq):Prop:=Ko (xV k)
abbrev agq:=Q44->Option Mn
def iS(k:agq):au:=⟨210,[sf,(.dat xi []),adx,PO,(.bx 305 0 true [K8]),arU],fH,[(true,2,adx),(true,3,PO),(true,4,(.bx 305 0 true [.same])),(true,1005,K8),(true,5,(.bx 345 0 true [.same]))],λs=>k (s.1,s.2.1,s.2.2.1,s.2.2.2.1,s.2.2.2.2)⟩
abbrev av8(k:agq):Prop:=Ko (iS k)
abbrev ae6:=Int->zr
def x9(k:ae6):au:=⟨375,[aq],aq,[],λs=>k s⟩
abbrev avW(k:ae6):Prop:=Ko (x9 k)
abbrev aeW:=Q60->Option zl
def nH(k:aeW):bO:=⟨387,[akW,aq,Qj],GW,none,false,false,lG,[],λs=>k (s.2.1,s.2.2,s.1)⟩
abbrev avR(k:aeW):Prop:=tY (nH k)
abbrev agj:=Q60->Option Q71
def kG(k:agj):au:=⟨387,[aj9,aq,Qj],lG,[(true,0,adJ)],λs=>k (s.2.1,s.2.2,s.1)⟩
abbrev av3(k:agj):Prop:=Ko (kG k)
abbrev afE:=Q51->Option MC
def rI(k:afE):au:=⟨404,[aqM,aq,eC],aq,[(true,0,aqi)],λs=>k (s.2.2.2.2.2.2.1,s.2.2.2.2.2.2.2,s.1,s.2.1,s.2.2.1,s.2.2.2.1,s.2.2.2.2.1,s.2.2.2.2.2.1)⟩
abbrev av6(k:afE):Prop:=Ko (rI k)
abbrev ag6:=Q54->Option (Q3×Q1)
def nN(k:ag6):au:=⟨405,[ao4,aq],fH,[(true,0,afs)],λs=>k (s.2.2.2.2.2.2,s.1,s.2.1,s.2.2.1,s.2.2.2.1,s.2.2.2.2.1,s.2.2.2.2.2.1)⟩
abbrev awc(k:ag6):Prop:=Ko (nN k)
abbrev adZ:=(Ex×iW)->Option aX
def CP(k:adZ):au:=⟨125,[gW,Nz],eU,[],λs=>k (s.1,s.2)⟩
abbrev awa(k:adZ):Prop:=Ko (CP k)
def ait:au:=⟨105,[jK],.bool,[],λs=>abe s⟩
theorem ZR:Ko ait:=
 ay .o call105 func105 ao
def YU:au:=⟨107,[jK],.bool,[],λs=>MB s⟩
theorem OI:Ko YU:=
 ay .o call107 func107 ao
def anY:au:=⟨106,[.str,(.fn 107 [] [])],.str,[],λs=>ajf s⟩
theorem afO:Ko anY:=
 ay (.l ⟨[(false,8,aq)],[]⟩ .o) call106 func106 (al OI ao)
def ahb:au:=⟨159,[jK],.bool,[],λs=>Mh s⟩
theorem GL:Ko ahb:=
 ay .o call159 func159 ao
def aht:au:=⟨161,[jK],.bool,[],λs=>Gl s⟩
theorem Ad:Ko aht:=
 ay .o call161 func161 ao
def ad4:au:=⟨160,[jK],.bool,[],λs=>W9 s⟩
theorem Xk:Ko ad4:=
 ay .o call160 func160 (al GL (al Ad ao))
def afT:au:=⟨106,[.str,(.fn 160 [] [])],.str,[],λs=>XS s⟩
theorem Yx:Ko afT:=
 ay (.l ⟨[(false,8,aq)],[]⟩ .o) call106 func106 (al Xk ao)
def af8:au:=⟨106,[.str,(.fn 161 [] [])],.str,[],λs=>WQ s⟩
theorem Wy:Ko af8:=
 ay (.l ⟨[(false,8,aq)],[]⟩ .o) call106 func106 (al Ad ao)
def ah5:au:=⟨162,[.str],Ed,[],λs=>abM s⟩
def An(a:(Int×aS×Nat)->Option mH):Int×aS×Nat->Option mH:=λ⟨c,s,b⟩=> bif decide (b<List.length s) then ( bif decide (1073741824<(i64.wrap ((i64.wrap (10*c))+(i64.wrap (i32.wrap ((DQ s b)-48)))))) then some (0,false) else a ((i64.wrap ((i64.wrap (10*c))+(i64.wrap (i32.wrap ((DQ s b)-48))))),s,(pV s b))) else ( some (c,true))
theorem SK(s:aS):∀(N:Nat) (n:Int) (p:Nat),ax An N (n,s,p)=ax (EZ s) N (n,p)
 |0,_,_=>rfl
 |N+1,n,p=>by rw [bF,bF];simp only [An,EZ,SK s N]
theorem aaL:Ko ah5:=
 ba (.l ⟨[(false,4,aq),(true,8,.it)],[]⟩ .o) call162 func162 ao ao ao λs=>(show _=ax An aA (0,s,0) from by kernel_rfl).trans (SK s aA 0 0)
def ahD:au:=⟨211,[],Ep,[],λ_=>abR⟩
theorem aab:Ko ahD:=
 ay .o call211 func211 ao
def vq:au:=⟨243,[.str,.str],.bool,[],U2 mD⟩
theorem tG:Ko vq:=
 ay .o call243 func243 ao
def MI:au:=⟨212,[.str,.str],.bool,[],U2 CC⟩
theorem Hx:Ko MI:=
 ay .o call212 func212 (al tG ao)
def akt:au:=⟨163,[.str],.str,[],λs=>agm s⟩
theorem acn:Ko akt:=
 ay (.l ⟨[(false,7,aq)],[]⟩ .o) call163 func163 (al aab (al Hx ao))
def aim:au:=⟨108,[.str],(.cB [(.dat nq []),aq]),[],λs=>abN s⟩
theorem Zy:Ko aim:=
 ay .o call108 func108 (al GL (al Yx (al Ad (al Wy (al aaL (al acn ao))))))
def aeL:au:=⟨59,[.str],(.cB [(.own nq 170 true),aq,aq]),[],λs=>CG s⟩
theorem G3:Ko aeL:=
 ay (.n 0 (.j ⟨[(false,5,(.own nq 170 true)),(false,6,aq)],[]⟩ .o .o)) call59 func59 (al ZR (al afO (al Zy ao)))
def RQ:au:=⟨111,[ajV],(.dat nq []),[],U7 eD⟩
theorem eS:Ko RQ:=
 ay (.r [2] .o) call111 func111 ao
def XM:au:=⟨112,[ajV,aq,.str],.bool,[],λs=>iO s.2.2.2.2.2.2.2.1 s.2.2.2.2.2.2.2.2 s.1 s.2.1 s.2.2.1 s.2.2.2.1 s.2.2.2.2.1 s.2.2.2.2.2.1 s.2.2.2.2.2.2.1⟩
theorem jO:Ko XM:=
 ay .o call112 func112 (al eS ao)
def Rr:bO:=⟨113,[ajV,aq],HN,none,true,false,fH,[],λs=>cX s.2.2.2.2.2.2.2 s.1 s.2.1 s.2.2.1 s.2.2.2.1 s.2.2.2.2.1 s.2.2.2.2.2.1 s.2.2.2.2.2.2.1⟩
theorem fW:tY Rr:=
 agE .o call113 func113 (al eS ao)
def AF:au:=⟨128,[(.sli .s),.str],aq,[],U2 eW⟩
theorem im:Ko AF:=
 ay (.l ⟨[(false,8,aq)],[]⟩ .o) call128 func128 ao
def wP:au:=⟨244,[(.sli .s),.str],.bool,[],U2 nF⟩
theorem ue:Ko wP:=
 ay .o call244 func244 (al im ao)
def akc:au:=⟨213,[.str],.bool,[],λs=>sK s⟩
theorem pI:Ko akc:=
 ay .o call213 func213 (al ue ao)
def wQ:au:=⟨128,[EO,.str],aq,[],U2 dy⟩
theorem gw:Ko wQ:=
 ay (.l ⟨[(false,8,aq)],[]⟩ .o) call128 func128 ao
def uf:au:=⟨244,[EO,.str],.bool,[],U2 gX⟩
theorem rR:Ko uf:=
 ay .o call244 func244 (al gw ao)
def Od:au:=⟨214,[ajV,.str],.bool,[],λs=>Fi s.2.2.2.2.2.2.2 s.1 s.2.1 s.2.2.1 s.2.2.2.1 s.2.2.2.2.1 s.2.2.2.2.2.1 s.2.2.2.2.2.2.1⟩
theorem IQ:Ko Od:=
 ay .o call214 func214 (al rR ao)
def QT:bO:=⟨164,[agl,.bool],HN,none,false,false,.str,[(true,0,Vn)],λs=>xo s.2.2.2.2.2.2.2 s.1 s.2.1 s.2.2.1 s.2.2.2.1 s.2.2.2.2.1 s.2.2.2.2.2.1 s.2.2.2.2.2.2.1⟩
theorem xm:tY QT:=
 s6 (.s (.s (.j ⟨[],[]⟩ .o .o))) call164 func164 (al eS (al pI (al IQ ao))) (al fW ao) ao λ_=>by kernel_rfl
def MF:bO:=⟨165,[agl],HN,none,false,false,aq,[(true,0,Vn)],U7 nM⟩
theorem Iv:tY MF:=
 s6 (.s (.s (.j ⟨[(true,0,Vn)],[]⟩ .o (.s (.j ⟨[],[]⟩ .o .o))))) call165 func165 (al jO (al eS ao)) (al fW ao) ao λ_=>by kernel_rfl
def RA:bO:=⟨166,[agl,.str],HN,none,false,false,fH,[(true,0,Vn)],λs=>fE s.2.2.2.2.2.2.2 s.1 s.2.1 s.2.2.1 s.2.2.2.1 s.2.2.2.2.1 s.2.2.2.2.2.1 s.2.2.2.2.2.2.1⟩
theorem kH:tY RA:=
 s6 (.j ⟨[],[]⟩ .o .o) call166 func166 (al jO ao) (al fW ao) ao λ_=>by kernel_rfl
def QW:au:=⟨98,[(.dat dR [])],.bool,[],λs=>mI s⟩
theorem yg:Ko QW:=
 ay .o call98 func98 ao
def Jr:au:=⟨97,[Qf,(.fn 98 [] [])],eU,[],λs=>yN s⟩
theorem E8:Ko Jr:=
 ay (.l ⟨[(true,5,eU),(false,13,aq)],[]⟩ .o) call97 func97 (al yg ao)
def Dz:au:=⟨150,[(.sli .bo),.bool],aq,[],U2 mY⟩
theorem Ba:Ko Dz:=
 ay (.l ⟨[(false,8,aq)],[]⟩ .o) call150 func150 ao
def Bo:au:=⟨96,[(.sli .bo),.bool],.bool,[],U2 dY⟩
theorem iA:Ko Bo:=
 ay .o call96 func96 (al Ba ao)
def RC:au:=⟨49,[Qf],.bool,[],λs=>Gq s⟩
theorem Lr:Ko RC:=
 ay .o call49 func49 (al E8 (al iA ao))
def Rt:au:=⟨99,[(.dat dR []),aq],.bool,[],U2 j3⟩
theorem pB:Ko Rt:=
 ay .o call99 func99 ao
def aaO:au:=⟨52,[Qf,aO],aq,[],U2 PM⟩
theorem Rv:Ko aaO:=
 ay (.c .o (.l ⟨[(false,14,aq)],[]⟩ .o)) call52 func52 (al pB ao)
def JP:bO:=⟨109,[(.bx 166 0 true [KS,aq,Ep,KH,gJ,EO,(.own vk 272 false)])],HN,none,false,false,fH,[(true,0,(.bx 166 0 true [.same,aq,Ep,KH,gJ,.same,.same]))],U7 yQ⟩
theorem EW:tY JP:=
 s6 (.s (.s (.s (.s (.s (.j ⟨[],[]⟩ .o (.r [0] .o))))))) call109 func109 (al eS (al Lr (al Rv ao))) (al xm (al Iv (al kH ao))) ao λ_=>by kernel_rfl
def MU:au:=⟨168,[jH,aq],bM,[(true,0,(.bx 240 0 true [.same,.same,.same,.same,aq,aq]))],λs=>bN s.2.2.2.2.2.2 s.1 s.2.1 s.2.2.1 s.2.2.2.1 s.2.2.2.2.1 s.2.2.2.2.2.1⟩
theorem eY:Ko MU:=
 ay (.c (.r [0] .o) .o) call168 func168 ao
def ML:au:=⟨218,[(.bx 240 0 false [KS,aq,EO,aq,aq,aq])],(.dat nq []),[],U6 aU⟩
theorem bV:Ko ML:=
 ay (.r [2] .o) call218 func218 ao
def RR:au:=⟨217,[(.bx 240 0 false [KS,aq,EO,aq,aq,aq]),aO],Ed,[],λs=>bz s.2.2.2.2.2.2 s.1 s.2.1 s.2.2.1 s.2.2.2.1 s.2.2.2.2.1 s.2.2.2.2.2.1⟩
theorem cK:Ko RR:=
 ay (.c .o (.l ⟨[(false,27,aq)],[]⟩ .o)) call217 func217 (al bV (al pI ao))
def Ou(a:dq):au:=⟨287,[jH],bM,[(true,0,cU)],λs=>vj a s.1 s.2.1 s.2.2.1 s.2.2.2.1 s.2.2.2.2.1 s.2.2.2.2.2⟩
def sk(h:Ex->Ex)(C:Sh->(R:Type)->Option R->Option R)(B:Q2->Option Q5)(l:Q6)(at_:Int)(c:aF)(d:Int)(f:Int)(b:Int):Option Q5:= bif f != 0 then some ((Ex.mk 0 0 0 []),at_,d,f,b) else (aU l at_ c d f b).bind λe=> (bz ([13,14]:zB) l at_ c d f b).bind λn=> bif n.2 then ( some ((Ex.mk n.1 0 e.2.2.2 []),(i64.wrap (at_+1)),d,f,b)) else ( bif e.1==2 then some ((Ex.mk 1 e.2.2.1 e.2.2.2 []),(i64.wrap (at_+1)),d,f,b) else aj (e.1==1) λp=> bm p default (sK e.2.1) λs=> aj (!s) λA=> aj (p&&A) λz=> bif z then ( (dy c e.2.1).bind λm=> bif decide (m<0) then (bN 3 l at_ c d f b).bind λj=> some ((h j.1),at_,d,j.2.1,j.2.2) else some ((Ex.mk 2 m e.2.2.2 []),(i64.wrap (at_+1)),d,f,b)) else ( aj (e.1==3) λy=> aj (e.2.1==[40]) λx=> aj (y&&x) λw=> bif w then ( (B (l,(i64.wrap (at_+1)),c,d,f,b)).bind λa=> aj (a.2.2.2.1==0) λk=> bm k default (aU l a.2.1 c a.2.2.1 a.2.2.2.1 a.2.2.2.2) λr=> aj (r.1 != 3) λo=> bm (k&& !o) default (aU l a.2.1 c a.2.2.1 a.2.2.2.1 a.2.2.2.2) λq=> aj (q.2.1 != [41]) λv=> aj (o||v) λu=> aj (k&&u) λt=> bif t then ( (bN 2 l a.2.1 c a.2.2.1 a.2.2.2.1 a.2.2.2.2).bind λi=> some ((h i.1),a.2.1,a.2.2.1,i.2.1,i.2.2)) else ( bif a.2.2.2.1==0 then some ((h a.1),(i64.wrap (a.2.1+1)),a.2.2.1,a.2.2.2.1,a.2.2.2.2) else some ((h a.1),a.2.1,a.2.2.1,a.2.2.2.1,a.2.2.2.2))) else ( (bN 2 l at_ c d f b).bind λg=> some ((h g.1),at_,d,g.2.1,g.2.2))))
theorem JD(a:dq)(d:kx a):Ko (Ou a):=
 ba (.c .o (.c .o (.c .o (.c (.r [0] .o) .o)))) call287 func287 (al bV (al cK (al pI (al gw (al eY (al d ao)))))) ao ao λs=>(show _=sk bq aN a s.1 s.2.1 s.2.2.1 s.2.2.2.1 s.2.2.2.2.1 s.2.2.2.2.2 from by kernel_rfl).trans ((congrArg (λb=>sk b aN a s.1 s.2.1 s.2.2.1 s.2.2.2.1 s.2.2.2.2.1 s.2.2.2.2.2) aK).trans ((congrArg (λe=>sk id e a s.1 s.2.1 s.2.2.1 s.2.2.2.1 s.2.2.2.2.1 s.2.2.2.2.2) aQ).trans (by kernel_rfl)))
def JB(a:dq)(b:YW):au:=⟨281,[jH,Qm,(.fn 287 [] []),aO],bM,[(true,0,cU)],λs=>ry a b s.2.2.2.2.2.2 s.1 s.2.1 s.2.2.1 s.2.2.2.1 s.2.2.2.2.1 s.2.2.2.2.2.1⟩
def ov(h:Ex->Ex)(m:Sh->(R:Type)->Option R->Option R)(k:Q2->Option Q5)(j:Q2->Option Q5)(ops:Q1)(l:Q6)(at_:Int)(b:aF)(c:Int)(f:Int)(a:Int):Option Q5:= (bz ops l at_ b c f a).bind λg=> bif !g.2 then (vj k l at_ b c f a).bind λe=> some ((h e.1),e.2.1,e.2.2.1,e.2.2.2.1,e.2.2.2.2) else (aU l at_ b c f a).bind λi=> (j (l,(i64.wrap (at_+1)),b,c,f,a)).bind λd=> some ((Ex.mk g.1 0 i.2.2.2 ([(h d.1)]:List Ex)),d.2.1,d.2.2.1,d.2.2.2.1,d.2.2.2.2)
theorem EX(a:dq)(e:kx a)(b:YW)(i0:OK0 b):Ko (JB a b):=
 ba (.c .o (.r [0,8] .o)) call281 func281 (al cK (al (JD a e) (al bV (al i0 ao)))) ao ao λs=>(show _=ov bq aN a b s.2.2.2.2.2.2 s.1 s.2.1 s.2.2.1 s.2.2.2.1 s.2.2.2.2.1 s.2.2.2.2.2.1 from by kernel_rfl).trans ((congrArg (λd=>ov d aN a b s.2.2.2.2.2.2 s.1 s.2.1 s.2.2.1 s.2.2.2.1 s.2.2.2.2.1 s.2.2.2.2.2.1) aK).trans ((congrArg (λf=>ov id f a b s.2.2.2.2.2.2 s.1 s.2.1 s.2.2.1 s.2.2.2.1 s.2.2.2.2.1 s.2.2.2.2.2.1) aQ).trans (by kernel_rfl)))
def NL(a:dq)(b:YW):au:=⟨286,[jH],bM,[(true,0,cU)],λs=>ve a b s.1 s.2.1 s.2.2.1 s.2.2.2.1 s.2.2.2.2.1 s.2.2.2.2.2⟩
def sL(e:Ex->Ex)(i:Sh->(R:Type)->Option R->Option R)(h:Q2->Option Q5)(g:Q2->Option Q5)(l:Q6)(at_:Int)(c:aF)(d:Int)(f:Int)(b:Int):Option Q5:= (ry h g ([6]:zB) l at_ c d f b).bind λa=> some ((e a.1),a.2.1,a.2.2.1,a.2.2.2.1,a.2.2.2.2)
theorem IN(a:dq)(d:kx a)(b:YW)(i0:OK0 b):Ko (NL a b):=
 ba .o call286 func286 (al (EX a d b i0) ao) ao ao λs=>(show _=sL bq aN a b s.1 s.2.1 s.2.2.1 s.2.2.2.1 s.2.2.2.2.1 s.2.2.2.2.2 from by kernel_rfl).trans ((congrArg (λc=>sL c aN a b s.1 s.2.1 s.2.2.1 s.2.2.2.1 s.2.2.2.2.1 s.2.2.2.2.2) aK).trans ((congrArg (λe=>sL id e a b s.1 s.2.1 s.2.2.1 s.2.2.2.1 s.2.2.2.2.1 s.2.2.2.2.2) aQ).trans (by kernel_rfl)))
def wE(a:dq):au:=⟨114,[jH,Qm],bM,[(true,0,cU)],λs=>rk a s.1 s.2.1 s.2.2.1 s.2.2.2.1 s.2.2.2.2.1 s.2.2.2.2.2⟩
def lQ(f:Ex->Ex)(j:Sh->(R:Type)->Option R->Option R)(i:Q2->Option Q5)(h:Q2->Option Q5)(l:Q6)(at_:Int)(d:aF)(a:Int)(g:Int)(c:Int):Option Q5:= bif decide (320<=a) then (bN 9 l at_ d a g c).bind λe=> some ((f e.1),at_,a,e.2.1,e.2.2) else (ve i h l at_ d (i64.wrap (a+1)) g c).bind λb=> some ((f b.1),b.2.1,(i64.wrap (b.2.2.1-1)),b.2.2.2.1,b.2.2.2.2)
def wK(a:dq):YW->YW:=λb s=>wM a b s.1 s.2.1 s.2.2.1 s.2.2.2.1 s.2.2.2.2.1 s.2.2.2.2.2
theorem Ca(a:dq)(d:kx a)(b:YW)(i0:OK0 b):(ju (wK a b)).Ok X0.P X0.Γ:=
 ba .o call114 func114 (al eY (al (IN a d b i0) ao)) ao ao λs=>(show _=lQ bq aN a b s.1 s.2.1 s.2.2.1 s.2.2.2.1 s.2.2.2.2.1 s.2.2.2.2.2 from by kernel_rfl).trans ((congrArg (λc=>lQ c aN a b s.1 s.2.1 s.2.2.1 s.2.2.2.1 s.2.2.2.2.1 s.2.2.2.2.2) aK).trans ((congrArg (λe=>lQ id e a b s.1 s.2.1 s.2.2.1 s.2.2.2.1 s.2.2.2.2.1 s.2.2.2.2.2) aQ).trans (by kernel_rfl)))
theorem E5(a:dq)(b:kx a):Ko (wE a):=(show wE a=ju (ax (wK a) aA) by kernel_rfl)▸eZ (X:=X0) (E:=ju) ⟨call114,λ_ _ h=>nomatch h⟩ (Ca a b) aA
def Ig(a:dq):au:=⟨285,[jH],bM,[(true,0,cU)],λs=>iF a s.1 s.2.1 s.2.2.1 s.2.2.2.1 s.2.2.2.2.1 s.2.2.2.2.2⟩
def nn(e:Ex->Ex)(h:Sh->(R:Type)->Option R->Option R)(g:Q2->Option Q5)(l:Q6)(at_:Int)(c:aF)(d:Int)(f:Int)(b:Int):Option Q5:= (rk g l at_ c d f b).bind λa=> some ((e a.1),a.2.1,a.2.2.1,a.2.2.2.1,a.2.2.2.2)
theorem CR(a:dq)(c:kx a):Ko (Ig a):=
 ba .o call285 func285 (al (E5 a c) ao) ao ao λs=>(show _=nn bq aN a s.1 s.2.1 s.2.2.1 s.2.2.2.1 s.2.2.2.2.1 s.2.2.2.2.2 from by kernel_rfl).trans ((congrArg (λb=>nn b aN a s.1 s.2.1 s.2.2.1 s.2.2.2.1 s.2.2.2.2.1 s.2.2.2.2.2) aK).trans ((congrArg (λd=>nn id d a s.1 s.2.1 s.2.2.1 s.2.2.2.1 s.2.2.2.2.1 s.2.2.2.2.2) aQ).trans (by kernel_rfl)))
def LG(a:dq):au:=⟨263,[jH,(.fn 285 [] []),aO],bM,[(true,0,cU)],λs=>sb a s.2.2.2.2.2.2 s.1 s.2.1 s.2.2.1 s.2.2.2.1 s.2.2.2.2.1 s.2.2.2.2.2.1⟩
def Fo(o:Ex->Ex)(q:Sh->(R:Type)->Option R->Option R)(p:Q2->Option Q5)(ops:Q1)(l:Q6)(a:aF)(g:Cy->Option Q5):Int×Int×Int×Int×Int×Int×Int×(List Ex)->Option Q5:=λ⟨f,e,b,d,k,j,i,h⟩=> bif b==0 then (bz ops l f a e b d).bind λm=> bif !m.2 then some ((Ex.mk k j i h),f,e,b,d) else (aU l f a e b d).bind λn=> (iF p l (i64.wrap (f+1)) a e b d).bind λc=> g (c.2.1,c.2.2.1,c.2.2.2.1,c.2.2.2.2,m.1,0,n.2.2.2,([(Ex.mk k j i h),(o c.1)]:List Ex)) else some ((Ex.mk k j i h),f,e,b,d)
def py(e:Ex->Ex)(h:Sh->(R:Type)->Option R->Option R)(g:Q2->Option Q5)(ops:Q1)(l:Q6)(at_:Int)(b:aF)(d:Int)(f:Int)(c:Int):Option Q5:= (iF g l at_ b d f c).bind λa=> ax (Fo e h g ops l b) aA (a.2.1,a.2.2.1,a.2.2.2.1,a.2.2.2.2,a.1.op,a.1.n,a.1.at_,a.1.l)
theorem FC(a:dq)(c:kx a):Ko (LG a):=
 ba (.l ⟨[(true,0,cU),(true,6,L0),(true,7,NO)],[]⟩ .o) call263 func263 (al (CR a c) (al cK (al bV ao))) ao ao λs=>(show _=py bq aN a s.2.2.2.2.2.2 s.1 s.2.1 s.2.2.1 s.2.2.2.1 s.2.2.2.2.1 s.2.2.2.2.2.1 from by kernel_rfl).trans ((congrArg (λb=>py b aN a s.2.2.2.2.2.2 s.1 s.2.1 s.2.2.1 s.2.2.2.1 s.2.2.2.2.1 s.2.2.2.2.2.1) aK).trans ((congrArg (λd=>py id d a s.2.2.2.2.2.2 s.1 s.2.1 s.2.2.1 s.2.2.2.1 s.2.2.2.2.1 s.2.2.2.2.2.1) aQ).trans (by kernel_rfl)))
def M8(a:dq):au:=⟨284,[jH],bM,[(true,0,cU)],λs=>ky a s.1 s.2.1 s.2.2.1 s.2.2.2.1 s.2.2.2.2.1 s.2.2.2.2.2⟩
def rn(e:Ex->Ex)(h:Sh->(R:Type)->Option R->Option R)(g:Q2->Option Q5)(l:Q6)(at_:Int)(c:aF)(d:Int)(f:Int)(b:Int):Option Q5:= (sb g ([5]:zB) l at_ c d f b).bind λa=> some ((e a.1),a.2.1,a.2.2.1,a.2.2.2.1,a.2.2.2.2)
theorem HH(a:dq)(c:kx a):Ko (M8 a):=
 ba .o call284 func284 (al (FC a c) ao) ao ao λs=>(show _=rn bq aN a s.1 s.2.1 s.2.2.1 s.2.2.2.1 s.2.2.2.2.1 s.2.2.2.2.2 from by kernel_rfl).trans ((congrArg (λb=>rn b aN a s.1 s.2.1 s.2.2.1 s.2.2.2.1 s.2.2.2.2.1 s.2.2.2.2.2) aK).trans ((congrArg (λd=>rn id d a s.1 s.2.1 s.2.2.1 s.2.2.2.1 s.2.2.2.2.1 s.2.2.2.2.2) aQ).trans (by kernel_rfl)))
def LP(a:dq):au:=⟨263,[jH,(.fn 284 [] []),aO],bM,[(true,0,cU)],λs=>sW a s.2.2.2.2.2.2 s.1 s.2.1 s.2.2.1 s.2.2.2.1 s.2.2.2.2.1 s.2.2.2.2.2.1⟩
def FK(o:Ex->Ex)(q:Sh->(R:Type)->Option R->Option R)(p:Q2->Option Q5)(ops:Q1)(l:Q6)(a:aF)(g:Cy->Option Q5):Int×Int×Int×Int×Int×Int×Int×(List Ex)->Option Q5:=λ⟨f,e,b,d,k,j,i,h⟩=> bif b==0 then (bz ops l f a e b d).bind λm=> bif !m.2 then some ((Ex.mk k j i h),f,e,b,d) else (aU l f a e b d).bind λn=> (ky p l (i64.wrap (f+1)) a e b d).bind λc=> g (c.2.1,c.2.2.1,c.2.2.2.1,c.2.2.2.2,m.1,0,n.2.2.2,([(Ex.mk k j i h),(o c.1)]:List Ex)) else some ((Ex.mk k j i h),f,e,b,d)
def pj(e:Ex->Ex)(h:Sh->(R:Type)->Option R->Option R)(g:Q2->Option Q5)(ops:Q1)(l:Q6)(at_:Int)(b:aF)(d:Int)(f:Int)(c:Int):Option Q5:= (ky g l at_ b d f c).bind λa=> ax (FK e h g ops l b) aA (a.2.1,a.2.2.1,a.2.2.2.1,a.2.2.2.2,a.1.op,a.1.n,a.1.at_,a.1.l)
theorem F4(a:dq)(c:kx a):Ko (LP a):=
 ba (.l ⟨[(true,0,cU),(true,6,L0),(true,7,NO)],[]⟩ .o) call263 func263 (al (HH a c) (al cK (al bV ao))) ao ao λs=>(show _=pj bq aN a s.2.2.2.2.2.2 s.1 s.2.1 s.2.2.1 s.2.2.2.1 s.2.2.2.2.1 s.2.2.2.2.2.1 from by kernel_rfl).trans ((congrArg (λb=>pj b aN a s.2.2.2.2.2.2 s.1 s.2.1 s.2.2.1 s.2.2.2.1 s.2.2.2.2.1 s.2.2.2.2.2.1) aK).trans ((congrArg (λd=>pj id d a s.2.2.2.2.2.2 s.1 s.2.1 s.2.2.1 s.2.2.2.1 s.2.2.2.2.1 s.2.2.2.2.2.1) aQ).trans (by kernel_rfl)))
def NX(a:dq):au:=⟨283,[jH],bM,[(true,0,cU)],λs=>kV a s.1 s.2.1 s.2.2.1 s.2.2.2.1 s.2.2.2.2.1 s.2.2.2.2.2⟩
def sa(e:Ex->Ex)(h:Sh->(R:Type)->Option R->Option R)(g:Q2->Option Q5)(l:Q6)(at_:Int)(c:aF)(d:Int)(f:Int)(b:Int):Option Q5:= (sW g ([3,4]:zB) l at_ c d f b).bind λa=> some ((e a.1),a.2.1,a.2.2.1,a.2.2.2.1,a.2.2.2.2)
theorem JH(a:dq)(c:kx a):Ko (NX a):=
 ba .o call283 func283 (al (F4 a c) ao) ao ao λs=>(show _=sa bq aN a s.1 s.2.1 s.2.2.1 s.2.2.2.1 s.2.2.2.2.1 s.2.2.2.2.2 from by kernel_rfl).trans ((congrArg (λb=>sa b aN a s.1 s.2.1 s.2.2.1 s.2.2.2.1 s.2.2.2.2.1 s.2.2.2.2.2) aK).trans ((congrArg (λd=>sa id d a s.1 s.2.1 s.2.2.1 s.2.2.2.1 s.2.2.2.2.1 s.2.2.2.2.2) aQ).trans (by kernel_rfl)))
def NM(a:dq):au:=⟨282,[jH],bM,[(true,0,cU)],λs=>vE a s.1 s.2.1 s.2.2.1 s.2.2.2.1 s.2.2.2.2.1 s.2.2.2.2.2⟩
def s4(e:Ex->Ex)(o:Sh->(R:Type)->Option R->Option R)(n:Q2->Option Q5)(l:Q6)(at_:Int)(b:aF)(g:Int)(i:Int)(d:Int):Option Q5:= (kV n l at_ b g i d).bind λa=> (bz ([7,8,9,10,11,12]:zB) l a.2.1 b a.2.2.1 a.2.2.2.1 a.2.2.2.2).bind λf=> aj (a.2.2.2.1 != 0) λm=> aj (!f.2) λk=> aj (m||k) λj=> bif j then ( some ((e a.1),a.2.1,a.2.2.1,a.2.2.2.1,a.2.2.2.2)) else ( (aU l a.2.1 b a.2.2.1 a.2.2.2.1 a.2.2.2.2).bind λh=> (kV n l (i64.wrap (a.2.1+1)) b a.2.2.1 a.2.2.2.1 a.2.2.2.2).bind λc=> some ((Ex.mk f.1 0 h.2.2.2 ([(e a.1),(e c.1)]:List Ex)),c.2.1,c.2.2.1,c.2.2.2.1,c.2.2.2.2))
theorem IF(a:dq)(c:kx a):Ko (NM a):=
 ba .o call282 func282 (al (JH a c) (al cK (al bV ao))) ao ao λs=>(show _=s4 bq aN a s.1 s.2.1 s.2.2.1 s.2.2.2.1 s.2.2.2.2.1 s.2.2.2.2.2 from by kernel_rfl).trans ((congrArg (λb=>s4 b aN a s.1 s.2.1 s.2.2.1 s.2.2.2.1 s.2.2.2.2.1 s.2.2.2.2.2) aK).trans ((congrArg (λd=>s4 id d a s.1 s.2.1 s.2.2.1 s.2.2.2.1 s.2.2.2.2.1 s.2.2.2.2.2) aQ).trans (by kernel_rfl)))
def JE(a:dq)(b:Yn):au:=⟨281,[jH,Qc,(.fn 282 [] []),aO],bM,[(true,0,cU)],λs=>rD a b s.2.2.2.2.2.2 s.1 s.2.1 s.2.2.1 s.2.2.2.1 s.2.2.2.2.1 s.2.2.2.2.2.1⟩
def nV(h:Ex->Ex)(m:Sh->(R:Type)->Option R->Option R)(k:Q2->Option Q5)(j:Q2->Option Q5)(ops:Q1)(l:Q6)(at_:Int)(b:aF)(c:Int)(f:Int)(a:Int):Option Q5:= (bz ops l at_ b c f a).bind λg=> bif !g.2 then (vE k l at_ b c f a).bind λe=> some ((h e.1),e.2.1,e.2.2.1,e.2.2.2.1,e.2.2.2.2) else (aU l at_ b c f a).bind λi=> (j (l,(i64.wrap (at_+1)),b,c,f,a)).bind λd=> some ((Ex.mk g.1 0 i.2.2.2 ([(h d.1)]:List Ex)),d.2.1,d.2.2.1,d.2.2.2.1,d.2.2.2.2)
theorem EH(a:dq)(e:kx a)(b:Yn)(f:OK1 b):Ko (JE a b):=
 ba (.c .o (.r [0,8] .o)) call281 func281 (al cK (al (IF a e) (al bV (al f ao)))) ao ao λs=>(show _=nV bq aN a b s.2.2.2.2.2.2 s.1 s.2.1 s.2.2.1 s.2.2.2.1 s.2.2.2.2.1 s.2.2.2.2.2.1 from by kernel_rfl).trans ((congrArg (λd=>nV d aN a b s.2.2.2.2.2.2 s.1 s.2.1 s.2.2.1 s.2.2.2.1 s.2.2.2.2.1 s.2.2.2.2.2.1) aK).trans ((congrArg (λg=>nV id g a b s.2.2.2.2.2.2 s.1 s.2.1 s.2.2.1 s.2.2.2.1 s.2.2.2.2.1 s.2.2.2.2.2.1) aQ).trans (by kernel_rfl)))
def Po(a:dq)(b:Yn):au:=⟨280,[jH],bM,[(true,0,cU)],λs=>vx a b s.1 s.2.1 s.2.2.1 s.2.2.2.1 s.2.2.2.2.1 s.2.2.2.2.2⟩
def s8(e:Ex->Ex)(i:Sh->(R:Type)->Option R->Option R)(h:Q2->Option Q5)(g:Q2->Option Q5)(l:Q6)(at_:Int)(c:aF)(d:Int)(f:Int)(b:Int):Option Q5:= (rD h g ([15,20,21,22]:zB) l at_ c d f b).bind λa=> some ((e a.1),a.2.1,a.2.2.1,a.2.2.2.1,a.2.2.2.2)
theorem Jx(a:dq)(d:kx a)(b:Yn)(e:OK1 b):Ko (Po a b):=
 ba .o call280 func280 (al (EH a d b e) ao) ao ao λs=>(show _=s8 bq aN a b s.1 s.2.1 s.2.2.1 s.2.2.2.1 s.2.2.2.2.1 s.2.2.2.2.2 from by kernel_rfl).trans ((congrArg (λc=>s8 c aN a b s.1 s.2.1 s.2.2.1 s.2.2.2.1 s.2.2.2.2.1 s.2.2.2.2.2) aK).trans ((congrArg (λf=>s8 id f a b s.1 s.2.1 s.2.2.1 s.2.2.2.1 s.2.2.2.2.1 s.2.2.2.2.2) aQ).trans (by kernel_rfl)))
def wa(a:dq):au:=⟨114,[jH,Qc],bM,[(true,0,cU)],λs=>ra a s.1 s.2.1 s.2.2.1 s.2.2.2.1 s.2.2.2.2.1 s.2.2.2.2.2⟩
def lS(f:Ex->Ex)(j:Sh->(R:Type)->Option R->Option R)(i:Q2->Option Q5)(h:Q2->Option Q5)(l:Q6)(at_:Int)(d:aF)(a:Int)(g:Int)(c:Int):Option Q5:= bif decide (320<=a) then (bN 9 l at_ d a g c).bind λe=> some ((f e.1),at_,a,e.2.1,e.2.2) else (vx i h l at_ d (i64.wrap (a+1)) g c).bind λb=> some ((f b.1),b.2.1,(i64.wrap (b.2.2.1-1)),b.2.2.2.1,b.2.2.2.2)
def vZ(a:dq):Yn->Yn:=λb s=>wy a b s.1 s.2.1 s.2.2.1 s.2.2.2.1 s.2.2.2.2.1 s.2.2.2.2.2
theorem BZ(a:dq)(d:kx a)(b:Yn)(e:OK1 b):(jr (vZ a b)).Ok X0.P X0.Γ:=
 ba .o call114 func114 (al eY (al (Jx a d b e) ao)) ao ao λs=>(show _=lS bq aN a b s.1 s.2.1 s.2.2.1 s.2.2.2.1 s.2.2.2.2.1 s.2.2.2.2.2 from by kernel_rfl).trans ((congrArg (λc=>lS c aN a b s.1 s.2.1 s.2.2.1 s.2.2.2.1 s.2.2.2.2.1 s.2.2.2.2.2) aK).trans ((congrArg (λf=>lS id f a b s.1 s.2.1 s.2.2.1 s.2.2.2.1 s.2.2.2.2.1 s.2.2.2.2.2) aQ).trans (by kernel_rfl)))
theorem Ez(a:dq)(b:kx a):Ko (wa a):=(show wa a=jr (ax (vZ a) aA) by kernel_rfl)▸eZ (X:=X0) (E:=jr) ⟨call114,λ_ _ h=>nomatch h⟩ (BZ a b) aA
def Hq(a:dq):au:=⟨279,[jH],bM,[(true,0,cU)],λs=>pr a s.1 s.2.1 s.2.2.1 s.2.2.2.1 s.2.2.2.2.1 s.2.2.2.2.2⟩
def na(e:Ex->Ex)(h:Sh->(R:Type)->Option R->Option R)(g:Q2->Option Q5)(l:Q6)(at_:Int)(c:aF)(d:Int)(f:Int)(b:Int):Option Q5:= (ra g l at_ c d f b).bind λa=> some ((e a.1),a.2.1,a.2.2.1,a.2.2.2.1,a.2.2.2.2)
theorem C8(a:dq)(c:kx a):Ko (Hq a):=
 ba .o call279 func279 (al (Ez a c) ao) ao ao λs=>(show _=na bq aN a s.1 s.2.1 s.2.2.1 s.2.2.2.1 s.2.2.2.2.1 s.2.2.2.2.2 from by kernel_rfl).trans ((congrArg (λb=>na b aN a s.1 s.2.1 s.2.2.1 s.2.2.2.1 s.2.2.2.2.1 s.2.2.2.2.2) aK).trans ((congrArg (λd=>na id d a s.1 s.2.1 s.2.2.1 s.2.2.2.1 s.2.2.2.2.1 s.2.2.2.2.2) aQ).trans (by kernel_rfl)))
def L5(a:dq)(b:Xy):au:=⟨169,[jH,(.fn 279 [] []),P6,aO],bM,[(true,0,cU)],λs=>sw a b s.2.2.2.2.2.2 s.1 s.2.1 s.2.2.1 s.2.2.2.1 s.2.2.2.2.1 s.2.2.2.2.2.1⟩
def oX(e:Ex->Ex)(p:Sh->(R:Type)->Option R->Option R)(o:Q2->Option Q5)(n:Q2->Option Q5)(ops:Q1)(l:Q6)(at_:Int)(b:aF)(g:Int)(i:Int)(d:Int):Option Q5:= (pr o l at_ b g i d).bind λa=> (bz ops l a.2.1 b a.2.2.1 a.2.2.2.1 a.2.2.2.2).bind λf=> aj (a.2.2.2.1 != 0) λm=> aj (!f.2) λk=> aj (m||k) λj=> bif j then ( some ((e a.1),a.2.1,a.2.2.1,a.2.2.2.1,a.2.2.2.2)) else ( (aU l a.2.1 b a.2.2.1 a.2.2.2.1 a.2.2.2.2).bind λh=> (n (l,(i64.wrap (a.2.1+1)),b,a.2.2.1,a.2.2.2.1,a.2.2.2.2)).bind λc=> some ((Ex.mk f.1 0 h.2.2.2 ([(e a.1),(e c.1)]:List Ex)),c.2.1,c.2.2.1,c.2.2.2.1,c.2.2.2.2))
theorem Fp(a:dq)(d:kx a)(b:Xy)(e:OK2 b):Ko (L5 a b):=
 ba .o call169 func169 (al (C8 a d) (al cK (al bV (al e ao)))) ao ao λs=>(show _=oX bq aN a b s.2.2.2.2.2.2 s.1 s.2.1 s.2.2.1 s.2.2.2.1 s.2.2.2.2.1 s.2.2.2.2.2.1 from by kernel_rfl).trans ((congrArg (λc=>oX c aN a b s.2.2.2.2.2.2 s.1 s.2.1 s.2.2.1 s.2.2.2.1 s.2.2.2.2.1 s.2.2.2.2.2.1) aK).trans ((congrArg (λf=>oX id f a b s.2.2.2.2.2.2 s.1 s.2.1 s.2.2.1 s.2.2.2.1 s.2.2.2.2.1 s.2.2.2.2.2.1) aQ).trans (by kernel_rfl)))
def J9(a:dq)(b:Xy):au:=⟨278,[jH],bM,[(true,0,cU)],λs=>sC a b s.1 s.2.1 s.2.2.1 s.2.2.2.1 s.2.2.2.2.1 s.2.2.2.2.2⟩
def oG(e:Ex->Ex)(i:Sh->(R:Type)->Option R->Option R)(h:Q2->Option Q5)(g:Q2->Option Q5)(l:Q6)(at_:Int)(c:aF)(d:Int)(f:Int)(b:Int):Option Q5:= (sw h g ([23,24]:zB) l at_ c d f b).bind λa=> some ((e a.1),a.2.1,a.2.2.1,a.2.2.2.1,a.2.2.2.2)
theorem FY(a:dq)(d:kx a)(b:Xy)(e:OK2 b):Ko (J9 a b):=
 ba .o call278 func278 (al (Fp a d b e) ao) ao ao λs=>(show _=oG bq aN a b s.1 s.2.1 s.2.2.1 s.2.2.2.1 s.2.2.2.2.1 s.2.2.2.2.2 from by kernel_rfl).trans ((congrArg (λc=>oG c aN a b s.1 s.2.1 s.2.2.1 s.2.2.2.1 s.2.2.2.2.1 s.2.2.2.2.2) aK).trans ((congrArg (λf=>oG id f a b s.1 s.2.1 s.2.2.1 s.2.2.2.1 s.2.2.2.2.1 s.2.2.2.2.2) aQ).trans (by kernel_rfl)))
def wh(a:dq):au:=⟨114,[jH,P6],bM,[(true,0,cU)],λs=>p6 a s.1 s.2.1 s.2.2.1 s.2.2.2.1 s.2.2.2.2.1 s.2.2.2.2.2⟩
def lO(f:Ex->Ex)(j:Sh->(R:Type)->Option R->Option R)(i:Q2->Option Q5)(h:Q2->Option Q5)(l:Q6)(at_:Int)(d:aF)(a:Int)(g:Int)(c:Int):Option Q5:= bif decide (320<=a) then (bN 9 l at_ d a g c).bind λe=> some ((f e.1),at_,a,e.2.1,e.2.2) else (sC i h l at_ d (i64.wrap (a+1)) g c).bind λb=> some ((f b.1),b.2.1,(i64.wrap (b.2.2.1-1)),b.2.2.2.1,b.2.2.2.2)
def wC(a:dq):Xy->Xy:=λb s=>wb a b s.1 s.2.1 s.2.2.1 s.2.2.2.1 s.2.2.2.2.1 s.2.2.2.2.2
theorem Ce(a:dq)(d:kx a)(b:Xy)(e:OK2 b):(js (wC a b)).Ok X0.P X0.Γ:=
 ba .o call114 func114 (al eY (al (FY a d b e) ao)) ao ao λs=>(show _=lO bq aN a b s.1 s.2.1 s.2.2.1 s.2.2.2.1 s.2.2.2.2.1 s.2.2.2.2.2 from by kernel_rfl).trans ((congrArg (λc=>lO c aN a b s.1 s.2.1 s.2.2.1 s.2.2.2.1 s.2.2.2.2.1 s.2.2.2.2.2) aK).trans ((congrArg (λf=>lO id f a b s.1 s.2.1 s.2.2.1 s.2.2.2.1 s.2.2.2.2.1 s.2.2.2.2.2) aQ).trans (by kernel_rfl)))
theorem DY(a:dq)(b:kx a):Ko (wh a):=(show wh a=js (ax (wC a) aA) by kernel_rfl)▸eZ (X:=X0) (E:=js) ⟨call114,λ_ _ h=>nomatch h⟩ (Ce a b) aA
def EJ(a:dq):au:=⟨273,[jH],bM,[(true,0,cU)],λs=>gM a s.1 s.2.1 s.2.2.1 s.2.2.2.1 s.2.2.2.2.1 s.2.2.2.2.2⟩
def kW(e:Ex->Ex)(h:Sh->(R:Type)->Option R->Option R)(g:Q2->Option Q5)(l:Q6)(at_:Int)(c:aF)(d:Int)(f:Int)(b:Int):Option Q5:= (p6 g l at_ c d f b).bind λa=> some ((e a.1),a.2.1,a.2.2.1,a.2.2.2.1,a.2.2.2.2)
theorem Bl(a:dq)(c:kx a):Ko (EJ a):=
 ba .o call273 func273 (al (DY a c) ao) ao ao λs=>(show _=kW bq aN a s.1 s.2.1 s.2.2.1 s.2.2.2.1 s.2.2.2.2.1 s.2.2.2.2.2 from by kernel_rfl).trans ((congrArg (λb=>kW b aN a s.1 s.2.1 s.2.2.1 s.2.2.2.1 s.2.2.2.2.1 s.2.2.2.2.2) aK).trans ((congrArg (λd=>kW id d a s.1 s.2.1 s.2.2.1 s.2.2.2.1 s.2.2.2.2.1 s.2.2.2.2.2) aQ).trans (by kernel_rfl)))
def Ls(a:dq):au:=⟨263,[jH,(.fn 273 [] []),aO],bM,[(true,0,cU)],λs=>s9 a s.2.2.2.2.2.2 s.1 s.2.1 s.2.2.1 s.2.2.2.1 s.2.2.2.2.1 s.2.2.2.2.2.1⟩
def FZ(o:Ex->Ex)(q:Sh->(R:Type)->Option R->Option R)(p:Q2->Option Q5)(ops:Q1)(l:Q6)(a:aF)(g:Cy->Option Q5):Int×Int×Int×Int×Int×Int×Int×(List Ex)->Option Q5:=λ⟨f,e,b,d,k,j,i,h⟩=> bif b==0 then (bz ops l f a e b d).bind λm=> bif !m.2 then some ((Ex.mk k j i h),f,e,b,d) else (aU l f a e b d).bind λn=> (gM p l (i64.wrap (f+1)) a e b d).bind λc=> g (c.2.1,c.2.2.1,c.2.2.2.1,c.2.2.2.2,m.1,0,n.2.2.2,([(Ex.mk k j i h),(o c.1)]:List Ex)) else some ((Ex.mk k j i h),f,e,b,d)
def po(e:Ex->Ex)(h:Sh->(R:Type)->Option R->Option R)(g:Q2->Option Q5)(ops:Q1)(l:Q6)(at_:Int)(b:aF)(d:Int)(f:Int)(c:Int):Option Q5:= (gM g l at_ b d f c).bind λa=> ax (FZ e h g ops l b) aA (a.2.1,a.2.2.1,a.2.2.2.1,a.2.2.2.2,a.1.op,a.1.n,a.1.at_,a.1.l)
theorem FN(a:dq)(c:kx a):Ko (Ls a):=
 ba (.l ⟨[(true,0,cU),(true,6,L0),(true,7,NO)],[]⟩ .o) call263 func263 (al (Bl a c) (al cK (al bV ao))) ao ao λs=>(show _=po bq aN a s.2.2.2.2.2.2 s.1 s.2.1 s.2.2.1 s.2.2.2.1 s.2.2.2.2.1 s.2.2.2.2.2.1 from by kernel_rfl).trans ((congrArg (λb=>po b aN a s.2.2.2.2.2.2 s.1 s.2.1 s.2.2.1 s.2.2.2.1 s.2.2.2.2.1 s.2.2.2.2.2.1) aK).trans ((congrArg (λd=>po id d a s.2.2.2.2.2.2 s.1 s.2.1 s.2.2.1 s.2.2.2.1 s.2.2.2.2.1 s.2.2.2.2.2.1) aQ).trans (by kernel_rfl)))
def OQ(a:dq):au:=⟨264,[jH],bM,[(true,0,cU)],λs=>lr a s.1 s.2.1 s.2.2.1 s.2.2.2.1 s.2.2.2.2.1 s.2.2.2.2.2⟩
def sB(e:Ex->Ex)(h:Sh->(R:Type)->Option R->Option R)(g:Q2->Option Q5)(l:Q6)(at_:Int)(c:aF)(d:Int)(f:Int)(b:Int):Option Q5:= (s9 g ([16]:zB) l at_ c d f b).bind λa=> some ((e a.1),a.2.1,a.2.2.1,a.2.2.2.1,a.2.2.2.2)
theorem IT(a:dq)(c:kx a):Ko (OQ a):=
 ba .o call264 func264 (al (FN a c) ao) ao ao λs=>(show _=sB bq aN a s.1 s.2.1 s.2.2.1 s.2.2.2.1 s.2.2.2.2.1 s.2.2.2.2.2 from by kernel_rfl).trans ((congrArg (λb=>sB b aN a s.1 s.2.1 s.2.2.1 s.2.2.2.1 s.2.2.2.2.1 s.2.2.2.2.2) aK).trans ((congrArg (λd=>sB id d a s.1 s.2.1 s.2.2.1 s.2.2.2.1 s.2.2.2.2.1 s.2.2.2.2.2) aQ).trans (by kernel_rfl)))
def MG(a:dq):au:=⟨263,[jH,(.fn 264 [] []),aO],bM,[(true,0,cU)],λs=>uj a s.2.2.2.2.2.2 s.1 s.2.1 s.2.2.1 s.2.2.2.1 s.2.2.2.2.1 s.2.2.2.2.2.1⟩
def HM(o:Ex->Ex)(q:Sh->(R:Type)->Option R->Option R)(p:Q2->Option Q5)(ops:Q1)(l:Q6)(a:aF)(g:Cy->Option Q5):Int×Int×Int×Int×Int×Int×Int×(List Ex)->Option Q5:=λ⟨f,e,b,d,k,j,i,h⟩=> bif b==0 then (bz ops l f a e b d).bind λm=> bif !m.2 then some ((Ex.mk k j i h),f,e,b,d) else (aU l f a e b d).bind λn=> (lr p l (i64.wrap (f+1)) a e b d).bind λc=> g (c.2.1,c.2.2.1,c.2.2.2.1,c.2.2.2.2,m.1,0,n.2.2.2,([(Ex.mk k j i h),(o c.1)]:List Ex)) else some ((Ex.mk k j i h),f,e,b,d)
def rv(e:Ex->Ex)(h:Sh->(R:Type)->Option R->Option R)(g:Q2->Option Q5)(ops:Q1)(l:Q6)(at_:Int)(b:aF)(d:Int)(f:Int)(c:Int):Option Q5:= (lr g l at_ b d f c).bind λa=> ax (HM e h g ops l b) aA (a.2.1,a.2.2.1,a.2.2.2.1,a.2.2.2.2,a.1.op,a.1.n,a.1.at_,a.1.l)
theorem HQ(a:dq)(c:kx a):Ko (MG a):=
 ba (.l ⟨[(true,0,cU),(true,6,L0),(true,7,NO)],[]⟩ .o) call263 func263 (al (IT a c) (al cK (al bV ao))) ao ao λs=>(show _=rv bq aN a s.2.2.2.2.2.2 s.1 s.2.1 s.2.2.1 s.2.2.2.1 s.2.2.2.2.1 s.2.2.2.2.2.1 from by kernel_rfl).trans ((congrArg (λb=>rv b aN a s.2.2.2.2.2.2 s.1 s.2.1 s.2.2.1 s.2.2.2.1 s.2.2.2.2.1 s.2.2.2.2.2.1) aK).trans ((congrArg (λd=>rv id d a s.2.2.2.2.2.2 s.1 s.2.1 s.2.2.1 s.2.2.2.1 s.2.2.2.2.1 s.2.2.2.2.2.1) aQ).trans (by kernel_rfl)))
def R6(a:dq):au:=⟨247,[jH],bM,[(true,0,cU)],λs=>xu a s.1 s.2.1 s.2.2.1 s.2.2.2.1 s.2.2.2.2.1 s.2.2.2.2.2⟩
def um(e:Ex->Ex)(h:Sh->(R:Type)->Option R->Option R)(g:Q2->Option Q5)(l:Q6)(at_:Int)(c:aF)(d:Int)(f:Int)(b:Int):Option Q5:= (uj g ([17]:zB) l at_ c d f b).bind λa=> some ((e a.1),a.2.1,a.2.2.1,a.2.2.2.1,a.2.2.2.2)
theorem K9(a:dq)(c:kx a):Ko (R6 a):=
 ba .o call247 func247 (al (HQ a c) ao) ao ao λs=>(show _=um bq aN a s.1 s.2.1 s.2.2.1 s.2.2.2.1 s.2.2.2.2.1 s.2.2.2.2.2 from by kernel_rfl).trans ((congrArg (λb=>um b aN a s.1 s.2.1 s.2.2.1 s.2.2.2.1 s.2.2.2.2.1 s.2.2.2.2.2) aK).trans ((congrArg (λd=>um id d a s.1 s.2.1 s.2.2.1 s.2.2.2.1 s.2.2.2.2.1 s.2.2.2.2.2) aQ).trans (by kernel_rfl)))
def KC(a:dq)(b:YT):au:=⟨169,[jH,(.fn 247 [] []),Qz,aO],bM,[(true,0,cU)],λs=>sZ a b s.2.2.2.2.2.2 s.1 s.2.1 s.2.2.1 s.2.2.2.1 s.2.2.2.2.1 s.2.2.2.2.2.1⟩
def oO(e:Ex->Ex)(p:Sh->(R:Type)->Option R->Option R)(o:Q2->Option Q5)(n:Q2->Option Q5)(ops:Q1)(l:Q6)(at_:Int)(b:aF)(g:Int)(i:Int)(d:Int):Option Q5:= (xu o l at_ b g i d).bind λa=> (bz ops l a.2.1 b a.2.2.1 a.2.2.2.1 a.2.2.2.2).bind λf=> aj (a.2.2.2.1 != 0) λm=> aj (!f.2) λk=> aj (m||k) λj=> bif j then ( some ((e a.1),a.2.1,a.2.2.1,a.2.2.2.1,a.2.2.2.2)) else ( (aU l a.2.1 b a.2.2.1 a.2.2.2.1 a.2.2.2.2).bind λh=> (n (l,(i64.wrap (a.2.1+1)),b,a.2.2.1,a.2.2.2.1,a.2.2.2.2)).bind λc=> some ((Ex.mk f.1 0 h.2.2.2 ([(e a.1),(e c.1)]:List Ex)),c.2.1,c.2.2.1,c.2.2.2.1,c.2.2.2.2))
theorem F6(a:dq)(d:kx a)(b:YT)(e:OK3 b):Ko (KC a b):=
 ba .o call169 func169 (al (K9 a d) (al cK (al bV (al e ao)))) ao ao λs=>(show _=oO bq aN a b s.2.2.2.2.2.2 s.1 s.2.1 s.2.2.1 s.2.2.2.1 s.2.2.2.2.1 s.2.2.2.2.2.1 from by kernel_rfl).trans ((congrArg (λc=>oO c aN a b s.2.2.2.2.2.2 s.1 s.2.1 s.2.2.1 s.2.2.2.1 s.2.2.2.2.1 s.2.2.2.2.2.1) aK).trans ((congrArg (λf=>oO id f a b s.2.2.2.2.2.2 s.1 s.2.1 s.2.2.1 s.2.2.2.1 s.2.2.2.2.1 s.2.2.2.2.2.1) aQ).trans (by kernel_rfl)))
def OY(a:dq)(b:YT):au:=⟨219,[jH],bM,[(true,0,cU)],λs=>vu a b s.1 s.2.1 s.2.2.1 s.2.2.2.1 s.2.2.2.2.1 s.2.2.2.2.2⟩
def sV(e:Ex->Ex)(i:Sh->(R:Type)->Option R->Option R)(h:Q2->Option Q5)(g:Q2->Option Q5)(l:Q6)(at_:Int)(c:aF)(d:Int)(f:Int)(b:Int):Option Q5:= (sZ h g ([18]:zB) l at_ c d f b).bind λa=> some ((e a.1),a.2.1,a.2.2.1,a.2.2.2.1,a.2.2.2.2)
theorem Jo(a:dq)(d:kx a)(b:YT)(e:OK3 b):Ko (OY a b):=
 ba .o call219 func219 (al (F6 a d b e) ao) ao ao λs=>(show _=sV bq aN a b s.1 s.2.1 s.2.2.1 s.2.2.2.1 s.2.2.2.2.1 s.2.2.2.2.2 from by kernel_rfl).trans ((congrArg (λc=>sV c aN a b s.1 s.2.1 s.2.2.1 s.2.2.2.1 s.2.2.2.2.1 s.2.2.2.2.2) aK).trans ((congrArg (λf=>sV id f a b s.1 s.2.1 s.2.2.1 s.2.2.2.1 s.2.2.2.2.1 s.2.2.2.2.2) aQ).trans (by kernel_rfl)))
def wD(a:dq):au:=⟨114,[jH,Qz],bM,[(true,0,cU)],λs=>p7 a s.1 s.2.1 s.2.2.1 s.2.2.2.1 s.2.2.2.2.1 s.2.2.2.2.2⟩
def lL(f:Ex->Ex)(j:Sh->(R:Type)->Option R->Option R)(i:Q2->Option Q5)(h:Q2->Option Q5)(l:Q6)(at_:Int)(d:aF)(a:Int)(g:Int)(c:Int):Option Q5:= bif decide (320<=a) then (bN 9 l at_ d a g c).bind λe=> some ((f e.1),at_,a,e.2.1,e.2.2) else (vu i h l at_ d (i64.wrap (a+1)) g c).bind λb=> some ((f b.1),b.2.1,(i64.wrap (b.2.2.1-1)),b.2.2.2.1,b.2.2.2.2)
def vU(a:dq):YT->YT:=λb s=>vX a b s.1 s.2.1 s.2.2.1 s.2.2.2.1 s.2.2.2.2.1 s.2.2.2.2.2
theorem BQ(a:dq)(d:kx a)(b:YT)(e:OK3 b):(jw (vU a b)).Ok X0.P X0.Γ:=
 ba .o call114 func114 (al eY (al (Jo a d b e) ao)) ao ao λs=>(show _=lL bq aN a b s.1 s.2.1 s.2.2.1 s.2.2.2.1 s.2.2.2.2.1 s.2.2.2.2.2 from by kernel_rfl).trans ((congrArg (λc=>lL c aN a b s.1 s.2.1 s.2.2.1 s.2.2.2.1 s.2.2.2.2.1 s.2.2.2.2.2) aK).trans ((congrArg (λf=>lL id f a b s.1 s.2.1 s.2.2.1 s.2.2.2.1 s.2.2.2.2.1 s.2.2.2.2.2) aQ).trans (by kernel_rfl)))
theorem Dt(a:dq)(b:kx a):Ko (wD a):=(show wD a=jw (ax (vU a) aA) by kernel_rfl)▸eZ (X:=X0) (E:=jw) ⟨call114,λ_ _ h=>nomatch h⟩ (BQ a b) aA
def H3(a:dq):au:=⟨170,[jH],bM,[(true,0,cU)],λs=>oI a s.1 s.2.1 s.2.2.1 s.2.2.2.1 s.2.2.2.2.1 s.2.2.2.2.2⟩
def nt(e:Ex->Ex)(h:Sh->(R:Type)->Option R->Option R)(g:Q2->Option Q5)(l:Q6)(at_:Int)(c:aF)(d:Int)(f:Int)(b:Int):Option Q5:= (p7 g l at_ c d f b).bind λa=> some ((e a.1),a.2.1,a.2.2.1,a.2.2.2.1,a.2.2.2.2)
theorem CY(a:dq)(c:kx a):Ko (H3 a):=
 ba .o call170 func170 (al (Dt a c) ao) ao ao λs=>(show _=nt bq aN a s.1 s.2.1 s.2.2.1 s.2.2.2.1 s.2.2.2.2.1 s.2.2.2.2.2 from by kernel_rfl).trans ((congrArg (λb=>nt b aN a s.1 s.2.1 s.2.2.1 s.2.2.2.1 s.2.2.2.2.1 s.2.2.2.2.2) aK).trans ((congrArg (λd=>nt id d a s.1 s.2.1 s.2.2.1 s.2.2.2.1 s.2.2.2.2.1 s.2.2.2.2.2) aQ).trans (by kernel_rfl)))
def L8(a:dq):au:=⟨169,[jH,(.fn 170 [] []),P5,aO],bM,[(true,0,cU)],λs=>sE a s.2.2.2.2.2.2 s.1 s.2.1 s.2.2.1 s.2.2.2.1 s.2.2.2.2.1 s.2.2.2.2.2.1⟩
def oU(e:Ex->Ex)(o:Sh->(R:Type)->Option R->Option R)(n:Q2->Option Q5)(ops:Q1)(l:Q6)(at_:Int)(b:aF)(g:Int)(i:Int)(d:Int):Option Q5:= (oI n l at_ b g i d).bind λa=> (bz ops l a.2.1 b a.2.2.1 a.2.2.2.1 a.2.2.2.2).bind λf=> aj (a.2.2.2.1 != 0) λm=> aj (!f.2) λk=> aj (m||k) λj=> bif j then ( some ((e a.1),a.2.1,a.2.2.1,a.2.2.2.1,a.2.2.2.2)) else ( (aU l a.2.1 b a.2.2.1 a.2.2.2.1 a.2.2.2.2).bind λh=> (n (l,(i64.wrap (a.2.1+1)),b,a.2.2.1,a.2.2.2.1,a.2.2.2.2)).bind λc=> some ((Ex.mk f.1 0 h.2.2.2 ([(e a.1),(e c.1)]:List Ex)),c.2.1,c.2.2.1,c.2.2.2.1,c.2.2.2.2))
theorem FU(a:dq)(c:kx a):Ko (L8 a):=
 ba .o call169 func169 (al (CY a c) (al cK (al bV (al c ao)))) ao ao λs=>(show _=oU bq aN a s.2.2.2.2.2.2 s.1 s.2.1 s.2.2.1 s.2.2.2.1 s.2.2.2.2.1 s.2.2.2.2.2.1 from by kernel_rfl).trans ((congrArg (λb=>oU b aN a s.2.2.2.2.2.2 s.1 s.2.1 s.2.2.1 s.2.2.2.1 s.2.2.2.2.1 s.2.2.2.2.2.1) aK).trans ((congrArg (λd=>oU id d a s.2.2.2.2.2.2 s.1 s.2.1 s.2.2.1 s.2.2.2.1 s.2.2.2.2.1 s.2.2.2.2.2.1) aQ).trans (by kernel_rfl)))
def Nq(a:dq):au:=⟨115,[jH],bM,[(true,0,cU)],λs=>vg a s.1 s.2.1 s.2.2.1 s.2.2.2.1 s.2.2.2.2.1 s.2.2.2.2.2⟩
def sg(e:Ex->Ex)(h:Sh->(R:Type)->Option R->Option R)(g:Q2->Option Q5)(l:Q6)(at_:Int)(c:aF)(d:Int)(f:Int)(b:Int):Option Q5:= (sE g ([19]:zB) l at_ c d f b).bind λa=> some ((e a.1),a.2.1,a.2.2.1,a.2.2.2.1,a.2.2.2.2)
theorem IU(a:dq)(c:kx a):Ko (Nq a):=
 ba .o call115 func115 (al (FU a c) ao) ao ao λs=>(show _=sg bq aN a s.1 s.2.1 s.2.2.1 s.2.2.2.1 s.2.2.2.2.1 s.2.2.2.2.2 from by kernel_rfl).trans ((congrArg (λb=>sg b aN a s.1 s.2.1 s.2.2.1 s.2.2.2.1 s.2.2.2.2.1 s.2.2.2.2.2) aK).trans ((congrArg (λd=>sg id d a s.1 s.2.1 s.2.2.1 s.2.2.2.1 s.2.2.2.2.1 s.2.2.2.2.2) aQ).trans (by kernel_rfl)))
def wH:au:=⟨114,[jH,P5],bM,[(true,0,cU)],U6 ru⟩
def lP(f:Ex->Ex)(i:Sh->(R:Type)->Option R->Option R)(h:Q2->Option Q5)(l:Q6)(at_:Int)(d:aF)(a:Int)(g:Int)(c:Int):Option Q5:= bif decide (320<=a) then (bN 9 l at_ d a g c).bind λe=> some ((f e.1),at_,a,e.2.1,e.2.2) else (vg h l at_ d (i64.wrap (a+1)) g c).bind λb=> some ((f b.1),b.2.1,(i64.wrap (b.2.2.1-1)),b.2.2.2.1,b.2.2.2.2)
def wJ:dq->dq:=λa s=>wA a s.1 s.2.1 s.2.2.1 s.2.2.2.1 s.2.2.2.2.1 s.2.2.2.2.2
theorem BS(a:dq)(c:kx a):(jB (wJ a)).Ok X0.P X0.Γ:=
 ba .o call114 func114 (al eY (al (IU a c) ao)) ao ao λs=>(show _=lP bq aN a s.1 s.2.1 s.2.2.1 s.2.2.2.1 s.2.2.2.2.1 s.2.2.2.2.2 from by kernel_rfl).trans ((congrArg (λb=>lP b aN a s.1 s.2.1 s.2.2.1 s.2.2.2.1 s.2.2.2.2.1 s.2.2.2.2.2) aK).trans ((congrArg (λd=>lP id d a s.1 s.2.1 s.2.2.1 s.2.2.2.1 s.2.2.2.2.1 s.2.2.2.2.2) aQ).trans (by kernel_rfl)))
theorem DC:Ko wH:=(show wH=jB (ax (wJ) aA) by kernel_rfl)▸eZ (X:=X0) (E:=jB) ⟨call114,λ_ _ h=>nomatch h⟩ (BS) aA
def Xs:au:=⟨62,[KS,aq,EO],(.cB [bM,aq,aq,aq]),[],U3 BO⟩
def yq(c:Ex->Ex)(d:Sh->(R:Type)->Option R->Option R)(l:Q6)(at_:Int)(b:aF):Option SF:= (ru l at_ b 0 0 0).bind λa=> bif a.2.2.2.1 != 0 then some ((Ex.mk 0 0 0 []),0,a.2.2.2.1,a.2.2.2.2) else some ((c a.1),a.2.1,0,0)
theorem Oj:Ko Xs:=
 ba (.c (.r [6] .o) (.r [6] .o)) call62 func62 (al DC ao) ao ao λs=>(show _=yq bq aN s.1 s.2.1 s.2.2 from by kernel_rfl).trans ((congrArg (λa=>yq a aN s.1 s.2.1 s.2.2) aK).trans ((congrArg (λb=>yq id b s.1 s.2.1 s.2.2) aQ).trans (by kernel_rfl)))
def SA:au:=⟨63,[gW],(.cB [aq,aq,aq]),[],λs=>mw s⟩
def Zk(k:Ex->Ex)(D:Sh->(R:Type)->Option R->Option R)(C:Ex->Option rP)(e:Ex)(g:Q69->Option rP):Bool×Bool×Bool×Int->Option rP:=λ⟨b,d,a,h⟩=> bif decide (h<(List.length e.l:Int)) then (idx e.l h).bind λm=> (C (k m)).bind λf=> bif f.2.1 != 0 then some (0,f.2.1,f.2.2) else aj (f.1==1) λB=> aj (b&&B) λA=> aj (f.1==2) λz=> aj (d&&z) λy=> aj (f.1 != 1) λx=> aj (a&&x) λw=> g (A,y,w,(i64.wrap (h+1))) else aj (decide (e.op<=6)) λv=> aj (v&&b) λu=> bif u then ( some (1,0,0)) else ( aj (λ(j:Bool)=>Nt e a j) λc=> aj (decide (6<e.op)) λt=> aj (decide (e.op<=12)) λs=> aj (t&&s) λr=> aj (r&&b) λi=> bif i then ( c i) else ( bif e.op==13 then c (e.op==13) else bif e.op==14 then c (e.op==14) else aj (decide (15<=e.op)) λq=> aj (decide (e.op<=19)) λp=> aj (q&&p) λo=> aj (o&&d) λn=> c n))
def Cd(a:Ex->Ex)(c:Sh->(R:Type)->Option R->Option R)(b:Ex->Option rP)(e:Ex):Option rP:= ax (Zk a c b e) aA (true,true,true,0)
def Ub:TK5->TK5:=λa s=>SZ a s
theorem Vw(a:TK5)(d:OK5 a):(yv (Ub a)).Ok X0.P X0.Γ:=
 ba (.l ⟨[(false,5,.bool),(false,6,.bool),(false,7,.bool),(false,16,aq)],[]⟩ (.c .o (.c .o (.j ⟨[(false,53,.bool)],[]⟩ .o .o)))) call63 func63 (al d ao) ao ao λs=>(show _=Cd bq aN a s from by kernel_rfl).trans ((congrArg (λb=>Cd b aN a s) aK).trans ((congrArg (λe=>Cd id e a s) aQ).trans (by kernel_rfl)))
theorem tP:Ko SA:=(show SA=yv (ax (Ub) aA) by kernel_rfl)▸eZ (X:=X0) (E:=yv) ⟨call63,λ_ _ h=>nomatch h⟩ (Vw) aA
def Ze:au:=⟨63,[(.dat .ex [some 88])],(.cB [aq,aq,aq]),[],λs=>EA s⟩
def Ru(k:Ex->Ex)(C:Sh->(R:Type)->Option R->Option R)(e:Ex)(g:Q69->Option rP):Bool×Bool×Bool×Int->Option rP:=λ⟨b,d,a,h⟩=> bif decide (h<(List.length e.l:Int)) then (idx e.l h).bind λm=> (mw (k m)).bind λf=> bif f.2.1 != 0 then some (0,f.2.1,f.2.2) else aj (f.1==1) λB=> aj (b&&B) λA=> aj (f.1==2) λz=> aj (d&&z) λy=> aj (f.1 != 1) λx=> aj (a&&x) λw=> g (A,y,w,(i64.wrap (h+1))) else aj (decide (e.op<=6)) λv=> aj (v&&b) λu=> bif u then ( some (1,0,0)) else ( aj (λ(j:Bool)=>Gp e a j) λc=> aj (decide (6<e.op)) λt=> aj (decide (e.op<=12)) λs=> aj (t&&s) λr=> aj (r&&b) λi=> bif i then ( c i) else ( bif e.op==13 then c (e.op==13) else bif e.op==14 then c (e.op==14) else aj (decide (15<=e.op)) λq=> aj (decide (e.op<=19)) λp=> aj (q&&p) λo=> aj (o&&d) λn=> c n))
def Ao(a:Ex->Ex)(b:Sh->(R:Type)->Option R->Option R)(e:Ex):Option rP:= ax (Ru a b e) aA (true,true,true,0)
theorem Rs:Ko Ze:=
 ba (.l ⟨[(false,5,.bool),(false,6,.bool),(false,7,.bool),(false,16,aq)],[]⟩ (.c .o (.c .o (.j ⟨[(false,53,.bool)],[]⟩ .o .o)))) call63 func63 (al tP ao) ao ao λs=>(show _=Ao bq aN s from by kernel_rfl).trans ((congrArg (λa=>Ao a aN s) aK).trans ((congrArg (λb=>Ao id b s) aQ).trans (by kernel_rfl)))
def FE:bO:=⟨215,[agl,aq],HN,none,false,false,bM,[(true,0,Vn)],λs=>ig s.2.2.2.2.2.2.2 s.1 s.2.1 s.2.2.1 s.2.2.2.1 s.2.2.2.2.1 s.2.2.2.2.2.1 s.2.2.2.2.2.2.1⟩
def B1(b:Ex->Ex)(c:Sh->(R:Type)->Option R->Option R)(a:SF):Option (Except cF kA):= some (.ok ((b a.1),a.2.1))
def B2(e:Ex->Ex)(h:Sh->(R:Type)->Option R->Option R)(a:Int)(g:Int)(b:SF)(d:rP):Option (Except cF kA):= aj (λ(f:Unit)=>B1 e h b) λc=> bif d.1 != a then some (.error (4,b.1.at_)) else c ()
def Ci(e:Ex->Ex)(g:Sh->(R:Type)->Option R->Option R)(b:Int)(at_:Int)(c:SF):Option (Except cF kA):= (EA (e c.1)).bind λa=> aj (λ(f:Unit)=>B2 e g b at_ c a) λd=> bif a.2.1 != 0 then some (.error a.2) else d ()
def lV(g:Ex->Ex)(k:Sh->(R:Type)->Option R->Option R)(c:Int)(l:Q6)(at_:Int)(b:aF)(e:Q8)(h:Q1)(f:aF)(j:Q9):Option (Except cF kA):= (BO l at_ b).bind λa=> aj (λ(i:Unit)=>Ci g k c at_ a) λd=> bif a.2.2.1 != 0 then some (.error a.2.2) else d ()
theorem pO:tY FE:=
 s6 (.r [0,40000] (.j ⟨[],[]⟩ .o (.s (.j ⟨[],[]⟩ .o (.j ⟨[],[]⟩ .o .o))))) call215 func215 (al Oj (al Rs ao)) ao ao λs=>(show _=lV bq aN s.2.2.2.2.2.2.2 s.1 s.2.1 s.2.2.1 s.2.2.2.1 s.2.2.2.2.1 s.2.2.2.2.2.1 s.2.2.2.2.2.2.1 from by kernel_rfl).trans ((congrArg (λa=>lV a aN s.2.2.2.2.2.2.2 s.1 s.2.1 s.2.2.1 s.2.2.2.1 s.2.2.2.2.1 s.2.2.2.2.2.1 s.2.2.2.2.2.2.1) aK).trans ((congrArg (λb=>lV id b s.2.2.2.2.2.2.2 s.1 s.2.1 s.2.2.1 s.2.2.2.1 s.2.2.2.2.1 s.2.2.2.2.2.1 s.2.2.2.2.2.2.1) aQ).trans (by kernel_rfl)))
def B8:au:=⟨246,[(.dat u4 [none]),(.bx 3 0 false [aq])],.bool,[],U2 lv⟩
theorem yz:Ko B8:=
 ay .o call246 func246 ao
def rT:au:=⟨262,[(.own u4 275 false),(.fn 246 [] [(.bx 3 0 false [aq])])],aq,[],U2 jW⟩
def px(e:Ex->Ex)(g:Sh->(R:Type)->Option R->Option R)(s:G6)(c:Int)(a:Int->zr)(b:Int):zr:= bif decide (b<(s.length:Int)) then (idx s b).bind λf=> (lv (f.1,(e f.2)) c).bind λd=> bif d then ( some b) else ( a (i64.wrap (b+1))) else some (-1)
def fG(a:Ex->Ex)(b:Sh->(R:Type)->Option R->Option R)(s:G6)(c:Int):zr:= ax (px a b s c) aA 0
theorem oH:Ko rT:=
 ba (.l ⟨[(false,8,aq)],[]⟩ .o) call262 func262 (al yz ao) ao ao λs=>(show _=fG bq aN s.1 s.2 from by kernel_rfl).trans ((congrArg (λa=>fG a aN s.1 s.2) aK).trans ((congrArg (λb=>fG id b s.1 s.2) aQ).trans (by kernel_rfl)))
def pb:au:=⟨245,[(.own u4 275 false),(.fn 246 [] [(.bx 3 0 false [aq])])],.bool,[],U2 fp⟩
theorem nG:Ko pb:=
 ay .o call245 func245 (al oH ao)
def Cc:bO:=⟨216,[agl,(.own u4 275 false)],HN,none,false,false,(.dat u4 [some 89]),[(true,0,Vn)],λs=>ll s.2.2.2.2.2.2.2 s.1 s.2.1 s.2.2.1 s.2.2.2.1 s.2.2.2.2.1 s.2.2.2.2.2.1 s.2.2.2.2.2.2.1⟩
def yy(i:Ex->Ex)(j:Sh->(R:Type)->Option R->Option R)(l:Q6)(at_:Int)(c:aF)(a:Q8)(d:Q1)(b:aF)(f:Q9)(h:Int):Option Q49:= dn (fE [61] l (i64.wrap (at_+1)) c a d b f) λg=> dn (ig 1 l g c a d b f) λe=> some (.ok ((h,(i e.1)),e.2))
def yB(m:Ex->Ex)(q:Sh->(R:Type)->Option R->Option R)(f:G6)(l:Q6)(at_:Int)(a:aF)(b:Q8)(d:Q1)(c:aF)(i:Q9)(p:Gz):Option Q49:= (dy a p.2.1).bind λe=> aj (λ(o:Unit)=>yy m q l at_ a b d c i e) λg=> aj (decide (e<0)) λh=> bm (!h) default (fp f e) λk=> aj (h||k) λn=> bif n then ( dn (cX 3 l at_ a b d c i) λj=> j.elim) else ( g ())
def kg(i:Ex->Ex)(m:Sh->(R:Type)->Option R->Option R)(e:G6)(l:Q6)(at_:Int)(c:aF)(a:Q8)(d:Q1)(b:aF)(f:Q9):Option Q49:= (eD l at_ c a d b f).bind λj=> aj (λ(k:Unit)=>yB i m e l at_ c a d b f j) λg=> bif j.1 != 1 then dn (cX 2 l at_ c a d b f) λh=> h.elim else g ()
theorem yA:tY Cc:=
 s6 (.s (.s (.j ⟨[],[]⟩ .o (.r [0,40000] (.j ⟨[],[]⟩ .o (.r [0,4] .o)))))) call216 func216 (al eS (al gw (al nG ao))) (al kH (al pO (al fW ao))) ao λs=>(show _=kg bq aN s.2.2.2.2.2.2.2 s.1 s.2.1 s.2.2.1 s.2.2.2.1 s.2.2.2.2.1 s.2.2.2.2.2.1 s.2.2.2.2.2.2.1 from by kernel_rfl).trans ((congrArg (λa=>kg a aN s.2.2.2.2.2.2.2 s.1 s.2.1 s.2.2.1 s.2.2.2.1 s.2.2.2.2.1 s.2.2.2.2.2.1 s.2.2.2.2.2.2.1) aK).trans ((congrArg (λb=>kg id b s.2.2.2.2.2.2.2 s.1 s.2.1 s.2.2.1 s.2.2.2.1 s.2.2.2.2.1 s.2.2.2.2.2.1 s.2.2.2.2.2.2.1) aQ).trans (by kernel_rfl)))
def Lg:bO:=⟨167,[(.bx 166 0 true [KS,aq,EO,Qf,LC,EO,VW])],HN,none,false,false,fH,[(true,0,ars)],U7 Bk⟩
def Fz(e:Ex->Ex)(o:Sh->(R:Type)->Option R->Option R)(l:Q6)(d:aF)(c:Q8)(h:Q1)(b:aF)(i:Q9)(j:kA)(g:(Int×G6)->Option Q50):Int×G6->Option Q50:=λ⟨n,f⟩=> dn (ll f l n d c h b i) λa=> aJ (aH (List.length f+List.length ([(a.1.1,(e a.1.2))]:List X7)) 56)<| (iO 3 [59] l a.2 d c h b i).bind λm=> bif m then ( aJ (aH (List.length i+List.length ([((i64.wrap ((b.length:Int)-1)),(e j.1),(f++([(a.1.1,(e a.1.2))]:List X7)))]:List Q70)) 80)<| some (.ok ((i64.wrap (a.2+1)),(i++([((i64.wrap ((b.length:Int)-1)),(e j.1),(f++([(a.1.1,(e a.1.2))]:List X7)))]:List Q70))))) else ( dn (fE [44] l a.2 d c h b i) λk=> g (k,(f++([(a.1.1,(e a.1.2))]:List X7))))
def F8(h:Ex->Ex)(i:Sh->(R:Type)->Option R->Option R)(l:Q6)(at_:Int)(c:aF)(a:Q8)(d:Q1)(b:aF)(e:Q9):Option Q50:= dn (ig 2 l at_ c a d b e) λf=> dn (fE [58] l f.2 c a d b e) λg=> ax (Fz h i l c a d b e f) aA (g,[])
def ph(h:Ex->Ex)(j:Sh->(R:Type)->Option R->Option R)(l:Q6)(at_:Int)(c:aF)(a:Q8)(d:Q1)(b:aF)(e:Q9):Option Q50:= aj (λ(i:Unit)=>F8 h j l at_ c a d b e) λf=> bif decide (256<=(e.length:Int)) then dn (cX 9 l at_ c a d b e) λg=> g.elim else f ()
theorem FG:tY Lg:=
 s6 (.j ⟨[],[]⟩ .o (.r [0,40000] (.l ⟨[(true,0,Vn),(true,2,(.bx 272 0 true [.same,.same,.same,.same,.same,(.own u4 275 true)]))],[]⟩ (.r [0,2] (.c (.r [0,2] .o) .o))))) call167 func167 (al jO ao) (al pO (al kH (al yA (al fW ao)))) ao λs=>(show _=ph bq aN s.1 s.2.1 s.2.2.1 s.2.2.2.1 s.2.2.2.2.1 s.2.2.2.2.2.1 s.2.2.2.2.2.2 from by kernel_rfl).trans ((congrArg (λa=>ph a aN s.1 s.2.1 s.2.2.1 s.2.2.2.1 s.2.2.2.2.1 s.2.2.2.2.2.1 s.2.2.2.2.2.2) aK).trans ((congrArg (λb=>ph id b s.1 s.2.1 s.2.2.1 s.2.2.2.1 s.2.2.2.2.1 s.2.2.2.2.2.1 s.2.2.2.2.2.2) aQ).trans (by kernel_rfl)))
def L9:bO:=⟨110,[(.bx 166 0 true [KS,aq,EO,Qf,LC,Ep,VW])],HN,none,false,false,fH,[(true,0,(.bx 166 0 true [.same,aq,.same,.same,.same,Ep,VW]))],U7 Bt⟩
theorem FF:tY L9:=
 s6 (.r [0] (.l ⟨[(true,0,ars)],[]⟩ .o)) call110 func110 (al jO ao) (al xm (al kH (al FG ao))) ao λ_=>by kernel_rfl
def V7:bO:=⟨61,[(.bx 166 0 true [KS,aq,Ep,KH,gJ,Ep,VW])],HN,none,false,false,fH,[(true,0,arG)],U7 Jy⟩
theorem M9:tY V7:=
 s6 (.l ⟨[(true,0,arG),(true,2,(.bx 235 0 true [.same,.same]))],[]⟩ .o) call61 func61 (al eS (al jO ao)) (al EW (al fW (al FF ao))) ao λ_=>by kernel_rfl
def acH:au:=⟨25,[.str],(.cB [AG,aq,aq]),[],λs=>A3 s⟩
theorem aqc:(⟨60,Tryz.f60⟩:lJ).Ok X0.P:=⟨call60,func60⟩
theorem Eo:Ko acH:=
 ba .o call25 func25 (al G3 ao) (al M9 ao) (al aqc ao) λ_=>by kernel_rfl
def VK:au:=⟨85,[(.bx 115 0 true [.str,.str,aq,aq,aq,sf,aq,aq,EO,Qf,LC,EO,(.own vk 272 false),aq,aq,aq,(.own .ex 44 false),aq,aq,aq,gJ,jj,jj]),aq,aq,aO],.bool,[(true,0,akP)],λs=>IY (d8 (d8 s)).2.2.2.2.2.2.2.1 (d8 (d8 (d8 s))).1 (d8 (d8 (d8 s))).2 s.1 s.2.1 s.2.2.1 s.2.2.2.1 s.2.2.2.2.1 s.2.2.2.2.2.1 s.2.2.2.2.2.2.1 s.2.2.2.2.2.2.2.1 s.2.2.2.2.2.2.2.2.1 (d8 s).2.1 (d8 s).2.2.1 (d8 s).2.2.2.1 (d8 s).2.2.2.2.1 (d8 s).2.2.2.2.2.1 (d8 s).2.2.2.2.2.2.1 (d8 s).2.2.2.2.2.2.2.1 (d8 (d8 s)).1 (d8 (d8 s)).2.1 (d8 (d8 s)).2.2.1 (d8 (d8 s)).2.2.2.1 (d8 (d8 s)).2.2.2.2.1 (d8 (d8 s)).2.2.2.2.2.1 (d8 (d8 s)).2.2.2.2.2.2.1⟩
theorem MY:Ko VK:=
 ay .o call85 func85 ao
def Ux:au:=⟨168,[fN,aq],bM,[(true,0,(.bx 240 0 true [.same,.same,.same,.same,aq,aq]))],λs=>cp s.2.2.2.2.2.2 s.1 s.2.1 s.2.2.1 s.2.2.2.1 s.2.2.2.2.1 s.2.2.2.2.2.1⟩
theorem gE:Ko Ux:=
 ay (.c (.r [0] .o) .o) call168 func168 ao
def V3:au:=⟨218,[arR],(.dat nq []),[],U6 bf⟩
theorem cz:Ko V3:=
 ay (.r [2] .o) call218 func218 ao
def ZM:au:=⟨217,[arR,aO],Ed,[],λs=>bU s.2.2.2.2.2.2 s.1 s.2.1 s.2.2.1 s.2.2.2.1 s.2.2.2.2.1 s.2.2.2.2.2.1⟩
theorem dw:Ko ZM:=
 ay (.c .o (.l ⟨[(false,27,aq)],[]⟩ .o)) call217 func217 (al cz (al pI ao))
def WZ(a:bX):au:=⟨287,[fN],bM,[(true,0,cU)],λs=>Cg a s.1 s.2.1 s.2.2.1 s.2.2.2.1 s.2.2.2.2.1 s.2.2.2.2.2⟩
def yd(h:Ex->Ex)(C:Sh->(R:Type)->Option R->Option R)(B:Q2->Option Q5)(l:Q6)(at_:Int)(c:aF)(d:Int)(f:Int)(b:Int):Option Q5:= bif f != 0 then some ((Ex.mk 0 0 0 []),at_,d,f,b) else (bf l at_ c d f b).bind λe=> (bU ([13,14]:zB) l at_ c d f b).bind λn=> bif n.2 then ( some ((Ex.mk n.1 0 e.2.2.2 []),(i64.wrap (at_+1)),d,f,b)) else ( bif e.1==2 then some ((Ex.mk 1 e.2.2.1 e.2.2.2 []),(i64.wrap (at_+1)),d,f,b) else aj (e.1==1) λp=> bm p default (sK e.2.1) λs=> aj (!s) λA=> aj (p&&A) λz=> bif z then ( (eW c e.2.1).bind λm=> bif decide (m<0) then (cp 3 l at_ c d f b).bind λj=> some ((h j.1),at_,d,j.2.1,j.2.2) else some ((Ex.mk 2 m e.2.2.2 []),(i64.wrap (at_+1)),d,f,b)) else ( aj (e.1==3) λy=> aj (e.2.1==[40]) λx=> aj (y&&x) λw=> bif w then ( (B (l,(i64.wrap (at_+1)),c,d,f,b)).bind λa=> aj (a.2.2.2.1==0) λk=> bm k default (bf l a.2.1 c a.2.2.1 a.2.2.2.1 a.2.2.2.2) λr=> aj (r.1 != 3) λo=> bm (k&& !o) default (bf l a.2.1 c a.2.2.1 a.2.2.2.1 a.2.2.2.2) λq=> aj (q.2.1 != [41]) λv=> aj (o||v) λu=> aj (k&&u) λt=> bif t then ( (cp 2 l a.2.1 c a.2.2.1 a.2.2.2.1 a.2.2.2.2).bind λi=> some ((h i.1),a.2.1,a.2.2.1,i.2.1,i.2.2)) else ( bif a.2.2.2.1==0 then some ((h a.1),(i64.wrap (a.2.1+1)),a.2.2.1,a.2.2.2.1,a.2.2.2.2) else some ((h a.1),a.2.1,a.2.2.1,a.2.2.2.1,a.2.2.2.2))) else ( (cp 2 l at_ c d f b).bind λg=> some ((h g.1),at_,d,g.2.1,g.2.2))))
theorem NJ(a:bX)(b:gu a):Ko (WZ a):=
 ba .o call287 func287 (al cz (al dw (al pI (al im (al gE (al b ao)))))) ao ao λs=>(show _=yd bq aN a s.1 s.2.1 s.2.2.1 s.2.2.2.1 s.2.2.2.2.1 s.2.2.2.2.2 from by kernel_rfl).trans ((congrArg (λc=>yd c aN a s.1 s.2.1 s.2.2.1 s.2.2.2.1 s.2.2.2.2.1 s.2.2.2.2.2) aK).trans ((congrArg (λd=>yd id d a s.1 s.2.1 s.2.2.1 s.2.2.2.1 s.2.2.2.2.1 s.2.2.2.2.2) aQ).trans (by kernel_rfl)))
def JI(a:bX)(b:WR):au:=⟨281,[fN,Qm,(.fn 287 [] []),aO],bM,[(true,0,cU)],λs=>rm a b s.2.2.2.2.2.2 s.1 s.2.1 s.2.2.1 s.2.2.2.1 s.2.2.2.2.1 s.2.2.2.2.2.1⟩
def n8(h:Ex->Ex)(m:Sh->(R:Type)->Option R->Option R)(k:Q2->Option Q5)(j:Q2->Option Q5)(ops:Q1)(l:Q6)(at_:Int)(b:aF)(c:Int)(f:Int)(a:Int):Option Q5:= (bU ops l at_ b c f a).bind λg=> bif !g.2 then (Cg k l at_ b c f a).bind λe=> some ((h e.1),e.2.1,e.2.2.1,e.2.2.2.1,e.2.2.2.2) else (bf l at_ b c f a).bind λi=> (j (l,(i64.wrap (at_+1)),b,c,f,a)).bind λd=> some ((Ex.mk g.1 0 i.2.2.2 ([(h d.1)]:List Ex)),d.2.1,d.2.2.1,d.2.2.2.1,d.2.2.2.2)
theorem Fj(a:bX)(d:gu a)(b:WR)(f:OK6 b):Ko (JI a b):=
 ba (.c .o (.r [0,8] .o)) call281 func281 (al dw (al (NJ a d) (al cz (al f ao)))) ao ao λs=>(show _=n8 bq aN a b s.2.2.2.2.2.2 s.1 s.2.1 s.2.2.1 s.2.2.2.1 s.2.2.2.2.1 s.2.2.2.2.2.1 from by kernel_rfl).trans ((congrArg (λe=>n8 e aN a b s.2.2.2.2.2.2 s.1 s.2.1 s.2.2.1 s.2.2.2.1 s.2.2.2.2.1 s.2.2.2.2.2.1) aK).trans ((congrArg (λg=>n8 id g a b s.2.2.2.2.2.2 s.1 s.2.1 s.2.2.1 s.2.2.2.1 s.2.2.2.2.1 s.2.2.2.2.2.1) aQ).trans (by kernel_rfl)))
def Wg(a:bX)(b:WR):au:=⟨286,[fN],bM,[(true,0,cU)],λs=>Cj a b s.1 s.2.1 s.2.2.1 s.2.2.2.1 s.2.2.2.2.1 s.2.2.2.2.2⟩
def xx(e:Ex->Ex)(i:Sh->(R:Type)->Option R->Option R)(h:Q2->Option Q5)(g:Q2->Option Q5)(l:Q6)(at_:Int)(c:aF)(d:Int)(f:Int)(b:Int):Option Q5:= (rm h g ([6]:zB) l at_ c d f b).bind λa=> some ((e a.1),a.2.1,a.2.2.1,a.2.2.2.1,a.2.2.2.2)
theorem OE(a:bX)(c:gu a)(b:WR)(e:OK6 b):Ko (Wg a b):=
 ba .o call286 func286 (al (Fj a c b e) ao) ao ao λs=>(show _=xx bq aN a b s.1 s.2.1 s.2.2.1 s.2.2.2.1 s.2.2.2.2.1 s.2.2.2.2.2 from by kernel_rfl).trans ((congrArg (λd=>xx d aN a b s.1 s.2.1 s.2.2.1 s.2.2.2.1 s.2.2.2.2.1 s.2.2.2.2.2) aK).trans ((congrArg (λf=>xx id f a b s.1 s.2.1 s.2.2.1 s.2.2.2.1 s.2.2.2.2.1 s.2.2.2.2.2) aQ).trans (by kernel_rfl)))
def ya(a:bX):au:=⟨114,[fN,Qm],bM,[(true,0,cU)],λs=>sn a s.1 s.2.1 s.2.2.1 s.2.2.2.1 s.2.2.2.2.1 s.2.2.2.2.2⟩
def nw(f:Ex->Ex)(j:Sh->(R:Type)->Option R->Option R)(i:Q2->Option Q5)(h:Q2->Option Q5)(l:Q6)(at_:Int)(d:aF)(a:Int)(g:Int)(c:Int):Option Q5:= bif decide (320<=a) then (cp 9 l at_ d a g c).bind λe=> some ((f e.1),at_,a,e.2.1,e.2.2) else (Cj i h l at_ d (i64.wrap (a+1)) g c).bind λb=> some ((f b.1),b.2.1,(i64.wrap (b.2.2.1-1)),b.2.2.2.1,b.2.2.2.2)
def xW(a:bX):WR->WR:=λb s=>xU a b s.1 s.2.1 s.2.2.1 s.2.2.2.1 s.2.2.2.2.1 s.2.2.2.2.2
theorem CH(a:bX)(c:gu a)(b:WR)(e:OK6 b):(jR (xW a b)).Ok X0.P X0.Γ:=
 ba .o call114 func114 (al gE (al (OE a c b e) ao)) ao ao λs=>(show _=nw bq aN a b s.1 s.2.1 s.2.2.1 s.2.2.2.1 s.2.2.2.2.1 s.2.2.2.2.2 from by kernel_rfl).trans ((congrArg (λd=>nw d aN a b s.1 s.2.1 s.2.2.1 s.2.2.2.1 s.2.2.2.2.1 s.2.2.2.2.2) aK).trans ((congrArg (λf=>nw id f a b s.1 s.2.1 s.2.2.1 s.2.2.2.1 s.2.2.2.2.1 s.2.2.2.2.2) aQ).trans (by kernel_rfl)))
theorem F0(a:bX)(b:gu a):Ko (ya a):=(show ya a=jR (ax (xW a) aA) by kernel_rfl)▸eZ (X:=X0) (E:=jR) ⟨call114,λ_ _ h=>nomatch h⟩ (CH a b) aA
def M5(a:bX):au:=⟨285,[fN],bM,[(true,0,cU)],λs=>km a s.1 s.2.1 s.2.2.1 s.2.2.2.1 s.2.2.2.2.1 s.2.2.2.2.2⟩
def rh(e:Ex->Ex)(h:Sh->(R:Type)->Option R->Option R)(g:Q2->Option Q5)(l:Q6)(at_:Int)(c:aF)(d:Int)(f:Int)(b:Int):Option Q5:= (sn g l at_ c d f b).bind λa=> some ((e a.1),a.2.1,a.2.2.1,a.2.2.2.1,a.2.2.2.2)
theorem HJ(a:bX)(b:gu a):Ko (M5 a):=
 ba .o call285 func285 (al (F0 a b) ao) ao ao λs=>(show _=rh bq aN a s.1 s.2.1 s.2.2.1 s.2.2.2.1 s.2.2.2.2.1 s.2.2.2.2.2 from by kernel_rfl).trans ((congrArg (λc=>rh c aN a s.1 s.2.1 s.2.2.1 s.2.2.2.1 s.2.2.2.2.1 s.2.2.2.2.2) aK).trans ((congrArg (λd=>rh id d a s.1 s.2.1 s.2.2.1 s.2.2.2.1 s.2.2.2.2.1 s.2.2.2.2.2) aQ).trans (by kernel_rfl)))
def Nh(a:bX):au:=⟨263,[fN,(.fn 285 [] []),aO],bM,[(true,0,cU)],λs=>uG a s.2.2.2.2.2.2 s.1 s.2.1 s.2.2.1 s.2.2.2.1 s.2.2.2.2.1 s.2.2.2.2.2.1⟩
def H9(o:Ex->Ex)(q:Sh->(R:Type)->Option R->Option R)(p:Q2->Option Q5)(ops:Q1)(l:Q6)(a:aF)(g:Cy->Option Q5):Int×Int×Int×Int×Int×Int×Int×(List Ex)->Option Q5:=λ⟨f,e,b,d,k,j,i,h⟩=> bif b==0 then (bU ops l f a e b d).bind λm=> bif !m.2 then some ((Ex.mk k j i h),f,e,b,d) else (bf l f a e b d).bind λn=> (km p l (i64.wrap (f+1)) a e b d).bind λc=> g (c.2.1,c.2.2.1,c.2.2.2.1,c.2.2.2.2,m.1,0,n.2.2.2,([(Ex.mk k j i h),(o c.1)]:List Ex)) else some ((Ex.mk k j i h),f,e,b,d)
def p9(e:Ex->Ex)(h:Sh->(R:Type)->Option R->Option R)(g:Q2->Option Q5)(ops:Q1)(l:Q6)(at_:Int)(b:aF)(d:Int)(f:Int)(c:Int):Option Q5:= (km g l at_ b d f c).bind λa=> ax (H9 e h g ops l b) aA (a.2.1,a.2.2.1,a.2.2.2.1,a.2.2.2.2,a.1.op,a.1.n,a.1.at_,a.1.l)
theorem G8(a:bX)(b:gu a):Ko (Nh a):=
 ba (.l ⟨[(true,0,cU),(true,6,L0),(true,7,NO)],[]⟩ .o) call263 func263 (al (HJ a b) (al dw (al cz ao))) ao ao λs=>(show _=p9 bq aN a s.2.2.2.2.2.2 s.1 s.2.1 s.2.2.1 s.2.2.2.1 s.2.2.2.2.1 s.2.2.2.2.2.1 from by kernel_rfl).trans ((congrArg (λc=>p9 c aN a s.2.2.2.2.2.2 s.1 s.2.1 s.2.2.1 s.2.2.2.1 s.2.2.2.2.1 s.2.2.2.2.2.1) aK).trans ((congrArg (λd=>p9 id d a s.2.2.2.2.2.2 s.1 s.2.1 s.2.2.1 s.2.2.2.1 s.2.2.2.2.1 s.2.2.2.2.2.1) aQ).trans (by kernel_rfl)))
def UM(a:bX):au:=⟨284,[fN],bM,[(true,0,cU)],λs=>oa a s.1 s.2.1 s.2.2.1 s.2.2.2.1 s.2.2.2.2.1 s.2.2.2.2.2⟩
def vC(e:Ex->Ex)(h:Sh->(R:Type)->Option R->Option R)(g:Q2->Option Q5)(l:Q6)(at_:Int)(c:aF)(d:Int)(f:Int)(b:Int):Option Q5:= (uG g ([5]:zB) l at_ c d f b).bind λa=> some ((e a.1),a.2.1,a.2.2.1,a.2.2.2.1,a.2.2.2.2)
theorem Nb(a:bX)(b:gu a):Ko (UM a):=
 ba .o call284 func284 (al (G8 a b) ao) ao ao λs=>(show _=vC bq aN a s.1 s.2.1 s.2.2.1 s.2.2.2.1 s.2.2.2.2.1 s.2.2.2.2.2 from by kernel_rfl).trans ((congrArg (λc=>vC c aN a s.1 s.2.1 s.2.2.1 s.2.2.2.1 s.2.2.2.2.1 s.2.2.2.2.2) aK).trans ((congrArg (λd=>vC id d a s.1 s.2.1 s.2.2.1 s.2.2.2.1 s.2.2.2.2.1 s.2.2.2.2.2) aQ).trans (by kernel_rfl)))
def MH(a:bX):au:=⟨263,[fN,(.fn 284 [] []),aO],bM,[(true,0,cU)],λs=>uh a s.2.2.2.2.2.2 s.1 s.2.1 s.2.2.1 s.2.2.2.1 s.2.2.2.2.1 s.2.2.2.2.2.1⟩
def HA(o:Ex->Ex)(q:Sh->(R:Type)->Option R->Option R)(p:Q2->Option Q5)(ops:Q1)(l:Q6)(a:aF)(g:Cy->Option Q5):Int×Int×Int×Int×Int×Int×Int×(List Ex)->Option Q5:=λ⟨f,e,b,d,k,j,i,h⟩=> bif b==0 then (bU ops l f a e b d).bind λm=> bif !m.2 then some ((Ex.mk k j i h),f,e,b,d) else (bf l f a e b d).bind λn=> (oa p l (i64.wrap (f+1)) a e b d).bind λc=> g (c.2.1,c.2.2.1,c.2.2.2.1,c.2.2.2.2,m.1,0,n.2.2.2,([(Ex.mk k j i h),(o c.1)]:List Ex)) else some ((Ex.mk k j i h),f,e,b,d)
def rA(e:Ex->Ex)(h:Sh->(R:Type)->Option R->Option R)(g:Q2->Option Q5)(ops:Q1)(l:Q6)(at_:Int)(b:aF)(d:Int)(f:Int)(c:Int):Option Q5:= (oa g l at_ b d f c).bind λa=> ax (HA e h g ops l b) aA (a.2.1,a.2.2.1,a.2.2.2.1,a.2.2.2.2,a.1.op,a.1.n,a.1.at_,a.1.l)
theorem Ht(a:bX)(b:gu a):Ko (MH a):=
 ba (.l ⟨[(true,0,cU),(true,6,L0),(true,7,NO)],[]⟩ .o) call263 func263 (al (Nb a b) (al dw (al cz ao))) ao ao λs=>(show _=rA bq aN a s.2.2.2.2.2.2 s.1 s.2.1 s.2.2.1 s.2.2.2.1 s.2.2.2.2.1 s.2.2.2.2.2.1 from by kernel_rfl).trans ((congrArg (λc=>rA c aN a s.2.2.2.2.2.2 s.1 s.2.1 s.2.2.1 s.2.2.2.1 s.2.2.2.2.1 s.2.2.2.2.2.1) aK).trans ((congrArg (λd=>rA id d a s.2.2.2.2.2.2 s.1 s.2.1 s.2.2.1 s.2.2.2.1 s.2.2.2.2.1 s.2.2.2.2.2.1) aQ).trans (by kernel_rfl)))
def Yi(a:bX):au:=⟨283,[fN],bM,[(true,0,cU)],λs=>pH a s.1 s.2.1 s.2.2.1 s.2.2.2.1 s.2.2.2.2.1 s.2.2.2.2.2⟩
def xJ(e:Ex->Ex)(h:Sh->(R:Type)->Option R->Option R)(g:Q2->Option Q5)(l:Q6)(at_:Int)(c:aF)(d:Int)(f:Int)(b:Int):Option Q5:= (uh g ([3,4]:zB) l at_ c d f b).bind λa=> some ((e a.1),a.2.1,a.2.2.1,a.2.2.2.1,a.2.2.2.2)
theorem Ot(a:bX)(b:gu a):Ko (Yi a):=
 ba .o call283 func283 (al (Ht a b) ao) ao ao λs=>(show _=xJ bq aN a s.1 s.2.1 s.2.2.1 s.2.2.2.1 s.2.2.2.2.1 s.2.2.2.2.2 from by kernel_rfl).trans ((congrArg (λc=>xJ c aN a s.1 s.2.1 s.2.2.1 s.2.2.2.1 s.2.2.2.2.1 s.2.2.2.2.2) aK).trans ((congrArg (λd=>xJ id d a s.1 s.2.1 s.2.2.1 s.2.2.2.1 s.2.2.2.2.1 s.2.2.2.2.2) aQ).trans (by kernel_rfl)))
def Yg(a:bX):au:=⟨282,[fN],bM,[(true,0,cU)],λs=>Cb a s.1 s.2.1 s.2.2.1 s.2.2.2.1 s.2.2.2.2.1 s.2.2.2.2.2⟩
def w9(e:Ex->Ex)(o:Sh->(R:Type)->Option R->Option R)(n:Q2->Option Q5)(l:Q6)(at_:Int)(b:aF)(g:Int)(i:Int)(d:Int):Option Q5:= (pH n l at_ b g i d).bind λa=> (bU ([7,8,9,10,11,12]:zB) l a.2.1 b a.2.2.1 a.2.2.2.1 a.2.2.2.2).bind λf=> aj (a.2.2.2.1 != 0) λm=> aj (!f.2) λk=> aj (m||k) λj=> bif j then ( some ((e a.1),a.2.1,a.2.2.1,a.2.2.2.1,a.2.2.2.2)) else ( (bf l a.2.1 b a.2.2.1 a.2.2.2.1 a.2.2.2.2).bind λh=> (pH n l (i64.wrap (a.2.1+1)) b a.2.2.1 a.2.2.2.1 a.2.2.2.2).bind λc=> some ((Ex.mk f.1 0 h.2.2.2 ([(e a.1),(e c.1)]:List Ex)),c.2.1,c.2.2.1,c.2.2.2.1,c.2.2.2.2))
theorem Ny(a:bX)(b:gu a):Ko (Yg a):=
 ba .o call282 func282 (al (Ot a b) (al dw (al cz ao))) ao ao λs=>(show _=w9 bq aN a s.1 s.2.1 s.2.2.1 s.2.2.2.1 s.2.2.2.2.1 s.2.2.2.2.2 from by kernel_rfl).trans ((congrArg (λc=>w9 c aN a s.1 s.2.1 s.2.2.1 s.2.2.2.1 s.2.2.2.2.1 s.2.2.2.2.2) aK).trans ((congrArg (λd=>w9 id d a s.1 s.2.1 s.2.2.1 s.2.2.2.1 s.2.2.2.2.1 s.2.2.2.2.2) aQ).trans (by kernel_rfl)))
def Pu(a:bX)(b:Yo):au:=⟨281,[fN,Qc,(.fn 282 [] []),aO],bM,[(true,0,cU)],λs=>vG a b s.2.2.2.2.2.2 s.1 s.2.1 s.2.2.1 s.2.2.2.1 s.2.2.2.2.1 s.2.2.2.2.2.1⟩
def sS(h:Ex->Ex)(m:Sh->(R:Type)->Option R->Option R)(k:Q2->Option Q5)(j:Q2->Option Q5)(ops:Q1)(l:Q6)(at_:Int)(b:aF)(c:Int)(f:Int)(a:Int):Option Q5:= (bU ops l at_ b c f a).bind λg=> bif !g.2 then (Cb k l at_ b c f a).bind λe=> some ((h e.1),e.2.1,e.2.2.1,e.2.2.2.1,e.2.2.2.2) else (bf l at_ b c f a).bind λi=> (j (l,(i64.wrap (at_+1)),b,c,f,a)).bind λd=> some ((Ex.mk g.1 0 i.2.2.2 ([(h d.1)]:List Ex)),d.2.1,d.2.2.1,d.2.2.2.1,d.2.2.2.2)
theorem Jj(a:bX)(d:gu a)(b:Yo)(f:OK7 b):Ko (Pu a b):=
 ba (.c .o (.r [0,8] .o)) call281 func281 (al dw (al (Ny a d) (al cz (al f ao)))) ao ao λs=>(show _=sS bq aN a b s.2.2.2.2.2.2 s.1 s.2.1 s.2.2.1 s.2.2.2.1 s.2.2.2.2.1 s.2.2.2.2.2.1 from by kernel_rfl).trans ((congrArg (λe=>sS e aN a b s.2.2.2.2.2.2 s.1 s.2.1 s.2.2.1 s.2.2.2.1 s.2.2.2.2.1 s.2.2.2.2.2.1) aK).trans ((congrArg (λg=>sS id g a b s.2.2.2.2.2.2 s.1 s.2.1 s.2.2.1 s.2.2.2.1 s.2.2.2.2.1 s.2.2.2.2.2.1) aQ).trans (by kernel_rfl)))
def Wu(a:bX)(b:Yo):au:=⟨280,[fN],bM,[(true,0,cU)],λs=>BN a b s.1 s.2.1 s.2.2.1 s.2.2.2.1 s.2.2.2.2.1 s.2.2.2.2.2⟩
def xh(e:Ex->Ex)(i:Sh->(R:Type)->Option R->Option R)(h:Q2->Option Q5)(g:Q2->Option Q5)(l:Q6)(at_:Int)(c:aF)(d:Int)(f:Int)(b:Int):Option Q5:= (vG h g ([15,20,21,22]:zB) l at_ c d f b).bind λa=> some ((e a.1),a.2.1,a.2.2.1,a.2.2.2.1,a.2.2.2.2)
theorem Oh(a:bX)(c:gu a)(b:Yo)(e:OK7 b):Ko (Wu a b):=
 ba .o call280 func280 (al (Jj a c b e) ao) ao ao λs=>(show _=xh bq aN a b s.1 s.2.1 s.2.2.1 s.2.2.2.1 s.2.2.2.2.1 s.2.2.2.2.2 from by kernel_rfl).trans ((congrArg (λd=>xh d aN a b s.1 s.2.1 s.2.2.1 s.2.2.2.1 s.2.2.2.2.1 s.2.2.2.2.2) aK).trans ((congrArg (λf=>xh id f a b s.1 s.2.1 s.2.2.1 s.2.2.2.1 s.2.2.2.2.1 s.2.2.2.2.2) aQ).trans (by kernel_rfl)))
def xL(a:bX):au:=⟨114,[fN,Qc],bM,[(true,0,cU)],λs=>rW a s.1 s.2.1 s.2.2.1 s.2.2.2.1 s.2.2.2.2.1 s.2.2.2.2.2⟩
def nj(f:Ex->Ex)(j:Sh->(R:Type)->Option R->Option R)(i:Q2->Option Q5)(h:Q2->Option Q5)(l:Q6)(at_:Int)(d:aF)(a:Int)(g:Int)(c:Int):Option Q5:= bif decide (320<=a) then (cp 9 l at_ d a g c).bind λe=> some ((f e.1),at_,a,e.2.1,e.2.2) else (BN i h l at_ d (i64.wrap (a+1)) g c).bind λb=> some ((f b.1),b.2.1,(i64.wrap (b.2.2.1-1)),b.2.2.2.1,b.2.2.2.2)
def xQ(a:bX):Yo->Yo:=λb s=>xF a b s.1 s.2.1 s.2.2.1 s.2.2.2.1 s.2.2.2.2.1 s.2.2.2.2.2
theorem CI(a:bX)(c:gu a)(b:Yo)(e:OK7 b):(jV (xQ a b)).Ok X0.P X0.Γ:=
 ba .o call114 func114 (al gE (al (Oh a c b e) ao)) ao ao λs=>(show _=nj bq aN a b s.1 s.2.1 s.2.2.1 s.2.2.2.1 s.2.2.2.2.1 s.2.2.2.2.2 from by kernel_rfl).trans ((congrArg (λd=>nj d aN a b s.1 s.2.1 s.2.2.1 s.2.2.2.1 s.2.2.2.2.1 s.2.2.2.2.2) aK).trans ((congrArg (λf=>nj id f a b s.1 s.2.1 s.2.2.1 s.2.2.2.1 s.2.2.2.2.1 s.2.2.2.2.2) aQ).trans (by kernel_rfl)))
theorem F3(a:bX)(b:gu a):Ko (xL a):=(show xL a=jV (ax (xQ a) aA) by kernel_rfl)▸eZ (X:=X0) (E:=jV) ⟨call114,λ_ _ h=>nomatch h⟩ (CI a b) aA
def MK(a:bX):au:=⟨279,[fN],bM,[(true,0,cU)],λs=>uy a s.1 s.2.1 s.2.2.1 s.2.2.2.1 s.2.2.2.2.1 s.2.2.2.2.2⟩
def pZ(e:Ex->Ex)(h:Sh->(R:Type)->Option R->Option R)(g:Q2->Option Q5)(l:Q6)(at_:Int)(c:aF)(d:Int)(f:Int)(b:Int):Option Q5:= (rW g l at_ c d f b).bind λa=> some ((e a.1),a.2.1,a.2.2.1,a.2.2.2.1,a.2.2.2.2)
theorem H7(a:bX)(b:gu a):Ko (MK a):=
 ba .o call279 func279 (al (F3 a b) ao) ao ao λs=>(show _=pZ bq aN a s.1 s.2.1 s.2.2.1 s.2.2.2.1 s.2.2.2.2.1 s.2.2.2.2.2 from by kernel_rfl).trans ((congrArg (λc=>pZ c aN a s.1 s.2.1 s.2.2.1 s.2.2.2.1 s.2.2.2.2.1 s.2.2.2.2.2) aK).trans ((congrArg (λd=>pZ id d a s.1 s.2.1 s.2.2.1 s.2.2.2.1 s.2.2.2.2.1 s.2.2.2.2.2) aQ).trans (by kernel_rfl)))
def KT(a:bX)(b:XQ):au:=⟨169,[fN,(.fn 279 [] []),P6,aO],bM,[(true,0,cU)],λs=>sU a b s.2.2.2.2.2.2 s.1 s.2.1 s.2.2.1 s.2.2.2.1 s.2.2.2.2.1 s.2.2.2.2.2.1⟩
def pg(e:Ex->Ex)(p:Sh->(R:Type)->Option R->Option R)(o:Q2->Option Q5)(n:Q2->Option Q5)(ops:Q1)(l:Q6)(at_:Int)(b:aF)(g:Int)(i:Int)(d:Int):Option Q5:= (uy o l at_ b g i d).bind λa=> (bU ops l a.2.1 b a.2.2.1 a.2.2.2.1 a.2.2.2.2).bind λf=> aj (a.2.2.2.1 != 0) λm=> aj (!f.2) λk=> aj (m||k) λj=> bif j then ( some ((e a.1),a.2.1,a.2.2.1,a.2.2.2.1,a.2.2.2.2)) else ( (bf l a.2.1 b a.2.2.1 a.2.2.2.1 a.2.2.2.2).bind λh=> (n (l,(i64.wrap (a.2.1+1)),b,a.2.2.1,a.2.2.2.1,a.2.2.2.2)).bind λc=> some ((Ex.mk f.1 0 h.2.2.2 ([(e a.1),(e c.1)]:List Ex)),c.2.1,c.2.2.1,c.2.2.2.1,c.2.2.2.2))
theorem F9(a:bX)(c:gu a)(b:XQ)(e:OK8 b):Ko (KT a b):=
 ba .o call169 func169 (al (H7 a c) (al dw (al cz (al e ao)))) ao ao λs=>(show _=pg bq aN a b s.2.2.2.2.2.2 s.1 s.2.1 s.2.2.1 s.2.2.2.1 s.2.2.2.2.1 s.2.2.2.2.2.1 from by kernel_rfl).trans ((congrArg (λd=>pg d aN a b s.2.2.2.2.2.2 s.1 s.2.1 s.2.2.1 s.2.2.2.1 s.2.2.2.2.1 s.2.2.2.2.2.1) aK).trans ((congrArg (λf=>pg id f a b s.2.2.2.2.2.2 s.1 s.2.1 s.2.2.1 s.2.2.2.1 s.2.2.2.2.1 s.2.2.2.2.2.1) aQ).trans (by kernel_rfl)))
def RH(a:bX)(b:XQ):au:=⟨278,[fN],bM,[(true,0,cU)],λs=>yr a b s.1 s.2.1 s.2.2.1 s.2.2.2.1 s.2.2.2.2.1 s.2.2.2.2.2⟩
def uu(e:Ex->Ex)(i:Sh->(R:Type)->Option R->Option R)(h:Q2->Option Q5)(g:Q2->Option Q5)(l:Q6)(at_:Int)(c:aF)(d:Int)(f:Int)(b:Int):Option Q5:= (sU h g ([23,24]:zB) l at_ c d f b).bind λa=> some ((e a.1),a.2.1,a.2.2.1,a.2.2.2.1,a.2.2.2.2)
theorem KM(a:bX)(c:gu a)(b:XQ)(e:OK8 b):Ko (RH a b):=
 ba .o call278 func278 (al (F9 a c b e) ao) ao ao λs=>(show _=uu bq aN a b s.1 s.2.1 s.2.2.1 s.2.2.2.1 s.2.2.2.2.1 s.2.2.2.2.2 from by kernel_rfl).trans ((congrArg (λd=>uu d aN a b s.1 s.2.1 s.2.2.1 s.2.2.2.1 s.2.2.2.2.1 s.2.2.2.2.2) aK).trans ((congrArg (λf=>uu id f a b s.1 s.2.1 s.2.2.1 s.2.2.2.1 s.2.2.2.2.1 s.2.2.2.2.2) aQ).trans (by kernel_rfl)))
def x4(a:bX):au:=⟨114,[fN,P6],bM,[(true,0,cU)],λs=>sJ a s.1 s.2.1 s.2.2.1 s.2.2.2.1 s.2.2.2.2.1 s.2.2.2.2.2⟩
def mX(f:Ex->Ex)(j:Sh->(R:Type)->Option R->Option R)(i:Q2->Option Q5)(h:Q2->Option Q5)(l:Q6)(at_:Int)(d:aF)(a:Int)(g:Int)(c:Int):Option Q5:= bif decide (320<=a) then (cp 9 l at_ d a g c).bind λe=> some ((f e.1),at_,a,e.2.1,e.2.2) else (yr i h l at_ d (i64.wrap (a+1)) g c).bind λb=> some ((f b.1),b.2.1,(i64.wrap (b.2.2.1-1)),b.2.2.2.1,b.2.2.2.2)
def xB(a:bX):XQ->XQ:=λb s=>yk a b s.1 s.2.1 s.2.2.1 s.2.2.2.1 s.2.2.2.2.1 s.2.2.2.2.2
theorem Db(a:bX)(c:gu a)(b:XQ)(e:OK8 b):(jU (xB a b)).Ok X0.P X0.Γ:=
 ba .o call114 func114 (al gE (al (KM a c b e) ao)) ao ao λs=>(show _=mX bq aN a b s.1 s.2.1 s.2.2.1 s.2.2.2.1 s.2.2.2.2.1 s.2.2.2.2.2 from by kernel_rfl).trans ((congrArg (λd=>mX d aN a b s.1 s.2.1 s.2.2.1 s.2.2.2.1 s.2.2.2.2.1 s.2.2.2.2.2) aK).trans ((congrArg (λf=>mX id f a b s.1 s.2.1 s.2.2.1 s.2.2.2.1 s.2.2.2.2.1 s.2.2.2.2.2) aQ).trans (by kernel_rfl)))
theorem FP(a:bX)(b:gu a):Ko (x4 a):=(show x4 a=jU (ax (xB a) aA) by kernel_rfl)▸eZ (X:=X0) (E:=jU) ⟨call114,λ_ _ h=>nomatch h⟩ (Db a b) aA
def I9(a:bX):au:=⟨273,[fN],bM,[(true,0,cU)],λs=>iV a s.1 s.2.1 s.2.2.1 s.2.2.2.1 s.2.2.2.2.1 s.2.2.2.2.2⟩
def ot(e:Ex->Ex)(h:Sh->(R:Type)->Option R->Option R)(g:Q2->Option Q5)(l:Q6)(at_:Int)(c:aF)(d:Int)(f:Int)(b:Int):Option Q5:= (sJ g l at_ c d f b).bind λa=> some ((e a.1),a.2.1,a.2.2.1,a.2.2.2.1,a.2.2.2.2)
theorem DJ(a:bX)(b:gu a):Ko (I9 a):=
 ba .o call273 func273 (al (FP a b) ao) ao ao λs=>(show _=ot bq aN a s.1 s.2.1 s.2.2.1 s.2.2.2.1 s.2.2.2.2.1 s.2.2.2.2.2 from by kernel_rfl).trans ((congrArg (λc=>ot c aN a s.1 s.2.1 s.2.2.1 s.2.2.2.1 s.2.2.2.2.1 s.2.2.2.2.2) aK).trans ((congrArg (λd=>ot id d a s.1 s.2.1 s.2.2.1 s.2.2.2.1 s.2.2.2.2.1 s.2.2.2.2.2) aQ).trans (by kernel_rfl)))
def Ng(a:bX):au:=⟨263,[fN,(.fn 273 [] []),aO],bM,[(true,0,cU)],λs=>uw a s.2.2.2.2.2.2 s.1 s.2.1 s.2.2.1 s.2.2.2.1 s.2.2.2.2.1 s.2.2.2.2.2.1⟩
def Ii(o:Ex->Ex)(q:Sh->(R:Type)->Option R->Option R)(p:Q2->Option Q5)(ops:Q1)(l:Q6)(a:aF)(g:Cy->Option Q5):Int×Int×Int×Int×Int×Int×Int×(List Ex)->Option Q5:=λ⟨f,e,b,d,k,j,i,h⟩=> bif b==0 then (bU ops l f a e b d).bind λm=> bif !m.2 then some ((Ex.mk k j i h),f,e,b,d) else (bf l f a e b d).bind λn=> (iV p l (i64.wrap (f+1)) a e b d).bind λc=> g (c.2.1,c.2.2.1,c.2.2.2.1,c.2.2.2.2,m.1,0,n.2.2.2,([(Ex.mk k j i h),(o c.1)]:List Ex)) else some ((Ex.mk k j i h),f,e,b,d)
def rq(e:Ex->Ex)(h:Sh->(R:Type)->Option R->Option R)(g:Q2->Option Q5)(ops:Q1)(l:Q6)(at_:Int)(b:aF)(d:Int)(f:Int)(c:Int):Option Q5:= (iV g l at_ b d f c).bind λa=> ax (Ii e h g ops l b) aA (a.2.1,a.2.2.1,a.2.2.2.1,a.2.2.2.2,a.1.op,a.1.n,a.1.at_,a.1.l)
theorem HU(a:bX)(b:gu a):Ko (Ng a):=
 ba (.l ⟨[(true,0,cU),(true,6,L0),(true,7,NO)],[]⟩ .o) call263 func263 (al (DJ a b) (al dw (al cz ao))) ao ao λs=>(show _=rq bq aN a s.2.2.2.2.2.2 s.1 s.2.1 s.2.2.1 s.2.2.2.1 s.2.2.2.2.1 s.2.2.2.2.2.1 from by kernel_rfl).trans ((congrArg (λc=>rq c aN a s.2.2.2.2.2.2 s.1 s.2.1 s.2.2.1 s.2.2.2.1 s.2.2.2.2.1 s.2.2.2.2.2.1) aK).trans ((congrArg (λd=>rq id d a s.2.2.2.2.2.2 s.1 s.2.1 s.2.2.1 s.2.2.2.1 s.2.2.2.2.1 s.2.2.2.2.2.1) aQ).trans (by kernel_rfl)))
def Wp(a:bX):au:=⟨264,[fN],bM,[(true,0,cU)],λs=>pJ a s.1 s.2.1 s.2.2.1 s.2.2.2.1 s.2.2.2.2.1 s.2.2.2.2.2⟩
def w8(e:Ex->Ex)(h:Sh->(R:Type)->Option R->Option R)(g:Q2->Option Q5)(l:Q6)(at_:Int)(c:aF)(d:Int)(f:Int)(b:Int):Option Q5:= (uw g ([16]:zB) l at_ c d f b).bind λa=> some ((e a.1),a.2.1,a.2.2.1,a.2.2.2.1,a.2.2.2.2)
theorem N8(a:bX)(b:gu a):Ko (Wp a):=
 ba .o call264 func264 (al (HU a b) ao) ao ao λs=>(show _=w8 bq aN a s.1 s.2.1 s.2.2.1 s.2.2.2.1 s.2.2.2.2.1 s.2.2.2.2.2 from by kernel_rfl).trans ((congrArg (λc=>w8 c aN a s.1 s.2.1 s.2.2.1 s.2.2.2.1 s.2.2.2.2.1 s.2.2.2.2.2) aK).trans ((congrArg (λd=>w8 id d a s.1 s.2.1 s.2.2.1 s.2.2.2.1 s.2.2.2.2.1 s.2.2.2.2.2) aQ).trans (by kernel_rfl)))
def Ui(a:bX):au:=⟨263,[fN,(.fn 264 [] []),aO],bM,[(true,0,cU)],λs=>Aq a s.2.2.2.2.2.2 s.1 s.2.1 s.2.2.1 s.2.2.2.1 s.2.2.2.2.1 s.2.2.2.2.2.1⟩
def MT(o:Ex->Ex)(q:Sh->(R:Type)->Option R->Option R)(p:Q2->Option Q5)(ops:Q1)(l:Q6)(a:aF)(g:Cy->Option Q5):Int×Int×Int×Int×Int×Int×Int×(List Ex)->Option Q5:=λ⟨f,e,b,d,k,j,i,h⟩=> bif b==0 then (bU ops l f a e b d).bind λm=> bif !m.2 then some ((Ex.mk k j i h),f,e,b,d) else (bf l f a e b d).bind λn=> (pJ p l (i64.wrap (f+1)) a e b d).bind λc=> g (c.2.1,c.2.2.1,c.2.2.2.1,c.2.2.2.2,m.1,0,n.2.2.2,([(Ex.mk k j i h),(o c.1)]:List Ex)) else some ((Ex.mk k j i h),f,e,b,d)
def vS(e:Ex->Ex)(h:Sh->(R:Type)->Option R->Option R)(g:Q2->Option Q5)(ops:Q1)(l:Q6)(at_:Int)(b:aF)(d:Int)(f:Int)(c:Int):Option Q5:= (pJ g l at_ b d f c).bind λa=> ax (MT e h g ops l b) aA (a.2.1,a.2.2.1,a.2.2.2.1,a.2.2.2.2,a.1.op,a.1.n,a.1.at_,a.1.l)
theorem ME(a:bX)(b:gu a):Ko (Ui a):=
 ba (.l ⟨[(true,0,cU),(true,6,L0),(true,7,NO)],[]⟩ .o) call263 func263 (al (N8 a b) (al dw (al cz ao))) ao ao λs=>(show _=vS bq aN a s.2.2.2.2.2.2 s.1 s.2.1 s.2.2.1 s.2.2.2.1 s.2.2.2.2.1 s.2.2.2.2.2.1 from by kernel_rfl).trans ((congrArg (λc=>vS c aN a s.2.2.2.2.2.2 s.1 s.2.1 s.2.2.1 s.2.2.2.1 s.2.2.2.2.1 s.2.2.2.2.2.1) aK).trans ((congrArg (λd=>vS id d a s.2.2.2.2.2.2 s.1 s.2.1 s.2.2.1 s.2.2.2.1 s.2.2.2.2.1 s.2.2.2.2.2.1) aQ).trans (by kernel_rfl)))
def ZP(a:bX):au:=⟨247,[fN],bM,[(true,0,cU)],λs=>DX a s.1 s.2.1 s.2.2.1 s.2.2.2.1 s.2.2.2.2.1 s.2.2.2.2.2⟩
def Ag(e:Ex->Ex)(h:Sh->(R:Type)->Option R->Option R)(g:Q2->Option Q5)(l:Q6)(at_:Int)(c:aF)(d:Int)(f:Int)(b:Int):Option Q5:= (Aq g ([17]:zB) l at_ c d f b).bind λa=> some ((e a.1),a.2.1,a.2.2.1,a.2.2.2.1,a.2.2.2.2)
theorem Rg(a:bX)(b:gu a):Ko (ZP a):=
 ba .o call247 func247 (al (ME a b) ao) ao ao λs=>(show _=Ag bq aN a s.1 s.2.1 s.2.2.1 s.2.2.2.1 s.2.2.2.2.1 s.2.2.2.2.2 from by kernel_rfl).trans ((congrArg (λc=>Ag c aN a s.1 s.2.1 s.2.2.1 s.2.2.2.1 s.2.2.2.2.1 s.2.2.2.2.2) aK).trans ((congrArg (λd=>Ag id d a s.1 s.2.1 s.2.2.1 s.2.2.2.1 s.2.2.2.2.1 s.2.2.2.2.2) aQ).trans (by kernel_rfl)))
def LJ(a:bX)(b:Yw):au:=⟨169,[fN,(.fn 247 [] []),Qz,aO],bM,[(true,0,cU)],λs=>ta a b s.2.2.2.2.2.2 s.1 s.2.1 s.2.2.1 s.2.2.2.1 s.2.2.2.2.1 s.2.2.2.2.2.1⟩
def oF(e:Ex->Ex)(p:Sh->(R:Type)->Option R->Option R)(o:Q2->Option Q5)(n:Q2->Option Q5)(ops:Q1)(l:Q6)(at_:Int)(b:aF)(g:Int)(i:Int)(d:Int):Option Q5:= (DX o l at_ b g i d).bind λa=> (bU ops l a.2.1 b a.2.2.1 a.2.2.2.1 a.2.2.2.2).bind λf=> aj (a.2.2.2.1 != 0) λm=> aj (!f.2) λk=> aj (m||k) λj=> bif j then ( some ((e a.1),a.2.1,a.2.2.1,a.2.2.2.1,a.2.2.2.2)) else ( (bf l a.2.1 b a.2.2.1 a.2.2.2.1 a.2.2.2.2).bind λh=> (n (l,(i64.wrap (a.2.1+1)),b,a.2.2.1,a.2.2.2.1,a.2.2.2.2)).bind λc=> some ((Ex.mk f.1 0 h.2.2.2 ([(e a.1),(e c.1)]:List Ex)),c.2.1,c.2.2.1,c.2.2.2.1,c.2.2.2.2))
theorem Fw(a:bX)(c:gu a)(b:Yw)(e:OK9 b):Ko (LJ a b):=
 ba .o call169 func169 (al (Rg a c) (al dw (al cz (al e ao)))) ao ao λs=>(show _=oF bq aN a b s.2.2.2.2.2.2 s.1 s.2.1 s.2.2.1 s.2.2.2.1 s.2.2.2.2.1 s.2.2.2.2.2.1 from by kernel_rfl).trans ((congrArg (λd=>oF d aN a b s.2.2.2.2.2.2 s.1 s.2.1 s.2.2.1 s.2.2.2.1 s.2.2.2.2.1 s.2.2.2.2.2.1) aK).trans ((congrArg (λf=>oF id f a b s.2.2.2.2.2.2 s.1 s.2.1 s.2.2.1 s.2.2.2.1 s.2.2.2.2.1 s.2.2.2.2.2.1) aQ).trans (by kernel_rfl)))
def Ws(a:bX)(b:Yw):au:=⟨219,[fN],bM,[(true,0,cU)],λs=>BX a b s.1 s.2.1 s.2.2.1 s.2.2.2.1 s.2.2.2.2.1 s.2.2.2.2.2⟩
def xg(e:Ex->Ex)(i:Sh->(R:Type)->Option R->Option R)(h:Q2->Option Q5)(g:Q2->Option Q5)(l:Q6)(at_:Int)(c:aF)(d:Int)(f:Int)(b:Int):Option Q5:= (ta h g ([18]:zB) l at_ c d f b).bind λa=> some ((e a.1),a.2.1,a.2.2.1,a.2.2.2.1,a.2.2.2.2)
theorem Nx(a:bX)(c:gu a)(b:Yw)(e:OK9 b):Ko (Ws a b):=
 ba .o call219 func219 (al (Fw a c b e) ao) ao ao λs=>(show _=xg bq aN a b s.1 s.2.1 s.2.2.1 s.2.2.2.1 s.2.2.2.2.1 s.2.2.2.2.2 from by kernel_rfl).trans ((congrArg (λd=>xg d aN a b s.1 s.2.1 s.2.2.1 s.2.2.2.1 s.2.2.2.2.1 s.2.2.2.2.2) aK).trans ((congrArg (λf=>xg id f a b s.1 s.2.1 s.2.2.1 s.2.2.2.1 s.2.2.2.2.1 s.2.2.2.2.2) aQ).trans (by kernel_rfl)))
def xd(a:bX):au:=⟨114,[fN,Qz],bM,[(true,0,cU)],λs=>sF a s.1 s.2.1 s.2.2.1 s.2.2.2.1 s.2.2.2.2.1 s.2.2.2.2.2⟩
def nB(f:Ex->Ex)(j:Sh->(R:Type)->Option R->Option R)(i:Q2->Option Q5)(h:Q2->Option Q5)(l:Q6)(at_:Int)(d:aF)(a:Int)(g:Int)(c:Int):Option Q5:= bif decide (320<=a) then (cp 9 l at_ d a g c).bind λe=> some ((f e.1),at_,a,e.2.1,e.2.2) else (BX i h l at_ d (i64.wrap (a+1)) g c).bind λb=> some ((f b.1),b.2.1,(i64.wrap (b.2.2.1-1)),b.2.2.2.1,b.2.2.2.2)
def w7(a:bX):Yw->Yw:=λb s=>xv a b s.1 s.2.1 s.2.2.1 s.2.2.2.1 s.2.2.2.2.1 s.2.2.2.2.2
theorem CU(a:bX)(c:gu a)(b:Yw)(e:OK9 b):(jZ (w7 a b)).Ok X0.P X0.Γ:=
 ba .o call114 func114 (al gE (al (Nx a c b e) ao)) ao ao λs=>(show _=nB bq aN a b s.1 s.2.1 s.2.2.1 s.2.2.2.1 s.2.2.2.2.1 s.2.2.2.2.2 from by kernel_rfl).trans ((congrArg (λd=>nB d aN a b s.1 s.2.1 s.2.2.1 s.2.2.2.1 s.2.2.2.2.1 s.2.2.2.2.2) aK).trans ((congrArg (λf=>nB id f a b s.1 s.2.1 s.2.2.1 s.2.2.2.1 s.2.2.2.2.1 s.2.2.2.2.2) aQ).trans (by kernel_rfl)))
theorem Fm(a:bX)(b:gu a):Ko (xd a):=(show xd a=jZ (ax (w7 a) aA) by kernel_rfl)▸eZ (X:=X0) (E:=jZ) ⟨call114,λ_ _ h=>nomatch h⟩ (CU a b) aA
def M3(a:bX):au:=⟨170,[fN],bM,[(true,0,cU)],λs=>uz a s.1 s.2.1 s.2.2.1 s.2.2.2.1 s.2.2.2.2.1 s.2.2.2.2.2⟩
def rF(e:Ex->Ex)(h:Sh->(R:Type)->Option R->Option R)(g:Q2->Option Q5)(l:Q6)(at_:Int)(c:aF)(d:Int)(f:Int)(b:Int):Option Q5:= (sF g l at_ c d f b).bind λa=> some ((e a.1),a.2.1,a.2.2.1,a.2.2.2.1,a.2.2.2.2)
theorem HF(a:bX)(b:gu a):Ko (M3 a):=
 ba .o call170 func170 (al (Fm a b) ao) ao ao λs=>(show _=rF bq aN a s.1 s.2.1 s.2.2.1 s.2.2.2.1 s.2.2.2.2.1 s.2.2.2.2.2 from by kernel_rfl).trans ((congrArg (λc=>rF c aN a s.1 s.2.1 s.2.2.1 s.2.2.2.1 s.2.2.2.2.1 s.2.2.2.2.2) aK).trans ((congrArg (λd=>rF id d a s.1 s.2.1 s.2.2.1 s.2.2.2.1 s.2.2.2.2.1 s.2.2.2.2.2) aQ).trans (by kernel_rfl)))
def Rz(a:bX):au:=⟨169,[fN,(.fn 170 [] []),P5,aO],bM,[(true,0,cU)],λs=>wU a s.2.2.2.2.2.2 s.1 s.2.1 s.2.2.1 s.2.2.2.1 s.2.2.2.2.1 s.2.2.2.2.2.1⟩
def uq(e:Ex->Ex)(o:Sh->(R:Type)->Option R->Option R)(n:Q2->Option Q5)(ops:Q1)(l:Q6)(at_:Int)(b:aF)(g:Int)(i:Int)(d:Int):Option Q5:= (uz n l at_ b g i d).bind λa=> (bU ops l a.2.1 b a.2.2.1 a.2.2.2.1 a.2.2.2.2).bind λf=> aj (a.2.2.2.1 != 0) λm=> aj (!f.2) λk=> aj (m||k) λj=> bif j then ( some ((e a.1),a.2.1,a.2.2.1,a.2.2.2.1,a.2.2.2.2)) else ( (bf l a.2.1 b a.2.2.1 a.2.2.2.1 a.2.2.2.2).bind λh=> (n (l,(i64.wrap (a.2.1+1)),b,a.2.2.1,a.2.2.2.1,a.2.2.2.2)).bind λc=> some ((Ex.mk f.1 0 h.2.2.2 ([(e a.1),(e c.1)]:List Ex)),c.2.1,c.2.2.1,c.2.2.2.1,c.2.2.2.2))
theorem LI(a:bX)(b:gu a):Ko (Rz a):=
 ba .o call169 func169 (al (HF a b) (al dw (al cz (al b ao)))) ao ao λs=>(show _=uq bq aN a s.2.2.2.2.2.2 s.1 s.2.1 s.2.2.1 s.2.2.2.1 s.2.2.2.2.1 s.2.2.2.2.2.1 from by kernel_rfl).trans ((congrArg (λc=>uq c aN a s.2.2.2.2.2.2 s.1 s.2.1 s.2.2.1 s.2.2.2.1 s.2.2.2.2.1 s.2.2.2.2.2.1) aK).trans ((congrArg (λd=>uq id d a s.2.2.2.2.2.2 s.1 s.2.1 s.2.2.1 s.2.2.2.1 s.2.2.2.2.1 s.2.2.2.2.2.1) aQ).trans (by kernel_rfl)))
def XV(a:bX):au:=⟨115,[fN],bM,[(true,0,cU)],λs=>Cf a s.1 s.2.1 s.2.2.1 s.2.2.2.1 s.2.2.2.2.1 s.2.2.2.2.2⟩
def yj(e:Ex->Ex)(h:Sh->(R:Type)->Option R->Option R)(g:Q2->Option Q5)(l:Q6)(at_:Int)(c:aF)(d:Int)(f:Int)(b:Int):Option Q5:= (wU g ([19]:zB) l at_ c d f b).bind λa=> some ((e a.1),a.2.1,a.2.2.1,a.2.2.2.1,a.2.2.2.2)
theorem Pa(a:bX)(b:gu a):Ko (XV a):=
 ba .o call115 func115 (al (LI a b) ao) ao ao λs=>(show _=yj bq aN a s.1 s.2.1 s.2.2.1 s.2.2.2.1 s.2.2.2.2.1 s.2.2.2.2.2 from by kernel_rfl).trans ((congrArg (λc=>yj c aN a s.1 s.2.1 s.2.2.1 s.2.2.2.1 s.2.2.2.2.1 s.2.2.2.2.2) aK).trans ((congrArg (λd=>yj id d a s.1 s.2.1 s.2.2.1 s.2.2.2.1 s.2.2.2.2.1 s.2.2.2.2.2) aQ).trans (by kernel_rfl)))
def CE:au:=⟨114,[fN,P5],bM,[(true,0,cU)],U6 xj⟩
def ri(f:Ex->Ex)(i:Sh->(R:Type)->Option R->Option R)(h:Q2->Option Q5)(l:Q6)(at_:Int)(d:aF)(a:Int)(g:Int)(c:Int):Option Q5:= bif decide (320<=a) then (cp 9 l at_ d a g c).bind λe=> some ((f e.1),at_,a,e.2.1,e.2.2) else (Cf h l at_ d (i64.wrap (a+1)) g c).bind λb=> some ((f b.1),b.2.1,(i64.wrap (b.2.2.1-1)),b.2.2.2.1,b.2.2.2.2)
def CB:bX->bX:=λa s=>Cv a s.1 s.2.1 s.2.2.1 s.2.2.2.1 s.2.2.2.2.1 s.2.2.2.2.2
theorem HV(a:bX)(b:gu a):(mF (CB a)).Ok X0.P X0.Γ:=
 ba .o call114 func114 (al gE (al (Pa a b) ao)) ao ao λs=>(show _=ri bq aN a s.1 s.2.1 s.2.2.1 s.2.2.2.1 s.2.2.2.2.1 s.2.2.2.2.2 from by kernel_rfl).trans ((congrArg (λc=>ri c aN a s.1 s.2.1 s.2.2.1 s.2.2.2.1 s.2.2.2.2.1 s.2.2.2.2.2) aK).trans ((congrArg (λd=>ri id d a s.1 s.2.1 s.2.2.1 s.2.2.2.1 s.2.2.2.2.1 s.2.2.2.2.2) aQ).trans (by kernel_rfl)))
theorem Kq:Ko CE:=(show CE=mF (ax (CB) aA) by kernel_rfl)▸eZ (X:=X0) (E:=mF) ⟨call114,λ_ _ h=>nomatch h⟩ (HV) aA
def aeU:au:=⟨62,[(.sli nq),aq,(.sli .s)],(.cB [bM,aq,aq,aq]),[],U3 Kw⟩
def EF(c:Ex->Ex)(d:Sh->(R:Type)->Option R->Option R)(l:Q6)(at_:Int)(b:aF):Option SF:= (xj l at_ b 0 0 0).bind λa=> bif a.2.2.2.1 != 0 then some ((Ex.mk 0 0 0 []),0,a.2.2.2.1,a.2.2.2.2) else some ((c a.1),a.2.1,0,0)
theorem W8:Ko aeU:=
 ba (.c (.r [6] .o) (.r [6] .o)) call62 func62 (al Kq ao) ao ao λs=>(show _=EF bq aN s.1 s.2.1 s.2.2 from by kernel_rfl).trans ((congrArg (λa=>EF a aN s.1 s.2.1 s.2.2) aK).trans ((congrArg (λb=>EF id b s.1 s.2.1 s.2.2) aQ).trans (by kernel_rfl)))
def an7:au:=⟨158,[gW],.bool,[],λs=>tI s⟩
def Ox(a:Ex->Ex)(f:Sh->(R:Type)->Option R->Option R)(e:Ex):zo:= (mw (a e)).bind λd=> aj (d.2.1==0) λb8=> aj (d.1==2) λc=> aj (b8&&c) λb=> some b
theorem DF:Ko an7:=
 ba .o call158 func158 (al tP ao) ao ao λs=>(show _=Ox bq aN s from by kernel_rfl).trans ((congrArg (λa=>Ox a aN s) aK).trans ((congrArg (λb=>Ox id b s) aQ).trans (by kernel_rfl)))
def acp(a:Lh):au:=⟨220,[aq,.bool,Y4,(.bx 319 0 true [EC])],gW,[(true,3,adC),(true,1003,EC)],λs=>bG a s.1 s.2.1 s.2.2.1 s.2.2.2.1 s.2.2.2.2.1 s.2.2.2.2.2.1 s.2.2.2.2.2.2⟩
def BT(b:Ex->Ex)(e:Sh->(R:Type)->Option R->Option R)(d:SY->Option kA)(i:Int)(not:Bool)(f:Int)(h:Int)(g:Int)(L:(List Ex))(x:Int):Option kA:= (idx L i).bind λc=> (d ((b c),not,x)).bind λa=> some ((b a.1),a.2)
theorem E9(a:Lh)(b:aoZ a):Ko (acp a):=
 ba (.r [3,6] .o) call220 func220 (al b ao) ao ao λs=>(show _=BT bq aN a s.1 s.2.1 s.2.2.1 s.2.2.2.1 s.2.2.2.2.1 s.2.2.2.2.2.1 s.2.2.2.2.2.2 from by kernel_rfl).trans ((congrArg (λc=>BT c aN a s.1 s.2.1 s.2.2.1 s.2.2.2.1 s.2.2.2.2.1 s.2.2.2.2.2.1 s.2.2.2.2.2.2) aK).trans ((congrArg (λd=>BT id d a s.1 s.2.1 s.2.2.1 s.2.2.2.1 s.2.2.2.2.1 s.2.2.2.2.2.1 s.2.2.2.2.2.2) aQ).trans (by kernel_rfl)))
def ac4:au:=⟨221,[aq,aq,gW,gW,QD,Y4],bM,[],U9 fa⟩
def Vv(d:Ex->Ex)(e:Sh->(R:Type)->Option R->Option R)(a:Ex)(b:Ex)(At:Int)(c:Int):Option Ex:= some (Ex.mk c 0 At ([(d a),(d b)]:List Ex))
def BW(f:Ex->Ex)(g:Sh->(R:Type)->Option R->Option R)(op:Int)(d:Int)(a:Ex)(b:Ex)(x:Bool)(h:Int)(i:Int)(At:Int)(j:(List Ex)):Option Ex:= aj (λ(e:Int)=>Vv f g a b At e) λc=> bif x then ( c d) else ( c op)
theorem Vx:Ko ac4:=
 ba (.s (.j ⟨[(false,0,aq)],[]⟩ .o .o)) call221 func221 ao ao ao λs=>(show _=BW bq aN s.1 s.2.1 s.2.2.1 s.2.2.2.1 s.2.2.2.2.1 s.2.2.2.2.2.1 s.2.2.2.2.2.2.1 s.2.2.2.2.2.2.2.1 s.2.2.2.2.2.2.2.2 from by kernel_rfl).trans ((congrArg (λa=>BW a aN s.1 s.2.1 s.2.2.1 s.2.2.2.1 s.2.2.2.2.1 s.2.2.2.2.2.1 s.2.2.2.2.2.2.1 s.2.2.2.2.2.2.2.1 s.2.2.2.2.2.2.2.2) aK).trans ((congrArg (λb=>BW id b s.1 s.2.1 s.2.2.1 s.2.2.2.1 s.2.2.2.2.1 s.2.2.2.2.2.1 s.2.2.2.2.2.2.1 s.2.2.2.2.2.2.2.1 s.2.2.2.2.2.2.2.2) aQ).trans (by kernel_rfl)))
def acJ(a:Lh):au:=⟨223,[.bool,.bool,Y4,(.bx 349 0 true [(.fn 220 [] [(.ptr 0 0),(.bx 319 0 true [EC])])])],bM,[(true,3,(.bx 349 0 true [.same])),(true,1003,adC),(true,1004,EC)],λs=>uR a s.1 s.2.1 s.2.2.1 s.2.2.2.1 s.2.2.2.2.1 s.2.2.2.2.2.1 s.2.2.2.2.2.2⟩
def Ch(d:Ex->Ex)(f:Sh->(R:Type)->Option R->Option R)(e:SY->Option kA)(x:Bool)(y:Bool)(Op:Int)(N:Int)(At:Int)(L:(List Ex))(c:Int):Option kA:= (bG e 0 x Op N At L c).bind λb=> (bG e 1 y Op N At L b.2).bind λa=> some ((Ex.mk 16 0 At ([(d b.1),(d a.1)]:List Ex)),a.2)
theorem Uk(a:Lh)(b:aoZ a):Ko (acJ a):=
 ba (.r [3,6] .o) call223 func223 (al (E9 a b) ao) ao ao λs=>(show _=Ch bq aN a s.1 s.2.1 s.2.2.1 s.2.2.2.1 s.2.2.2.2.1 s.2.2.2.2.2.1 s.2.2.2.2.2.2 from by kernel_rfl).trans ((congrArg (λc=>Ch c aN a s.1 s.2.1 s.2.2.1 s.2.2.2.1 s.2.2.2.2.1 s.2.2.2.2.2.1 s.2.2.2.2.2.2) aK).trans ((congrArg (λd=>Ch id d a s.1 s.2.1 s.2.2.1 s.2.2.2.1 s.2.2.2.2.1 s.2.2.2.2.2.1 s.2.2.2.2.2.2) aQ).trans (by kernel_rfl)))
def ab4:au:=⟨222,[aq,aq,(.bx 319 0 true [EC]),QD,Y4],bM,[(true,2,adC),(true,1001,EC)],λs=>uL s.1 s.2.1 s.2.2.2.1 s.2.2.2.2.1 s.2.2.2.2.2.1 s.2.2.2.2.2.2.1 s.2.2.2.2.2.2.2 s.2.2.1⟩
theorem Uu:Ko ab4:=
 ay .o call222 func222 ao
def Wc:au:=⟨171,[gW,.bool,EC],gW,[(true,2,EC)],U3 VY⟩
def acg(b:Ex->Ex)(i:Sh->(R:Type)->Option R->Option R)(h:SY->Option kA)(e:Ex)(not:Bool)(c:Int)(a:Bool):Option kA:= (bG h 0 a e.op e.n e.at_ e.l (i64.wrap (c-1))).bind λf=> (bG h 1 not e.op e.n e.at_ e.l f.2).bind λd=> (fa 17 16 (b f.1) (b d.1) not e.op e.n e.at_ e.l).bind λg=> some ((b g),d.2)
def Eh(a:Ex->Ex)(C:Sh->(R:Type)->Option R->Option R)(c:SY->Option kA)(e:Ex)(not:Bool)(b:Int):Option kA:= bif decide ((i64.wrap (b-1))<0) then some ((Ex.mk 0 0 0 []),(i64.wrap (b-1))) else (tI (a e)).bind λB=> bif B then ( bif not then ( some ((Ex.mk 15 0 e.at_ ([(a e)]:List Ex)),(i64.wrap (b-1)))) else ( some ((a e),(i64.wrap (b-1))))) else ( aj (λ(z:Bool)=>acg a C c e not b z) λo=> bif e.op==15 then (bG c 0 (!not) e.op e.n e.at_ e.l (i64.wrap ((i64.wrap (b-1))+1))).bind λu=> some ((a u.1),u.2) else bif e.op==18 then o (!not) else bif e.op==17 then o not else bif e.op==16 then (bG c 0 not e.op e.n e.at_ e.l (i64.wrap (b-1))).bind λt=> (bG c 1 not e.op e.n e.at_ e.l t.2).bind λs=> (fa 16 17 (a t.1) (a s.1) not e.op e.n e.at_ e.l).bind λA=> some ((a A),s.2) else bif e.op==19 then (uR c false not e.op e.n e.at_ e.l (i64.wrap ((i64.wrap (b-1))-2))).bind λr=> (uR c true (!not) e.op e.n e.at_ e.l r.2).bind λq=> some ((Ex.mk 17 0 e.at_ ([(a r.1),(a q.1)]:List Ex)),q.2) else bif e.op==20 then (bG c 0 not e.op e.n e.at_ e.l (i64.wrap (b-1))).bind λp=> some ((Ex.mk 20 0 e.at_ ([(a p.1)]:List Ex)),p.2) else bif e.op==21 then (uL 13 14 not e.op e.n e.at_ e.l (i64.wrap (b-1))).bind λm=> (bG c 0 not e.op e.n e.at_ e.l m.2).bind λk=> (fa 23 24 (a m.1) (a k.1) not e.op e.n e.at_ e.l).bind λy=> some ((a y),k.2) else bif e.op==22 then (uL 14 13 not e.op e.n e.at_ e.l (i64.wrap (b-1))).bind λj=> (bG c 0 not e.op e.n e.at_ e.l j.2).bind λi=> (fa 24 23 (a j.1) (a i.1) not e.op e.n e.at_ e.l).bind λx=> some ((a x),i.2) else bif e.op==23 then (bG c 0 not e.op e.n e.at_ e.l (i64.wrap (b-1))).bind λh=> (bG c 1 not e.op e.n e.at_ e.l h.2).bind λg=> (fa 23 24 (a h.1) (a g.1) not e.op e.n e.at_ e.l).bind λw=> some ((a w),g.2) else (bG c 0 not e.op e.n e.at_ e.l (i64.wrap (b-1))).bind λf=> (bG c 1 not e.op e.n e.at_ e.l f.2).bind λd=> (fa 24 23 (a f.1) (a d.1) not e.op e.n e.at_ e.l).bind λv=> some ((a v),d.2))
def YZ:Lh->Lh:=λa s=>WB a s.1 s.2.1 s.2.2
theorem Xe(a:Lh)(b:aoZ a):(AJ (YZ a)).Ok X0.P X0.Γ:=
 ba (.c .o (.c .o (.s (.s (.s (.s (.s (.s (.s (.s (.s (.s (.s (.s (.j ⟨[(true,6,L0),(true,7,(.bx 349 0 true [.same])),(true,5,adC),(true,2,(.bx 3 0 true [.same])),(false,10,.bool)],[]⟩ (.c .o (.c .o (.c .o (.c (.r [9,6] .o) (.c (.r [11,6] .o) (.c (.r [7,6] .o) (.c (.r [9,6] .o) (.c (.r [9,6] .o) (.c (.r [7,4,6] .o) (.r [7,4,6] .o)))))))))) (.r [7,4,6] .o)))))))))))))))) call171 func171 (al DF (al (E9 a b) (al Vx (al (Uk a b) (al Uu ao))))) ao ao λs=>(show _=Eh bq aN a s.1 s.2.1 s.2.2 from by kernel_rfl).trans ((congrArg (λd=>Eh d aN a s.1 s.2.1 s.2.2) aK).trans ((congrArg (λe=>Eh id e a s.1 s.2.1 s.2.2) aQ).trans (by kernel_rfl)))
theorem acU:Ko Wc:=(show Wc=AJ (ax (YZ) aA) by kernel_rfl)▸eZ (X:=X0) (E:=AJ) ⟨call171,λ_ _ h=>nomatch h⟩ (Xe) aA
def ak7:au:=⟨116,[gW,.bool],(.cB [gW,aq]),[],U2 Va⟩
def LF(b:Ex->Ex)(c:Sh->(R:Type)->Option R->Option R)(e:Ex)(not:Bool):Option kA:= (VY (b e) not 24).bind λa=> bif decide (a.2<0) then some ((Ex.mk 0 0 0 []),9) else some ((b a.1),0)
theorem ac1:Ko ak7:=
 ba .o call116 func116 (al acU ao) ao ao λs=>(show _=LF bq aN s.1 s.2 from by kernel_rfl).trans ((congrArg (λa=>LF a aN s.1 s.2) aK).trans ((congrArg (λb=>LF id b s.1 s.2) aQ).trans (by kernel_rfl)))
def aop:au:=⟨64,[gW],(.cB [gW,aq]),[],λs=>Ji s⟩
def N4(a:Ex->Ex)(c:Sh->(R:Type)->Option R->Option R)(e:Ex):Option kA:= (Va (a e) true).bind λb=> some ((a b.1),b.2)
theorem O5:Ko aop:=
 ba .o call64 func64 (al ac1 ao) ao ao λs=>(show _=N4 bq aN s from by kernel_rfl).trans ((congrArg (λa=>N4 a aN s) aK).trans ((congrArg (λb=>N4 id b s) aQ).trans (by kernel_rfl)))
def WS:au:=⟨26,[.str,(.sli .s)],(.cB [gW,aq,aq]),[],U2 uZ⟩
def xZ(d:Ex->Ex)(j:Sh->(R:Type)->Option R->Option R)(f:aS)(c:aF):Option (Ex×Int×Int):= (CG f).bind λe=> bif e.2.1 != 0 then some ((Ex.mk 0 0 0 []),e.2.1,e.2.2) else (Kw e.1 0 c).bind λa=> bif a.2.2.1 != 0 then some ((Ex.mk 0 0 0 []),a.2.2.1,a.2.2.2) else (idx e.1 a.2.1).bind λi=> bif i.1 != 4 then (idx e.1 a.2.1).bind λh=> some ((Ex.mk 0 0 0 []),2,h.2.2.2) else (mw (d a.1)).bind λb=> bif b.2.1 != 0 then some ((Ex.mk 0 0 0 []),b.2.1,b.2.2) else bif b.1==1 then some ((Ex.mk 0 0 0 []),4,a.1.at_) else (Ji (d a.1)).bind λg=> bif g.2 != 0 then some ((Ex.mk 0 0 0 []),g.2,a.1.at_) else some ((d a.1),0,0)
theorem Bf:Ko WS:=
 ba (.c .o (.c .o (.c (.r [4] .o) (.c .o (.c (.r [4] .o) (.c (.r [4] .o) .o)))))) call26 func26 (al G3 (al W8 (al tP (al O5 ao)))) ao ao λs=>(show _=xZ bq aN s.1 s.2 from by kernel_rfl).trans ((congrArg (λa=>xZ a aN s.1 s.2) aK).trans ((congrArg (λb=>xZ id b s.1 s.2) aQ).trans (by kernel_rfl)))
def MW:au:=⟨85,[alW,aq,aq,aO],.bool,[(true,0,akP)],λs=>ko (d8 (d8 s)).2.2.2.2.2.2.2.1 (d8 (d8 (d8 s))).1 (d8 (d8 (d8 s))).2 s.1 s.2.1 s.2.2.1 s.2.2.2.1 s.2.2.2.2.1 s.2.2.2.2.2.1 s.2.2.2.2.2.2.1 s.2.2.2.2.2.2.2.1 s.2.2.2.2.2.2.2.2.1 (d8 s).2.1 (d8 s).2.2.1 (d8 s).2.2.2.1 (d8 s).2.2.2.2.1 (d8 s).2.2.2.2.2.1 (d8 s).2.2.2.2.2.2.1 (d8 s).2.2.2.2.2.2.2.1 (d8 (d8 s)).1 (d8 (d8 s)).2.1 (d8 (d8 s)).2.2.1 (d8 (d8 s)).2.2.2.1 (d8 (d8 s)).2.2.2.2.1 (d8 (d8 s)).2.2.2.2.2.1 (d8 (d8 s)).2.2.2.2.2.2.1⟩
theorem jv:Ko MW:=
 ay .o call85 func85 ao
def QV:au:=⟨35,[(.bx 115 0 true [.str,.str,aq,aq,aq,sf,aq,aq,Ep,KH,gJ,Ep,VW,aq,aq,aq,(.own .ex 44 true),aq,aq,aq,gJ,jj,jj])],.bool,[(true,0,(.bx 115 0 true [.same,.same,.same,.same,.same,.same,.same,.same,(.sli .s),fF,aO,(.sli .s),(.sli vk),aq,aq,aq,(.sli .ex),aq,aq,aq,aO,jj,jj]))],λs=>yh s.1 s.2.1 s.2.2.1 s.2.2.2.1 s.2.2.2.2.1 s.2.2.2.2.2.1 s.2.2.2.2.2.2.1 s.2.2.2.2.2.2.2.1 s.2.2.2.2.2.2.2.2.1 (d8 s).2.1 (d8 s).2.2.1 (d8 s).2.2.2.1 (d8 s).2.2.2.2.1 (d8 s).2.2.2.2.2.1 (d8 s).2.2.2.2.2.2.1 (d8 s).2.2.2.2.2.2.2.1 (d8 (d8 s)).1 (d8 (d8 s)).2.1 (d8 (d8 s)).2.2.1 (d8 (d8 s)).2.2.2.1 (d8 (d8 s)).2.2.2.2.1 (d8 (d8 s)).2.2.2.2.2.1 (d8 (d8 s)).2.2.2.2.2.2⟩
theorem wY:Ko QV:=
 ay (.c .o (.r [40000] .o)) call35 func35 (al Eo (al MY (al Bf (al jv ao))))
def HE:au:=⟨101,[aO],gJ,[],λs=>bY s⟩
def HB(s:Q1):Option Q1:= yV s ( some []) ( aJ (aH (List.length ([]:zB)+List.length s) 8)<| some (([]:zB)++s))
theorem dz:Ko HE:=
 ba .o call101 func101 ao ao ao λs=>(show _=HB s from by kernel_rfl).trans mC
def Bs:au:=⟨193,[(.bx 259 0 true [.sfp,(.own aP 5 false)])],fH,[(true,0,(.bx 259 0 true [.sfp,.same]))],U2 kL⟩
theorem mn:Ko Bs:=
 ay .o call193 func193 ao
def yE:au:=⟨131,[Hg,.str],(.cB [aq,(.kB (.raw .nilIface))]),[(true,0,Hg)],λs=>di s.2.2 s.1 s.2.1⟩
theorem kX:Ko yE:=
 ay .o call131 func131 (al mn ao)
def BH:au:=⟨204,[Hg,jK],(.kB (.raw .nilIface)),[(true,0,Hg)],λs=>rH s.2.2 s.1 s.2.1⟩
theorem xw:Ko BH:=
 ay .o call204 func204 (al mn ao)
def Du:au:=⟨132,[Hg],.str,[],U2 nh⟩
theorem oD:Ko Du:=
 ay (.r [0] .o) call132 func132 ao
def aiC:au:=⟨151,[aO],.str,[],λs=>abt s⟩
theorem Za:Ko aiC:=
 ay (.l ⟨[(true,3,Hg),(false,8,aq)],[]⟩ .o) call151 func151 (al abP (al kX (al xw (al oD ao))))
def YQ:au:=⟨100,[af4,aO],fH,[(true,0,af4)],λs=>l6 s.2.2 s.1 s.2.1⟩
theorem Bi:Ko YQ:=
 ay (.j ⟨[(true,0,(.bx 224 0 true [.same,(.mp .s .bo true)]))],[]⟩ .o .o) call100 func100 (al Za ao)
def aeE:au:=⟨152,[AG,aO],(.fn 205 [] [(.bx 41 0 true [(.sli .s),fF,aO,(.sli .s),(.sli vk)]),adE]),[],U2 Yf⟩
theorem YR:Ko aeE:=
 ay .o call152 func152 ao
def aeo:au:=⟨224,[.bool],aq,[],λs=>C6 s⟩
theorem XL:Ko aeo:=
 ay .o call224 func224 ao
def SB:au:=⟨177,[gW,aO],aq,[],U2 oz⟩
def aaZ(s:Ex->Ex)(z:Sh->(R:Type)->Option R->Option R)(y:(Ex×Q1)->zr)(e:Ex)(q:Q1)(b:rP->zr):Int×Int×Int->zr:=λ⟨a,c,d⟩=> bif decide (d<(List.length (br e.l 0 (min (List.length e.l:Int) 2)):Int)) then (idx (br e.l 0 (min (List.length e.l:Int) 2)) d).bind λu=> (y ((s u),q)).bind λk=> bif d==0 then b (k,c,(i64.wrap (d+1))) else bif d==1 then b (a,k,(i64.wrap (d+1))) else none else aj (λ(j:Int×Int×Bool)=>OW j.1 j.2.1 j.2.2) λp=> aj (λ(i:Int×Int×Bool)=>N5 i.1 i.2.1 i.2.2) λo=> aj (λ(h:Int×Int×Bool)=>OJ h.1 h.2.1 h.2.2) λg=> bif e.op==1 then some e.n else bif e.op==2 then aj (decide (e.n<0)) λwe=> aj (decide ((q.length:Int)<=e.n)) λw=> aj (we||w) λv=> bif v then ( some 0) else ( (idx q e.n).bind λt=> some t) else bif e.op==3 then some (i64.wrap (a+c)) else bif e.op==5 then some (i64.wrap (a*c)) else bif e.op==6 then some (i64.wrap (0-a)) else bif e.op==4 then some (i64.wrap (a-c)) else bif e.op==8 then g (a,c,true) else aj (λ(x:Unit)=>Ow e a c p o) λm=> aj (λ(r:Bool)=>PK a c g m r) λf=> bif e.op==7 then f (e.op==7) else f (e.op==19)
def BI(a:Ex->Ex)(d:Sh->(R:Type)->Option R->Option R)(c:(Ex×Q1)->zr)(e:Ex)(b:Q1):zr:= aJ (dW 0 (min (List.length e.l:Int) 2) (List.length e.l))<| ax (aaZ a d c e b) aA (0,0,0)
def SC:afi->afi:=λa s=>Ue a s.1 s.2
theorem Ut(a:afi)(b:avY a):(yf (SC a)).Ok X0.P X0.Γ:=
 ba (.l ⟨[(true,5,(.bx 351 0 true [aq,aq])),(false,19,aq)],[]⟩ (.c .o (.r [] (.s (.s (.s (.s (.s (.s (.s (.s (.j ⟨[(false,8,aq),(false,9,aq),(false,10,.bool)],[2]⟩ (.s (.j ⟨[(false,8,aq),(false,9,aq),(false,10,.bool)],[2]⟩ (.s (.j ⟨[(false,8,aq),(false,9,aq),(false,10,.bool)],[2]⟩ (.c .o (.c .o (.c .o (.c .o (.c .o (.c .o (.c .o (.j ⟨[],[]⟩ (.j ⟨[(false,50,.bool)],[]⟩ .o .o) .o)))))))) .o)) .o)) .o)))))))))))) call177 func177 (al b (al XL ao)) ao ao λs=>(show _=BI bq aN a s.1 s.2 from by kernel_rfl).trans ((congrArg (λd=>BI d aN a s.1 s.2) aK).trans ((congrArg (λe=>BI id e a s.1 s.2) aQ).trans (by kernel_rfl)))
theorem tD:Ko SB:=(show SB=yf (ax (SC) aA) by kernel_rfl)▸eZ (X:=X0) (E:=yf) ⟨call177,λ_ _ h=>nomatch h⟩ (Ut) aA
def aaK:au:=⟨206,[AG,aO],gJ,[],U2 PD⟩
def Rx(f:Ex->Ex)(h:Sh->(R:Type)->Option R->Option R)(m:tX)(d:Q1)(a:gO->Option Q1):Q1×Int->Option Q1:=λ⟨b,c⟩=> bif decide (c<(m.2.2.2.2.length:Int)) then (idx m.2.2.2.2 c).bind λg=> (oz (f g.2.1) d).bind λe=> bif e==1 then aJ (aH (List.length b+List.length ([c]:zB)) 8)<| a ((b++([c]:zB)),(i64.wrap (c+1))) else a (b,(i64.wrap (c+1))) else some b
def AE(b:Ex->Ex)(c:Sh->(R:Type)->Option R->Option R)(m:tX)(a:Q1):Option Q1:= ax (Rx b c m a) aA ([],0)
theorem QR:Ko aaK:=
 ba (.l ⟨[(false,5,gJ),(false,11,aq)],[]⟩ .o) call206 func206 (al tD ao) ao ao λs=>(show _=AE bq aN s.1 s.2 from by kernel_rfl).trans ((congrArg (λa=>AE a aN s.1 s.2) aK).trans ((congrArg (λb=>AE id b s.1 s.2) aQ).trans (by kernel_rfl)))
def Zi:au:=⟨52,[fF,LC],aq,[],U2 Fh⟩
theorem RZ:Ko Zi:=
 ay (.c .o (.l ⟨[(false,14,aq)],[]⟩ .o)) call52 func52 (al pB ao)
def aij:au:=⟨207,[AG,aO,aq],(.cB [gJ,aq]),[],U3 abl⟩
def Z5(i:Ex->Ex)(k:Sh->(R:Type)->Option R->Option R)(m:tX)(f:Q1)(e:Q70)(a:gO->Option gO):Q1×Int->Option gO:=λ⟨b,c⟩=> bif decide (c<(e.2.2.length:Int)) then (idx e.2.2 c).bind λd=> (oz (i d.2) f).bind λh=> (idx b d.1).bind λj=> a ((List.set b (Int.toNat d.1) h),(i64.wrap (c+1))) else (Fh m.2.1 b).bind λg=> bif g != 0 then some ([],6) else some (b,0)
def Ij(c:Ex->Ex)(g:Sh->(R:Type)->Option R->Option R)(m:tX)(a:Q1)(k:Int):Option gO:= aj (decide (k<0)) λh=> aj (decide ((m.2.2.2.2.length:Int)<=k)) λf=> aj (h||f) λe=> bif e then ( some ([],10)) else ( (bY a).bind λb=> (idx m.2.2.2.2 k).bind λd=> ax (Z5 c g m a d) aA (b,0))
theorem Z8:Ko aij:=
 ba (.c .o (.l ⟨[(true,8,gJ),(false,29,aq)],[]⟩ (.c (.r [8] .o) .o))) call207 func207 (al dz (al tD (al RZ ao))) ao ao λs=>(show _=Ij bq aN s.1 s.2.1 s.2.2 from by kernel_rfl).trans ((congrArg (λa=>Ij a aN s.1 s.2.1 s.2.2) aK).trans ((congrArg (λb=>Ij id b s.1 s.2.1 s.2.2) aQ).trans (by kernel_rfl)))
def ahF:au:=⟨102,[AG,aO],(.cB [jj,aq]),[],U2 Bm⟩
theorem anD:(⟨205,Tryz.f205⟩:lJ).Ok X0.P:=⟨call205,func205⟩
theorem tr:Ko ahF:=
 ba (.c (.c (.l ⟨[(false,10,aq),(true,10004,(.bx 31 0 true [.same])),(true,10005,(.bx 29 0 true [aq])),(true,10006,af4)],[]⟩ .o) .o) (.r [70000,4,5,6] .o)) call102 func102 (al YR (al QR (al Z8 (al Bi (al dz ao))))) ao (al anD ao) λ_=>by kernel_rfl
def agi:au:=⟨57,[AG,aq],(.cB [jj,aq,aO]),[],U2 Wk⟩
theorem Wq:Ko agi:=
 ay (.l ⟨[(true,7,af4),(false,8,aq)],[]⟩ (.c (.r [] (.c .o (.l ⟨[(true,7,af4),(false,51,aq)],[]⟩ .o))) .o)) call57 func57 (al dz (al Bi (al tr ao)))
def jE(a:Uq):au:=⟨242,[(.sli .ex),(.sli .ex),(.fn 209 [] [])],.bool,[],λs=>eV a s.1 s.2⟩
def iX(b:Ex->Ex)(j:Sh->(R:Type)->Option R->Option R)(h:(Ex×Ex)->zo)(f:(List Ex))(g:(List Ex))(a:Int->zo)(c:Int):zo:= bif decide (c<(f.length:Int)) then (idx f c).bind λi=> (idx g c).bind λe=> (h ((b i),(b e))).bind λd=> bif !d then some false else a (i64.wrap (c+1)) else some true
def dj(a:Ex->Ex)(e:Sh->(R:Type)->Option R->Option R)(d:(Ex×Ex)->zo)(c:(List Ex))(b:(List Ex)):zo:= bif (c.length:Int) != (b.length:Int) then some false else ax (iX a e d c b) aA 0
theorem iY(a:Uq)(b:auz a):Ko (jE a):=
 ba (.c .o (.l ⟨[(false,17,aq)],[]⟩ .o)) call242 func242 (al b ao) ao ao λs=>(show _=dj bq aN a s.1 s.2 from by kernel_rfl).trans ((congrArg (λd=>dj d aN a s.1 s.2) aK).trans ((congrArg (λe=>dj id e a s.1 s.2) aQ).trans (by kernel_rfl)))
def SU:au:=⟨209,[gW,gW],.bool,[],U2 A9⟩
def S1:Uq->Uq:=λa s=>Sn a s.1 s.2
theorem Up(a:Uq)(b:auz a):(xV (S1 a)).Ok X0.P X0.Γ:=
 ay .o call209 func209 (al (iY a b) ao)
theorem IL:Ko SU:=(show SU=xV (ax (S1) aA) by kernel_rfl)▸eZ (X:=X0) (E:=xV) ⟨call209,λ_ _ h=>nomatch h⟩ (Up) aA
def Rf:au:=⟨155,[K8,gW],sf,[(true,0,K8)],λs=>iu s.2 s.1⟩
def Ma(c:Ex->Ex)(i:Sh->(R:Type)->Option R->Option R)(e:Ex)(l:(List Ex))(d:Int->Option Q72)(a:Int):Option Q72:= bif decide (a<(l.length:Int)) then (idx l a).bind λg=> (A9 (c g) (c e)).bind λf=> bif f then ( aJ (decide (0<=a))<| some ((bZ .u64 1 a),l)) else ( d (i64.wrap (a+1))) else aJ (aH (List.length l+List.length ([(Ex.mk 0 0 0 [])]:List Ex)) 48)<| (idx (l++([(Ex.mk 0 0 0 [])]:List Ex)) (l.length:Int)).bind λh=> i (.b .l .l) _ ( aJ (decide (0<=(i64.wrap ((List.length (List.set (l++([(Ex.mk 0 0 0 [])]:List Ex)) (Int.toNat (l.length:Int)) (c e)):Int)-1))))<| some ((bZ .u64 1 (i64.wrap ((List.length (List.set (l++([(Ex.mk 0 0 0 [])]:List Ex)) (Int.toNat (l.length:Int)) (c e)):Int)-1))),(List.set (l++([(Ex.mk 0 0 0 [])]:List Ex)) (Int.toNat (l.length:Int)) (c e))))
def uA(a:Ex->Ex)(b:Sh->(R:Type)->Option R->Option R)(e:Ex)(l:(List Ex)):Option Q72:= ax (Ma a b e l) aA 0
theorem xT:Ko Rf:=
 ba (.l ⟨[(true,0,(.bx 307 0 true [.same])),(false,12,aq)],[]⟩ (.c .o (.r [0] .o))) call155 func155 (al IL ao) ao ao λs=>(show _=uA bq aN s.2 s.1 from by kernel_rfl).trans ((congrArg (λa=>uA a aN s.2 s.1) aK).trans ((congrArg (λb=>uA id b s.2 s.1) aQ).trans (by kernel_rfl)))
def uO:au:=⟨210,[sf,(.dat xi []),adx,PO,(.bx 305 0 true [K8]),arU],fH,[(true,2,adx),(true,3,PO),(true,4,(.bx 305 0 true [.same])),(true,1005,K8),(true,5,(.bx 345 0 true [.same]))],U5 xM⟩
def CM(t:Ex->Ex)(y:Sh->(R:Type)->Option R->Option R)(o:Q44->Option Mn)(b:Int)(n:cF)(x:Q20)(e:Q8)(l:(List Ex))(m:Int->Option Mn)(a:Int):Option Mn:= aJ (decide (0<=a))<| bif (kb .u64 (bP .u64 b n.1) (bZ .u64 1 a))==0 then m (i64.wrap (a+1)) else (idx l a).bind λd=> aJ (decide (0<=a))<| (tI (t d)).bind λu=> bif u then ( (o ((bP .u64 (bP .u64 b n.1) (bZ .u64 1 a)),((ed .u64 n.1 (bZ .u64 1 a)),n.2),x,e,l)).bind λs=> some (s.1,s.2.1,s.2.2)) else ( (idx d.l 0).bind λw=> (iu (t w) l).bind λf=> bif d.op==20 then (o ((bP .u64 (bP .u64 b n.1) (bZ .u64 1 a)),((ed .u64 n.1 (bZ .u64 1 a)),(ed .u64 n.2 f.1)),x,e,f.2)).bind λr=> some (r.1,r.2.1,r.2.2) else (idx d.l 1).bind λv=> (iu (t v) f.2).bind λc=> bif d.op==16 then (o ((ed .u64 (ed .u64 (bP .u64 (bP .u64 b n.1) (bZ .u64 1 a)) f.1) c.1),((ed .u64 n.1 (bZ .u64 1 a)),n.2),x,e,c.2)).bind λq=> some (q.1,q.2.1,q.2.2) else bif d.op==17 then (o ((ed .u64 (bP .u64 (bP .u64 b n.1) (bZ .u64 1 a)) f.1),((ed .u64 n.1 (bZ .u64 1 a)),n.2),x,e,c.2)).bind λp=> (o ((ed .u64 (bP .u64 (bP .u64 b n.1) (bZ .u64 1 a)) c.1),((ed .u64 n.1 (bZ .u64 1 a)),n.2),p.1,p.2.1,p.2.2)).bind λk=> some (k.1,k.2.1,k.2.2) else bif d.op==23 then (o ((ed .u64 (bP .u64 (bP .u64 b n.1) (bZ .u64 1 a)) c.1),((ed .u64 n.1 (bZ .u64 1 a)),n.2),x,e,c.2)).bind λj=> (o ((ed .u64 (bP .u64 (bP .u64 b n.1) (bZ .u64 1 a)) f.1),((ed .u64 n.1 (bZ .u64 1 a)),(ed .u64 n.2 (bZ .u64 1 a))),j.1,j.2.1,j.2.2)).bind λi=> some (i.1,i.2.1,i.2.2) else bif d.op==24 then (o ((ed .u64 (ed .u64 (bP .u64 (bP .u64 b n.1) (bZ .u64 1 a)) f.1) c.1),((ed .u64 n.1 (bZ .u64 1 a)),n.2),x,e,c.2)).bind λh=> (o ((ed .u64 (bP .u64 (bP .u64 b n.1) (bZ .u64 1 a)) c.1),((ed .u64 n.1 (bZ .u64 1 a)),(ed .u64 n.2 (bZ .u64 1 a))),h.1,h.2.1,h.2.2)).bind λg=> some (g.1,g.2.1,g.2.2) else some (x,e,c.2))
def lB(d:Ex->Ex)(e:Sh->(R:Type)->Option R->Option R)(f:Q44->Option Mn)(b:Int)(n:cF)(x:Q20)(a:Q8)(l:(List Ex)):Option Mn:= bif (bP .u64 b n.1)==0 then bif !(eI x n false) then (x).bind λc=> aJ (aH (List.length a+List.length ([n]:List cF)) 16)<| some ((some (iR c n true)),(a++([n]:List cF)),l) else some (x,a,l) else ax (CM d e f b n x a l) aA 0
def uI:agq->agq:=λa s=>uU a s.1 s.2.1 s.2.2.1 s.2.2.2.1 s.2.2.2.2
theorem Bg(a:agq)(b:av8 a):(iS (uI a)).Ok X0.P X0.Γ:=
 ba (.c .o (.l ⟨[(true,7,(.bx 312 0 true [.same,.same])),(false,8,aq)],[]⟩ (.c .o (.r [40000] (.c .o (.r [4,40000] (.c .o (.r [4,40000] .o)))))))) call210 func210 (al DF (al b (al xT ao))) ao ao λs=>(show _=lB bq aN a s.1 s.2.1 s.2.2.1 s.2.2.2.1 s.2.2.2.2 from by kernel_rfl).trans ((congrArg (λd=>lB d aN a s.1 s.2.1 s.2.2.1 s.2.2.2.1 s.2.2.2.2) aK).trans ((congrArg (λe=>lB id e a s.1 s.2.1 s.2.2.1 s.2.2.2.1 s.2.2.2.2) aQ).trans (by kernel_rfl)))
theorem CF:Ko uO:=(show uO=iS (ax (uI) aA) by kernel_rfl)▸eZ (X:=X0) (E:=iS) ⟨call210,λ_ _ h=>nomatch h⟩ (Bg) aA
def MQ:au:=⟨157,[K8,sf],(.own xi 312 true),[(true,0,K8)],λs=>kj s.2 s.1⟩
theorem Hm:Ko MQ:=
 ay .o call157 func157 (al CF ao)
def ahL:au:=⟨156,[(.sli xi),adB,PO],gJ,[(true,1,adB),(true,2,PO)],U3 A7⟩
theorem ZX:Ko ahL:=
 ay (.l ⟨[(true,1,adB),(true,2,PO),(false,5,gJ),(false,12,aq)],[]⟩ .o) call156 func156 ao
def L6:au:=⟨155,[(.bx 307 0 false [(.sli .ex)]),gW],sf,[],λs=>sM s.2 s.1⟩
def FM(c:Ex->Ex)(g:Sh->(R:Type)->Option R->Option R)(e:Ex)(l:(List Ex))(a:Int->zr)(b:Int):zr:= bif decide (b<(l.length:Int)) then (idx l b).bind λf=> (A9 (c f) (c e)).bind λd=> bif d then ( aJ (decide (0<=b))<| some (bZ .u64 1 b)) else ( a (i64.wrap (b+1))) else none
def o7(a:Ex->Ex)(b:Sh->(R:Type)->Option R->Option R)(e:Ex)(l:(List Ex)):zr:= ax (FM a b e l) aA 0
theorem FB:Ko L6:=
 ba (.l ⟨[(false,12,aq)],[]⟩ .o) call155 func155 (al IL ao) ao ao λs=>(show _=o7 bq aN s.2 s.1 from by kernel_rfl).trans ((congrArg (λa=>o7 a aN s.2 s.1) aK).trans ((congrArg (λb=>o7 id b s.2 s.1) aQ).trans (by kernel_rfl)))
def aq3:au:=⟨104,[gW],akB,[],λs=>afM s⟩
def aiA(g:Ex->Ex)(n:Sh->(R:Type)->Option R->Option R)(j:(List Ex))(i:mK)(l:Int)(e:(mK×Int)->Option dO)(m:cF)(b:((List Ex)×Int)->Option dO):(List Ex)×Int->Option dO:=λ⟨c,a⟩=> bif decide (a<(j.length:Int)) then (idx j a).bind λd=> aJ (decide (0<=a))<| aj ((kb .u64 m.1 (bZ .u64 1 a)) != 0) λf=> bm f default (tI (g d)) λh=> aj (f&&h) λk=> bif k then ( aJ (aH (List.length c+List.length ([(g d)]:List Ex)) 48)<| b ((c++([(g d)]:List Ex)),(i64.wrap (a+1)))) else ( b (c,(i64.wrap (a+1)))) else aJ (aH (List.length i+List.length ([c]:List (List Ex))) 24)<| e ((i++([c]:List (List Ex))),(i64.wrap (l+1)))
def aiw(h:Ex->Ex)(q:Sh->(R:Type)->Option R->Option R)(m:Xw)(e:(List Ex))(o:(List Q1))(p:Q8)(n:mK)(a:iW->Option dO):(List Q1)×Int->Option dO:=λ⟨c,b⟩=> bif decide (b<(e.length:Int)) then (idx e b).bind λd=> (tI (h d)).bind λg=> aj (d.op != 23) λk=> aj (g||k) λj=> bif j then ( a (c,(i64.wrap (b+1)))) else ( (idx d.l 1).bind λi=> (sM (h i) e).bind λf=> ax (abg p c b a f) aA (([]:zB),0)) else some (n,o,m.1,c)
def aik(e:Ex->Ex)(j:Sh->(R:Type)->Option R->Option R)(g:Xw)(f:(List Ex))(h:(List Q1))(c:Q8)(a:(mK×Int)->Option dO):mK×Int->Option dO:=λ⟨d,b⟩=> bif decide (b<(c.length:Int)) then (idx c b).bind λi=> ax (aiA e j f d b a i) aA ([],0) else ax (aiw e j g f h c d) aA ([],0)
def ahV(j:Ex->Ex)(l:Sh->(R:Type)->Option R->Option R)(h:Xw)(a:((List Ex)×(List Q1)×Q8×Si×Int)->Option dO):(List Ex)×(List Q1)×Q8×Si×Int->Option dO:=λ⟨g,d,c,i,e⟩=> bif decide (e<(c.length:Int)) then (idx c e).bind λk=> (kj k.2 g).bind λf=> (A7 f.1 i c).bind λb=> aJ (aH (List.length d+List.length ([b.1]:List Q1)) 24)<| a (f.2,(d++([b.1]:List Q1)),b.2.2,b.2.1,(i64.wrap (e+1))) else ax (aik j l h g d c) aA ([],0)
def Vs(d:Ex->Ex)(f:Sh->(R:Type)->Option R->Option R)(e:Ex):Option dO:= (iu (d e) []).bind λc=> (kj c.1 c.2).bind λb=> (A7 b.1 (some []:Si) []).bind λa=> ax (ahV d f a) aA (b.2,[],a.2.2,a.2.1,0)
theorem ahW:Ko aq3:=
 ba (.l ⟨[(true,3,K8),(true,5,(.bx 156 0 true [.same,jj,.same,.same])),(true,6,PO),(true,8,(.fn 156 [] [adB,.same])),(false,9,aq)],[]⟩ (.c (.r [8,3,5,40000] .o) (.l ⟨[(true,5,(.bx 156 0 true [(.own (.l .ex) 42 true),.same,.same,.same])),(false,56,aq)],[]⟩ (.c (.l ⟨[(true,5,aaI),(false,12,(.own .ex 44 true)),(false,65,aq)],[]⟩ (.c (.r [40000] .o) .o)) (.r [30000,20003] (.l ⟨[(true,2,aaI),(true,5,(.bx 156 0 true [.same,.same,.same,jj])),(false,97,aq)],[]⟩ (.c (.c .o (.l ⟨[(true,5,aaI),(false,18,gJ),(false,118,aq)],[]⟩ (.c (.r [40000] .o) .o))) .o))))))) call104 func104 (al xT (al Hm (al ZX (al DF (al FB ao))))) ao ao λs=>(show _=Vs bq aN s from by kernel_rfl).trans ((congrArg (λa=>Vs a aN s) aK).trans ((congrArg (λb=>Vs id b s) aQ).trans (by kernel_rfl)))
def K7:au:=⟨153,[(.dat dR []),aq],aq,[],U2 mA⟩
theorem F7:Ko K7:=
 ay .o call153 func153 ao
def Il:au:=⟨208,[aO,aq],aq,[],U2 w6⟩
theorem C4:Ko Il:=
 ay (.l ⟨[(false,8,aq)],[]⟩ .o) call208 func208 ao
def Dg:au:=⟨154,[aO,aq],.bool,[],U2 iT⟩
theorem nZ:Ko Dg:=
 ay .o call154 func154 (al C4 ao)
def akI:au:=⟨103,[Pr],akB,[],λs=>VM s⟩
theorem acV:Ko akI:=
 ay (.s (.s (.s (.j ⟨[(false,4,xC)],[]⟩ (.c (.l ⟨[(true,5,gJ),(false,31,aq)],[]⟩ .o) .o) (.l ⟨[(true,9,arZ),(false,44,aq)],[]⟩ (.c (.l ⟨[(true,9,arZ),(false,48,aq)],[]⟩ (.c (.s (.s (.s (.j ⟨[(false,12,aq)],[]⟩ .o (.l ⟨[(true,9,aaI),(false,13,gJ),(false,69,aq)],[]⟩ (.c .o (.r [9] .o))))))) .o)) (.l ⟨[(true,9,(.bx 156 0 true [.same,.same,gJ,.same])),(false,104,aq)],[]⟩ (.c (.r [9] .o) (.l ⟨[(true,2,aaI),(true,9,aaI),(false,18,gJ),(false,121,aq)],[]⟩ .o))))))))) call103 func103 (al F7 (al nZ ao))
def RV:au:=⟨58,[gW],akB,[],λs=>x7 s⟩
def uB(a:Ex->Ex)(f:Sh->(R:Type)->Option R->Option R)(e:Ex):Option dO:= (Ji (a e)).bind λd=> (afM (a d.1)).bind λc=> (VM c).bind λb=> some b
theorem ye:Ko RV:=
 ba .o call58 func58 (al O5 (al ahW (al acV ao))) ao ao λs=>(show _=uB bq aN s from by kernel_rfl).trans ((congrArg (λa=>uB a aN s) aK).trans ((congrArg (λb=>uB id b s) aQ).trans (by kernel_rfl)))
def ZY:au:=⟨24,[.str,.str],(.cB [aq,aq]),[],U2 sA⟩
theorem RM:Ko ZY:=
 ay (.c .o (.s (.j ⟨[(false,8,aq)],[]⟩ .o .o))) call24 func24 (al wY (al Wq (al ye ao)))
def PS:au:=⟨97,[fF,(.fn 98 [] [])],eU,[],λs=>oP s⟩
theorem IC:Ko PS:=
 ay (.l ⟨[(true,5,eU),(false,13,aq)],[]⟩ .o) call97 func97 (al yg ao)
def aaG:au:=⟨49,[fF],.bool,[],λs=>s7 s⟩
theorem Cp:Ko aaG:=
 ay .o call49 func49 (al IC (al iA ao))
def ach:au:=⟨50,[],(.sli .n),[],λ_=>bw⟩
theorem DZ:Ko ach:=
 ay .o call50 func50 ao
def ud:au:=⟨51,[fF],KH,[],λs=>dE s⟩
def uv(s:Q8):Option Q8:= yV s ( some []) ( aJ (aH (List.length ([]:List cF)+List.length s) 16)<| some (([]:List cF)++s))
theorem jq:Ko ud:=
 ba .o call51 func51 ao ao ao λs=>(show _=uv s from by kernel_rfl).trans mC
def Ud:au:=⟨315,[aq],(.cB [(.dat fy [some 115,some 7]),aq]),[],λs=>mU s⟩
theorem Av:Ko Ud:=
 ay .o call315 func315 ao
def ali:au:=⟨309,[aq],(.cB [(.dat (.p fy jD) [some 115,some 7,some 11]),aq]),[],λs=>KI s⟩
theorem ab3:Ko ali:=
 ay .o call309 func309 (al Av ao)
def MX:au:=⟨303,[ka,jY,AQ],(.cB [(.dat Xu [none,some 115,some 7,some 11,none,none,none,none,none,none,none,none,none,none,none,none,none,none,none]),aq]),[],U3 iL⟩
theorem HR:Ko MX:=
 ay .o call303 func303 (al ab3 ao)
def Lv:au:=⟨350,[fF,aq],(.cB [(.dat Yc [some 113,some 115,some 7,some 11]),aq]),[],U2 LQ⟩
def acW(g:Nat)(s:Q8)(e:Int)(f:(Q7×Int))(a:((List Q7)×Int)->Option (xn×Int)):(List Q7)×Int->Option (xn×Int):=λ⟨b,c⟩=> bif decide (c<(i64.wrap (Int.tdiv (i64.wrap ((i64.wrap ((s.length:Int)+2))-1)) 2))) then (mU e).bind λd=> aJ (aH (List.length b+List.length ([d.1]:List Q7)) 56)<| a ((b++([d.1]:List Q7)),(i64.wrap (c+1))) else some ((b,f.1,[]),0)
def akD(fl:Nat)(s:Q8)(a:Int):Option (xn×Int):= (mU a).bind λb=> bif b.2 != 0 then some (([],(0,[],[]),[]),b.2) else ax (acW fl s a b) fl ([],0)
theorem aad(fl:Nat)(s:fA (oL Lv.ps)):afr { X0 with fl:=fl } [Ud] [] [] (.c .o (.l ⟨[(true,4,akv),(true,8,akU),(false,27,aq)],[]⟩ .o)) Tryz.f350 Lv s=akD fl s.1 s.2:=by kernel_rfl
theorem acR:Ko Lv:=
 ba (.c .o (.l ⟨[(true,4,akv),(true,8,akU),(false,27,aq)],[]⟩ .o)) call350 func350 (al Av ao) ao ao λs=>(aad aA s).trans (by kernel_rfl)
def Mg:au:=⟨344,[ka,jY,AQ],(.cB [(.dat Xu [none,none,none,none,some 113,some 115,some 7,some 11,none,none,none,none,none,none,none,none,none,none,none]),aq]),[],U3 gZ⟩
theorem FO:Ko Mg:=
 ay .o call344 func344 (al acR ao)
def ahS:au:=⟨374,[aq],(.cB [(.dat fy [some 115,some 7]),aq]),[],λs=>PJ s⟩
theorem Y0:Ko ahS:=
 ay .o call374 func374 (al Av ao)
def Sr:au:=⟨375,[aq],aq,[],λs=>wc s⟩
def Uf:ae6->ae6:=λa s=>pX a s
theorem Wa(a:ae6)(b:avW a):(x9 (Uf a)).Ok X0.P X0.Γ:=
 ay .o call375 func375 (al b ao)
theorem Ax:Ko Sr:=(show Sr=x9 (ax (Uf) aA) by kernel_rfl)▸eZ (X:=X0) (E:=x9) ⟨call375,λ_ _ h=>nomatch h⟩ (Wa) aA
def akO:au:=⟨369,[fF,aq],(.cB [(.dat YK [some 835,some 11]),aq]),[],U2 LH⟩
theorem acL:Ko akO:=
 ay (.c .o (.r [30000,20006] (.l ⟨[(true,4,(.bx 65 0 true [.same,.same])),(true,8,(.bx 65 0 true [(.own fy 417 true),.same])),(false,23,aq)],[]⟩ .o))) call369 func369 (al Y0 (al Ax ao))
def J5:au:=⟨363,[ka,jY,AQ],(.cB [(.dat Xu [none,none,none,none,none,none,none,none,some 835,some 11,none,none,none,none,none,none,none,none,none]),aq]),[],U3 ia⟩
theorem Fy:Ko J5:=
 ay .o call363 func363 (al acL ao)
def ahY:au:=⟨334,[sf],aq,[],λs=>BG s⟩
theorem JV:Ko ahY:=
 ay (.l ⟨[(false,0,sf),(false,3,aq)],[]⟩ .o) call334 func334 ao
def NW:au:=⟨326,[(.dat dR [])],aq,[],λs=>jk s⟩
theorem ID:Ko NW:=
 ay .o call326 func326 (al JV ao)
def RT:au:=⟨325,[fF,(.fn 326 [] [])],gJ,[],λs=>mS s⟩
theorem yc:Ko RT:=
 ay (.l ⟨[(true,5,gJ),(false,13,aq)],[]⟩ .o) call325 func325 (al ID ao)
def acM:au:=⟨337,[fF],aq,[],λs=>AW s⟩
theorem Vk:Ko acM:=
 ay (.l ⟨[(false,3,aq),(false,9,aq)],[]⟩ .o) call337 func337 (al yc ao)
def ZS:au:=⟨328,[fF],aq,[],λs=>od s⟩
theorem Cq:Ko ZS:=
 ay .o call328 func328 (al Vk ao)
def am9:au:=⟨397,[aq],(.cB [(.dat Aa [some 841,some 7]),aq]),[],λs=>Qv s⟩
theorem ae4:Ko am9:=
 ay .o call397 func397 ao
def M7:au:=⟨391,[ka,jY,AQ],CJ,[],U3 gi⟩
theorem Hj:Ko M7:=
 ay (.c .o (.l ⟨[(true,4,(.bx 74 0 true [.same,.same,.same,.same,.same,.same,.same,.same,.same,.same,.same,.same,.same,.same,aq,(.sli nC),aq,aq,aO,aq,(.sli nC),aq,aq,aO,aq,(.sli nC),aq,aq,aO,.same,.same,.same,.same,.same,.same])),(true,6,(.bx 74 0 true [.same,.same,.same,.same,.same,.same,.same,.same,.same,.same,.same,.same,.same,.same,.same,.same,.same,.same,.same,.same,.same,.same,.same,.same,.same,.same,.same,.same,.same,.same,.same,.same,.same,.same,.same])),(false,18,aq)],[]⟩ .o)) call391 func391 (al Cq (al ae4 ao))
def akr:au:=⟨431,[aq,aq,sf],(.cB [(.dat Ix [some 11,some 11,some 11]),aq]),[],U3 aeY⟩
theorem ab5:Ko akr:=
 ay (.c .o (.l ⟨[(true,6,(.bx 72 0 true [.same,.same,.same,.same,.same,.same])),(true,8,(.bx 72 0 true [.same,.same,.same,iw,iw,iw])),(false,29,aq)],[]⟩ .o)) call431 func431 ao
def Na:au:=⟨425,[ka,jY,AQ],CJ,[],U3 nR⟩
theorem HY:Ko Na:=
 ay .o call425 func425 (al ab5 ao)
def aix:au:=⟨14,[fF,AQ],CJ,[],U2 fc⟩
theorem tM:Ko aix:=
 ay (.r [] (.c .o (.r [3,40000] .o))) call14 func14 (al Cp (al DZ (al jq (al HR (al FO (al Fy (al Hj (al HY ao))))))))
def Nf:au:=⟨36,[alW],.bool,[(true,0,akP)],λs=>Cn s.1 s.2.1 s.2.2.1 s.2.2.2.1 s.2.2.2.2.1 s.2.2.2.2.2.1 s.2.2.2.2.2.2.1 s.2.2.2.2.2.2.2.1 s.2.2.2.2.2.2.2.2.1 (d8 s).2.1 (d8 s).2.2.1 (d8 s).2.2.2.1 (d8 s).2.2.2.2.1 (d8 s).2.2.2.2.2.1 (d8 s).2.2.2.2.2.2.1 (d8 s).2.2.2.2.2.2.2.1 (d8 (d8 s)).1 (d8 (d8 s)).2.1 (d8 (d8 s)).2.2.1 (d8 (d8 s)).2.2.2.1 (d8 (d8 s)).2.2.2.2.1 (d8 (d8 s)).2.2.2.2.2.1 (d8 (d8 s)).2.2.2.2.2.2⟩
theorem He:Ko Nf:=
 ay (.r [40000] (.j ⟨[(false,4,aq)],[]⟩ .o .o)) call36 func36 (al tM (al jv ao))
def SD:au:=⟨52,[fF,aO],aq,[],U2 dB⟩
theorem dQ:Ko SD:=
 ay (.c .o (.l ⟨[(false,14,aq)],[]⟩ .o)) call52 func52 (al pB ao)
def alo:au:=⟨53,[jY],.ifn,[],λs=>cJ s⟩
theorem u7:Ko alo:=
 ay (.r [1] .o) call53 func53 (al DZ ao)
def acK:au:=⟨330,[eC],iw,[],λs=>uV s⟩
def acA(b:Q1):Option Q1:= yV b ( some []) ( aJ (aH (List.length ([]:zB)+List.length b) 1)<| some (([]:zB)++b))
theorem Fa:Ko acK:=
 ba .o call330 func330 ao ao ao λs=>(show _=acA s from by kernel_rfl).trans mC
def anG:au:=⟨335,[(.dat oV [none])],adu,[],λs=>aaR s⟩
theorem aeH:Ko anG:=
 ay .o call335 func335 (al Fa ao)
def ZI:au:=⟨336,[adu,.bool],fH,[(true,0,adu)],λs=>xR s.2.2 s.1 s.2.1⟩
theorem Rc:Ko ZI:=
 ay (.j ⟨[(true,0,(.bx 463 0 true [iw,.same]))],[]⟩ .o (.j ⟨[(true,0,(.bx 463 0 true [iw,.same]))],[]⟩ (.c (.r [0] .o) .o) .o)) call336 func336 ao
def alG:au:=⟨327,[(.dat oV [none]),sf,aq],(.cB [(.dat oV [none]),aq]),[],U3 J6⟩
theorem ab7:Ko alG:=
 ay (.c .o (.c .o (.l ⟨[(true,6,(.bx 442 0 true [.same,.same])),(true,8,adu),(false,9,aq)],[]⟩ (.c (.r [8] .o) .o)))) call327 func327 (al JV (al aeH (al Rc ao)))
def GS:au:=⟨318,[fF,aO],(.cB [iw,aq]),[],U2 kc⟩
theorem sO:Ko GS:=
 ay (.c .o (.l ⟨[(true,7,(.bx 442 0 true [eC,aq])),(false,20,aq)],[]⟩ (.c (.r [7] .o) .o))) call318 func318 (al dQ (al yc (al ab7 (al Cq ao))))
def ahG:au:=⟨311,[jY,aO],eC,[],U2 dN⟩
theorem dC:Ko ahG:=
 ay .o call311 func311 (al sO ao)
def acP:au:=⟨341,[Km],fH,[(true,0,Km)],λs=>Hi s⟩
theorem VA:Ko acP:=
 ay .o call341 func341 ao
def adg:au:=⟨342,[Km],fH,[(true,0,Km)],λs=>HL s⟩
theorem UF:Ko adg:=
 ay .o call342 func342 ao
def acE:au:=⟨343,[Km],fH,[(true,0,Km)],λs=>Ha s⟩
theorem UL:Ko acE:=
 ay .o call343 func343 ao
def ama:au:=⟨339,[eC,sf],sf,[],U2 Al⟩
theorem B3:Ko ama:=
 ay (.l ⟨[(true,5,Km),(false,15,aq)],[]⟩ (.c .o (.n 50 .o))) call339 func339 (al VA (al UF (al UL ao)))
def ah6:au:=⟨338,[sf,aq],aq,[],U2 wF⟩
theorem y5:Ko ah6:=
 ay .o call338 func338 ao
def acI:au:=⟨340,[eC,eC],.bool,[],U2 uS⟩
theorem DW:Ko acI:=
 ay .o call340 func340 ao
def RO:au:=⟨332,[It,eC],aq,[],U2 fz⟩
theorem yl:Ko RO:=
 ay (.n 0 (.j ⟨[(false,5,aq)],[]⟩ .o .o)) call332 func332 (al B3 (al y5 (al DW ao)))
def Rd:au:=⟨333,[It,eC],Ed,[],U2 xX⟩
theorem Lw:Ko Rd:=
 ay .o call333 func333 (al yl ao)
def agw:au:=⟨321,[It,eC],Ed,[],U2 dK⟩
theorem jS:Ko agw:=
 ay .o call321 func321 (al Lw ao)
def Lj:au:=⟨332,[(.dat fy [some 114,some 6]),eC],aq,[],U2 mh⟩
theorem FJ:Ko Lj:=
 ay (.n 0 (.j ⟨[(false,5,aq)],[]⟩ .o .o)) call332 func332 (al B3 (al y5 (al DW ao)))
def Oy:au:=⟨331,[(.bx 452 0 true [aq,(.own jD 57 true),aO]),aq],fH,[(true,0,(.bx 452 0 true [.same,(.own jD 57 true),aO]))],λs=>o6 s.2.2.2 s.1 s.2.1 s.2.2.1⟩
theorem Jg:Ko Oy:=
 ay (.l ⟨[(true,0,(.bx 452 0 true [.same,(.own jD 57 true),gJ])),(false,18,(.slr 1)),(false,20,aq)],[]⟩ (.c (.r [0] .o) .o)) call331 func331 (al FJ ao)
def IB:au:=⟨319,[It,eC],(.cB [It,aq,.bool,aq]),[],U2 cq⟩
theorem ug:Ko IB:=
 ay (.c .o (.c .o (.s (.s (.j ⟨[(true,11,(.bx 452 0 true [.same,(.own jD 57 true),aO]))],[2]⟩ (.c .o (.r [11] .o)) .o))))) call319 func319 (al jS (al Fa (al Jg (al dz (al yl ao)))))
def ac7:au:=⟨312,[NU,eC],(.cB [NU,.bool,aq]),[],U2 AU⟩
theorem Uj:Ko ac7:=
 ay (.c .o (.r [4,40000] .o)) call312 func312 (al ug ao)
def Kn:au:=⟨305,[ka,jY,aO],QA,[],U3 jC⟩
theorem FX:Ko Kn:=
 ay (.r [40000] .o) call305 func305 (al dC (al Uj ao))
def Mp:au:=⟨359,[fF,aO],(.fn 362 [] [(.bx 38 0 true [fF]),adE]),[],U2 ng⟩
theorem Fg:Ko Mp:=
 ay .o call359 func359 ao
def Mm:au:=⟨360,[iw,aO],iw,[],U2 pS⟩
theorem DM:Ko Mm:=
 ay (.l ⟨[(false,0,iw),(false,10,aq)],[]⟩ (.c (.l ⟨[(false,0,iw),(false,14,aq)],[]⟩ .o) .o)) call360 func360 ao
def Sa:au:=⟨356,[K0,fF,aO],aq,[],U3 mR⟩
theorem aa7:(⟨362,Tryz.f362⟩:lJ).Ok X0.P:=⟨call362,func362⟩
theorem Aw:Ko Sa:=
 ba (.c (.c (.l ⟨[(false,4,aq),(true,10006,EC),(true,10007,(.bx 57 0 true [iw]))],[]⟩ .o) .o) (.r [70000,6,7] .o)) call356 func356 (al Fg (al sO (al jS (al DM ao)))) ao (al aa7 ao) λ_=>by kernel_rfl
def aeR:au:=⟨361,[It],aq,[],λs=>xK s⟩
theorem GD:Ko aeR:=
 ay .o call361 func361 ao
def SG:au:=⟨357,[K0],aq,[],λs=>A8 s⟩
theorem Zo:Ko SG:=
 ay .o call357 func357 (al GD ao)
def kl:au:=⟨358,[(.sli fy)],(.own fy 56 true),[],λs=>dJ s⟩
def ux(s:(List Q7)):Option (List Q7):= yV s ( some []) ( aJ (aH (List.length ([]:List Q7)+List.length s) 56)<| some (([]:List Q7)++s))
theorem rU:Ko kl:=
 ba .o call358 func358 ao ao ao λs=>(show _=ux s from by kernel_rfl).trans mC
def Cl:au:=⟨352,[K0,fF,aO],(.cB [K0,.bool,aq]),[],U3 AX⟩
def UI(n:Nat)(c:xn)(o:Q8)(b:(Q8×Q1))(e:(Int×(List Q7)×Q1)->Option Q68):Int×(List Q7)×Q1->Option Q68:=λ⟨a,d,j⟩=> bif decide ((i64.wrap (a*2))<(b.1.length:Int)) then aJ (dW (i64.wrap (a*2)) (min (b.1.length:Int) (i64.wrap ((i64.wrap (a+1))*2))) (List.length b.1))<| aJ (dW (i64.wrap (a*2)) (min (b.1.length:Int) (i64.wrap ((i64.wrap (a+1))*2))) (List.length b.2))<| (kc (br b.1 (i64.wrap (a*2)) (min (b.1.length:Int) (i64.wrap ((i64.wrap (a+1))*2)))) (br b.2 (i64.wrap (a*2)) (min (b.1.length:Int) (i64.wrap ((i64.wrap (a+1))*2))))).bind λk=> (idx d a).bind λl=> (cq l k.1).bind λf=> (pS j ([f.2.1]:zB)).bind λg=> (idx d a).bind λm=> bif !true then (cq c.2.1 g).bind λi=> aJ (jT 0 (c.2.2.length:Int) (c.2.2.length:Int) (List.length c.2.2)&&((c.2.2.length:Int)==(c.2.2.length:Int)))<| aJ (aH (List.length (br c.2.2 0 (c.2.2.length:Int))+List.length ([0]:zB)) 1)<| some (((List.set d (Int.toNat a) f.1),i.1,((br c.2.2 0 (c.2.2.length:Int))++([0]:zB))),true,0) else e ((i64.wrap (a+1)),(List.set d (Int.toNat a) f.1),g) else (cq c.2.1 j).bind λh=> aJ (jT 0 (c.2.2.length:Int) (c.2.2.length:Int) (List.length c.2.2)&&((c.2.2.length:Int)==(c.2.2.length:Int)))<| aJ (aH (List.length (br c.2.2 0 (c.2.2.length:Int))+List.length ([0]:zB)) 1)<| some ((d,h.1,((br c.2.2 0 (c.2.2.length:Int))++([0]:zB))),true,0)
def acZ(fl:Nat)(c:xn)(s:Q8)(a:Q1):Option Q68:= (dB s a).bind λb=> bif b != 0 then some (c,false,b) else (mR c s a).bind λg=> bif decide (0<=g) then some (c,false,0) else (A8 c).bind λf=> bif decide (c.2.1.1<=f) then some (c,false,7) else (dJ c.1).bind λe=> (ng s a).bind λd=> ax (UI fl c s d) fl (0,e,[])
theorem QZ(fl:Nat)(s:fA (oL Cl.ps)):afr { X0 with fl:=fl } [SD,Sa,SG,kl,Mp,GS,IB,Mm] [] [⟨362,Tryz.f362⟩] (.c .o (.c .o (.r [] (.c .o (.c (.c (.l ⟨[(false,4,aq),(true,10003,akU),(true,10006,akv),(true,10010,(.bx 57 0 true [iw]))],[]⟩ .o) (.r [10,3] .o)) (.r [70000,3,6,10] .o)))))) Tryz.f352 Cl s=acZ fl s.1 s.2.1 s.2.2:=by kernel_rfl
theorem Vo:Ko Cl:=
 ba (.c .o (.c .o (.r [] (.c .o (.c (.c (.l ⟨[(false,4,aq),(true,10003,akU),(true,10006,akv),(true,10010,(.bx 57 0 true [iw]))],[]⟩ .o) (.r [10,3] .o)) (.r [70000,3,6,10] .o)))))) call352 func352 (al dQ (al Aw (al Zo (al rU (al Fg (al sO (al ug (al DM ao)))))))) ao (al aa7 ao) λs=>(QZ aA s).trans (by kernel_rfl)
def Je:au:=⟨346,[ka,jY,aO],QA,[],U3 iU⟩
theorem Dw:Ko Je:=
 ay .o call346 func346 (al Vo ao)
def ZQ:au:=⟨382,[fF,aO],(.own (.i .u32) 380 true),[],U2 sx⟩
theorem Cm:Ko ZQ:=
 ay (.l ⟨[(false,5,(.own (.i .u32) 380 true)),(false,10,aq)],[]⟩ .o) call382 func382 ao
def alF:au:=⟨389,[lG,lG],(.dat aah []),[],U2 DO⟩
theorem Ml:Ko alF:=
 ay (.l ⟨[(true,4,(.bx 512 0 true [.same,.same,.same,.same,.same,.same,.same,.same])),(true,5,(.bx 512 0 true [jK,jK,jK,jK,jK,jK,jK,jK])),(false,7,aq)],[]⟩ (.c (.r [5] .o) .o)) call389 func389 ao
def VC:au:=⟨390,[(.dat aah [])],eC,[],λs=>tF s⟩
theorem yG:Ko VC:=
 ay .o call390 func390 ao
def afd:au:=⟨388,[It,lG,lG],Ed,[],U3 CT⟩
theorem Xr:Ko afd:=
 ay .o call388 func388 (al Ml (al yG (al jS ao)))
def VT:bO:=⟨384,[akW,aq,lG,lG],GW,none,false,false,lG,[],λs=>oy s.2.1 s.2.2.1 s.2.2.2 s.1⟩
theorem yP:tY VT:=
 agE .o call384 func384 (al Xr ao)
def Ej:bO:=⟨387,[akW,aq,Qj],GW,none,false,false,lG,[],λs=>tL s.2.1 s.2.2 s.1⟩
def E3:aeW->aeW:=λa s=>lh a s.1 s.2.1 s.2.2
theorem JM(a:aeW)(b:avR a):(nH (E3 a)).Ok X0.P X0.Γ:=
 s6 (.c .o (.r [0] .o)) call387 func387 (al Ax ao) (al b (al yP ao)) ao λ_=>by kernel_rfl
theorem Nj:tY Ej:=(show Ej=nH (ax (E3) aA) by kernel_rfl)▸afX (X:=X0) (E:=nH) ⟨call387,λ_ _ h=>nomatch h⟩ (JM) aA
def Re:bO:=⟨381,[akW,Qj],GW,none,false,false,lG,[],λs=>mG s.2 s.1⟩
theorem Ku:tY Re:=
 s6 (.c (.r [0] .o) .o) call381 func381 ao (al yP (al Nj ao)) ao λ_=>by kernel_rfl
def ahu:au:=⟨377,[LD,fF,aO],Ed,[],U3 rZ⟩
theorem amU:(⟨383,Tryz.f383⟩:lJ).Ok X0.P:=⟨call383,func383⟩
theorem As:Ko ahu:=
 ba .o call377 func377 (al Cm ao) (al Ku ao) (al amU ao) λ_=>by kernel_rfl
def agB:au:=⟨385,[It],aq,[],λs=>Mb s⟩
theorem Xp:Ko agB:=
 ay .o call385 func385 (al GD ao)
def ahC:au:=⟨378,[LD],aq,[],λs=>GQ s⟩
theorem Y3:Ko ahC:=
 ay .o call378 func378 (al Xp ao)
def uD:au:=⟨379,[(.sli fy)],(.own fy 417 true),[],λs=>eR s⟩
def uC(s:(List Q7)):Option (List Q7):= yV s ( some []) ( aJ (aH (List.length ([]:List Q7)+List.length s) 56)<| some (([]:List Q7)++s))
theorem rS:Ko uD:=
 ba .o call379 func379 ao ao ao λs=>(show _=uC s from by kernel_rfl).trans mC
def aaD:au:=⟨386,[It,lG,lG],(.cB [It,aq,.bool,aq]),[],U3 xE⟩
theorem R8:Ko aaD:=
 ay (.r [40000] .o) call386 func386 (al Ml (al yG (al ug ao)))
def OB:au:=⟨380,[aj9,aq,lG,lG],lG,[(true,0,adJ)],λs=>lz s.2.1 s.2.2.1 s.2.2.2 s.1⟩
theorem wj:Ko OB:=
 ay (.r [0] .o) call380 func380 (al R8 ao)
def yJ:au:=⟨387,[aj9,aq,Qj],lG,[(true,0,adJ)],λs=>ur s.2.1 s.2.2 s.1⟩
def yS:agj->agj:=λa s=>ja a s.1 s.2.1 s.2.2
theorem ES(a:agj)(b:av3 a):(kG (yS a)).Ok X0.P X0.Γ:=
 ay (.c .o (.r [0] .o)) call387 func387 (al b (al Ax (al wj ao)))
theorem Hz:Ko yJ:=(show yJ=kG (ax (yS) aA) by kernel_rfl)▸eZ (X:=X0) (E:=kG) ⟨call387,λ_ _ h=>nomatch h⟩ (ES) aA
def KV:au:=⟨381,[aj9,Qj],lG,[(true,0,adJ)],λs=>ml s.2 s.1⟩
theorem FH:Ko KV:=
 ay (.c (.r [0] .o) .o) call381 func381 (al wj (al Hz ao))
def ack:au:=⟨371,[LD,fF,aO],(.cB [LD,.bool,aq]),[],U3 AH⟩
theorem Vi:Ko ack:=
 ay (.c .o (.c .o (.r [] (.c .o (.r [6,40000] .o))))) call371 func371 (al dQ (al As (al Y3 (al rS (al Cm (al FH ao))))))
def Jl:au:=⟨365,[ka,jY,aO],QA,[],U3 jd⟩
theorem DT:Ko Jl:=
 ay .o call365 func365 (al Vi ao)
def VO:au:=⟨414,[jK],.bool,[],λs=>tB s⟩
theorem MZ:Ko VO:=
 ay .o call414 func414 ao
def PW:au:=⟨408,[jK,jK],aq,[],U2 lg⟩
theorem wx:Ko PW:=
 ay .o call408 func408 (al MZ ao)
def ail:au:=⟨407,[(.dat lM []),jK],aq,[],U2 BD⟩
theorem ZO:Ko ail:=
 ay .o call407 func407 (al wx ao)
def kY:au:=⟨406,[(.sli lM),jK,(.fn 407 [] [])],Ed,[],U2 bJ⟩
theorem fe:Ko kY:=
 ay (.l ⟨[(false,9,aq),(false,10,aq)],[]⟩ .o) call406 func406 (al ZO ao)
def ao6:au:=⟨402,[Xh,aq,jK],aq,[],U3 Bd⟩
theorem ahI:Ko ao6:=
 ay .o call402 func402 (al fe ao)
def amX:au:=⟨399,[Xh,eC],.bool,[],U2 lX⟩
theorem sQ:Ko amX:=
 ay (.l ⟨[(false,5,aq),(false,12,aq)],[]⟩ .o) call399 func399 (al ahI ao)
def alj:au:=⟨400,[Xh],aq,[],λs=>KE s⟩
theorem ac9:Ko alj:=
 ay .o call400 func400 ao
def vd:au:=⟨403,[(.sli nC)],(.own nC 420 true),[],λs=>dS s⟩
def vn(s:Q3):Option Q3:= yV s ( some []) ( aJ (aH (List.length ([]:List (Q8×Int))+List.length s) 32)<| some (([]:List (Q8×Int))++s))
theorem tz:Ko vd:=
 ba .o call403 func403 ao ao ao λs=>(show _=vn s from by kernel_rfl).trans mC
def vM:au:=⟨420,[(.sli lM),(.sli lM)],.bool,[],U2 fD⟩
theorem tl:Ko vM:=
 ay (.c .o (.l ⟨[(false,13,aq)],[]⟩ .o)) call420 func420 ao
def WY:au:=⟨415,[(.bx 526 0 false [aq,(.own nC 420 false),aq,aq,LC,(.mp bc .bo false)]),(.sli lM)],Ed,[],λs=>B4 s.2.2.2.2.2.2 s.1 s.2.1 s.2.2.1 s.2.2.2.1 s.2.2.2.2.1 s.2.2.2.2.2.1⟩
theorem ON:Ko WY:=
 ay (.l ⟨[(false,14,aq)],[]⟩ .o) call415 func415 (al tl ao)
def Kt:au:=⟨447,[LC],aq,[],λs=>jM s⟩
theorem tV:Ko Kt:=
 ay .o call447 func447 ao
def IV:au:=⟨449,[gJ,aq,aq],fH,[(true,0,gJ)],U3 fm⟩
theorem kZ:Ko IV:=
 ay (.r [0] .o) call449 func449 ao
def IG:au:=⟨448,[LC,aq,aq],.bool,[],U3 gD⟩
theorem sG:Ko IG:=
 ay .o call448 func448 ao
def J4:au:=⟨423,[Iw,aq,aq],.bool,[(true,0,Iw)],λs=>rb s.2.1 s.2.2 s.1⟩
theorem ER:Ko J4:=
 ay (.l ⟨[(true,0,Iw),(false,7,aq)],[]⟩ (.c .o (.s (.j ⟨[(false,9,aq)],[]⟩ .o .o)))) call423 func423 (al sG (al kZ ao))
def Rj:au:=⟨450,[ady],GW,[(true,0,ady)],λs=>xr s⟩
theorem KD:Ko Rj:=
 ay .o call450 func450 ao
def Ki:au:=⟨421,[Iw],GW,[(true,0,Iw)],λs=>mf s⟩
theorem Ga:Ko Ki:=
 ay .o call421 func421 (al tV (al kZ (al ER (al KD ao))))
def V8:au:=⟨416,[ao4],aq,[(true,0,afs)],U6 tK⟩
theorem Nl:Ko V8:=
 ay .o call416 func416 (al Ga ao)
def W0:au:=⟨409,[aqM,(.sli lM)],aq,[(true,0,aqi)],λs=>pP s.2.2.2.2.2.2 s.1 s.2.1 s.2.2.1 s.2.2.2.1 s.2.2.2.2.1 s.2.2.2.2.2.1⟩
theorem Om:Ko W0:=
 ay (.c .o (.l ⟨[(true,0,(.bx 526 0 true [.same,(.own nC 420 true),.same,.same,.same,.same])),(false,35,aq)],[]⟩ (.c (.r [0] .o) .o))) call409 func409 (al ON (al Nl ao))
def ah4:au:=⟨402,[(.dat Aa [some 840,some 6]),aq,jK],aq,[],U3 Pf⟩
theorem Z7:Ko ah4:=
 ay .o call402 func402 (al fe ao)
def Rb:au:=⟨411,[(.dat lM []),jK],aq,[],U2 yt⟩
theorem Lx:Ko Rb:=
 ay .o call411 func411 (al wx ao)
def ku:au:=⟨406,[(.own lM 531 false),jK,(.fn 411 [] [])],Ed,[],U2 cC⟩
theorem jI:Ko ku:=
 ay (.l ⟨[(false,9,aq),(false,10,aq)],[]⟩ .o) call406 func406 (al Lx ao)
def vK:au:=⟨410,[(.sli lM)],(.own lM 531 true),[],λs=>fv s⟩
def vB(s:Q8):Option Q8:= yV s ( some []) ( aJ (aH (List.length ([]:List cF)+List.length s) 16)<| some (([]:List cF)++s))
theorem tC:Ko vK:=
 ba .o call410 func410 ao ao ao λs=>(show _=vB s from by kernel_rfl).trans mC
def Jk:au:=⟨404,[aqM,aq,eC],aq,[(true,0,aqi)],λs=>xf s.2.2.2.2.2.2.1 s.2.2.2.2.2.2.2 s.1 s.2.1 s.2.2.1 s.2.2.2.1 s.2.2.2.2.1 s.2.2.2.2.2.1⟩
def JC:afE->afE:=λa s=>kS a s.1 s.2.1 s.2.2.1 s.2.2.2.1 s.2.2.2.2.1 s.2.2.2.2.2.1 s.2.2.2.2.2.2.1 s.2.2.2.2.2.2.2
theorem M6(a:afE)(b:av6 a):(rI (JC a)).Ok X0.P X0.Γ:=
 ay (.c .o (.s (.j ⟨[(false,7,(.own lM 531 true))],[]⟩ .o (.r [0,40000] (.s (.j ⟨[(false,7,(.own lM 531 true))],[8]⟩ .o .o)))))) call404 func404 (al Om (al Z7 (al b (al jI (al ah7 (al tC ao))))))
theorem RX:Ko Jk:=(show Jk=rI (ax (JC) aA) by kernel_rfl)▸eZ (X:=X0) (E:=rI) ⟨call404,λ_ _ h=>nomatch h⟩ (M6) aA
def PU:au:=⟨451,[ady,GW],fH,[(true,0,ady)],λs=>vp s.2 s.1⟩
theorem Js:Ko PU:=
 ay (.r [0] .o) call451 func451 ao
def HD:au:=⟨419,[Iw,aq],fH,[(true,0,Iw)],λs=>o8 s.2 s.1⟩
theorem C0:Ko HD:=
 ay (.l ⟨[(true,0,Iw),(false,1,aq)],[]⟩ .o) call419 func419 (al sG (al kZ ao))
def JN:au:=⟨413,[Iw,GW],fH,[(true,0,Iw)],λs=>lC s.2 s.1⟩
theorem DG:Ko JN:=
 ay .o call413 func413 (al Js (al tV (al C0 ao)))
def Eb:au:=⟨405,[ao4,aq],fH,[(true,0,afs)],λs=>tv s.2.2.2.2.2.2 s.1 s.2.1 s.2.2.1 s.2.2.2.1 s.2.2.2.2.1 s.2.2.2.2.2.1⟩
def EN:ag6->ag6:=λa s=>oW a s.1 s.2.1 s.2.2.1 s.2.2.2.1 s.2.2.2.2.1 s.2.2.2.2.2.1 s.2.2.2.2.2.2
theorem II(a:ag6)(b:awc a):(nN (EN a)).Ok X0.P X0.Γ:=
 ay (.c .o (.l ⟨[(true,0,afs),(false,42,aq)],[]⟩ .o)) call405 func405 (al b (al DG ao))
theorem MJ:Ko Eb:=(show Eb=nN (ax (EN) aA) by kernel_rfl)▸eZ (X:=X0) (E:=nN) ⟨call405,λ_ _ h=>nomatch h⟩ (II) aA
def aec:au:=⟨401,[Xh,eC],(.cB [Xh,.bool,aq]),[],U2 fw⟩
theorem Gb:Ko aec:=
 ay (.c .o (.c .o (.r [7] (.r [7] (.j ⟨[(true,7,afs)],[]⟩ .o .o))))) call401 func401 (al sQ (al tz (al dz (al RX (al MJ ao)))))
def KJ:au:=⟨393,[ka,jY,aO],QA,[],U3 jL⟩
theorem Fk:Ko KJ:=
 ay .o call393 func393 (al dC (al sQ (al ac9 (al Gb ao))))
def aeG:au:=⟨442,[eC,sf,aq,aq],gJ,[],U4 tN⟩
theorem mT:Ko aeG:=
 ay (.l ⟨[(false,9,gJ),(false,13,aq)],[]⟩ .o) call442 func442 (al B3 (al y5 ao))
def ahv:au:=⟨439,[ym,eC,(.kB (.int .i64 0)),Y8],fH,[(true,3,Y8)],U3 abz⟩
theorem aal:Ko ahv:=
 ay (.l ⟨[(true,3,Y8),(false,19,aq)],[]⟩ (.c (.r [3] .o) .o)) call439 func439 (al mT ao)
def akg:au:=⟨437,[ym,eC,(.kB (.int .i64 0))],.bool,[],U2 afK⟩
theorem acT:Ko akg:=
 ay .o call437 func437 (al aal ao)
def ab9:au:=⟨434,[ym,eC],.bool,[],U2 A0⟩
theorem vh:Ko ab9:=
 ay .o call434 func434 (al acT ao)
def EP:au:=⟨323,[eC],iw,[],λs=>cG s⟩
def D7(s:Q1):Option Q1:= yV s ( some []) ( aJ (aH (List.length ([]:zB)+List.length s) 1)<| some (([]:zB)++s))
theorem eP:Ko EP:=
 ba .o call323 func323 ao ao ao λs=>(show _=D7 s from by kernel_rfl).trans mC
def aar:au:=⟨439,[(.dat Ix [some 11,none,none]),eC,(.kB (.int .i64 0)),(.fn 441 [] [])],fH,[(true,0,(.agg [.same,.same,.same,iw,.same,.same]))],U2 DN⟩
theorem Cu:Ko aar:=
 ay (.l ⟨[(true,0,(.agg [.same,.same,.same,iw,.same,.same])),(false,19,aq)],[]⟩ (.c (.r [4,0] .o) .o)) call439 func439 (al mT ao)
def amb:au:=⟨438,[ym,eC,(.kB (.int .i64 0))],(.dat Ix [some 11,none,none]),[],U2 agf⟩
theorem acr:Ko amb:=
 ay .o call438 func438 (al eP (al Cu ao))
def aci:au:=⟨433,[ym,eC],(.cB [ym,.bool]),[],U2 SV⟩
theorem Vc:Ko aci:=
 ay .o call433 func433 (al vh (al acr ao))
def Le:au:=⟨427,[ka,jY,aO],QA,[],U3 mQ⟩
theorem Fv:Ko Le:=
 ay (.r [40000] .o) call427 func427 (al dC (al Vc ao))
def aaj:au:=⟨16,[jY,aO],QA,[],U2 dv⟩
theorem uE:Ko aaj:=
 ay (.c .o (.r [2,4] .o)) call16 func16 (al dQ (al u7 (al FX (al Dw (al DT (al Fk (al Fv ao)))))))
def ac0:au:=⟨86,[AG,AQ],(.cB [aq,aO]),[],U2 Sg⟩
theorem UO:Ko ac0:=
 ay (.c .o (.l ⟨[(true,6,akj),(false,10,aq),(false,11,jj)],[]⟩ (.c (.r [] (.c .o (.l ⟨[(true,6,akj),(false,10,aq),(false,11,jj),(false,61,aq)],[]⟩ .o))) .o))) call86 func86 (al tM (al uE (al tr ao)))
def IZ:au:=⟨37,[alW],.bool,[(true,0,akP)],λs=>yR s.1 s.2.1 s.2.2.1 s.2.2.2.1 s.2.2.2.2.1 s.2.2.2.2.2.1 s.2.2.2.2.2.2.1 s.2.2.2.2.2.2.2.1 s.2.2.2.2.2.2.2.2.1 (d8 s).2.1 (d8 s).2.2.1 (d8 s).2.2.2.1 (d8 s).2.2.2.2.1 (d8 s).2.2.2.2.2.1 (d8 s).2.2.2.2.2.2.1 (d8 s).2.2.2.2.2.2.2.1 (d8 (d8 s)).1 (d8 (d8 s)).2.1 (d8 (d8 s)).2.2.1 (d8 (d8 s)).2.2.2.1 (d8 (d8 s)).2.2.2.2.1 (d8 (d8 s)).2.2.2.2.2.1 (d8 (d8 s)).2.2.2.2.2.2⟩
theorem El:Ko IZ:=
 ay .o call37 func37 (al UO (al jv ao))
def acw:au:=⟨143,[AG,Pr],(.cB [KH,aq]),[],U2 Sc⟩
theorem UP:Ko acw:=
 ay (.c .o (.r [40000] .o)) call143 func143 (al Cp (al jq ao))
def aio:au:=⟨234,[Pr,aO,aO],(.fn 257 [] [adE,(.bx 156 0 true [(.sli (.l .ex)),xC,aO,xC]),adE]),[],U3 Nv⟩
theorem IX:Ko aio:=
 ay .o call234 func234 ao
def aca:au:=⟨271,[gW,OX],.bool,[],U2 HI⟩
def BJ(a:Ex->Ex)(c:Sh->(R:Type)->Option R->Option R)(e:Ex)(x:Q1):zo:= (oz (a e) x).bind λb=> some (b != 1)
theorem UH:Ko aca:=
 ba .o call271 func271 (al tD ao) ao ao λs=>(show _=BJ bq aN s.1 s.2 from by kernel_rfl).trans ((congrArg (λa=>BJ a aN s.1 s.2) aK).trans ((congrArg (λb=>BJ id b s.1 s.2) aQ).trans (by kernel_rfl)))
def sT:au:=⟨276,[(.sli .ex),(.fn 271 [] [OX])],aq,[],U2 kq⟩
def pN(e:Ex->Ex)(g:Sh->(R:Type)->Option R->Option R)(s:(List Ex))(c:Q1)(a:Int->zr)(b:Int):zr:= bif decide (b<(s.length:Int)) then (idx s b).bind λf=> (HI (e f) c).bind λd=> bif d then ( some b) else ( a (i64.wrap (b+1))) else some (-1)
def fS(a:Ex->Ex)(b:Sh->(R:Type)->Option R->Option R)(s:(List Ex))(c:Q1):zr:= ax (pN a b s c) aA 0
theorem pK:Ko sT:=
 ba (.l ⟨[(false,8,aq)],[]⟩ .o) call276 func276 (al UH ao) ao ao λs=>(show _=fS bq aN s.1 s.2 from by kernel_rfl).trans ((congrArg (λa=>fS a aN s.1 s.2) aK).trans ((congrArg (λb=>fS id b s.1 s.2) aQ).trans (by kernel_rfl)))
def pQ:au:=⟨270,[(.sli .ex),(.fn 271 [] [OX])],.bool,[],U2 jo⟩
theorem nT:Ko pQ:=
 ay .o call270 func270 (al pK ao)
def alv:au:=⟨258,[Pr,aq,aO],.bool,[],U3 V6⟩
theorem MA:Ko alv:=
 ay .o call258 func258 (al nT ao)
def wN:au:=⟨272,[iw,aq,aq],iw,[],U3 nD⟩
theorem uF:Ko wN:=
 ay (.s (.s (.j ⟨[(false,0,iw),(false,7,sf)],[]⟩ .o .o))) call272 func272 (al anR ao)
def Hn:au:=⟨259,[iw,aq,aq],iw,[],U3 wX⟩
theorem CS:Ko Hn:=
 ay .o call259 func259 (al uF ao)
def aay:au:=⟨235,[agS,aO],fH,[(true,0,agS)],λs=>DL s.2.2 s.1 s.2.1⟩
theorem CA:Ko aay:=
 ay (.j ⟨[(true,0,(.bx 363 0 true [.same,(.mp .s .bo true)]))],[]⟩ .o (.l ⟨[(true,0,(.bx 363 0 true [.same,.same])),(false,4,iw),(false,18,aq)],[]⟩ (.c .o (.r [] (.c (.r [0] .o) .o))))) call235 func235 (al CS ao)
def ahs:au:=⟨199,[AG,Pr],jj,[],U2 abK⟩
theorem aa4:(⟨257,Tryz.f257⟩:lJ).Ok X0.P:=⟨call257,func257⟩
theorem aai:Ko ahs:=
 ba (.c (.c (.l ⟨[(false,9,aq),(true,10005,agS)],[]⟩ (.c (.n 4 (.c .o .o)) .o)) .o) (.r [70000,5] .o)) call199 func199 (al IX (al MA (al dz (al CA ao)))) ao (al aa4 ao) λ_=>by kernel_rfl
def M4:bO:=⟨200,[QE,aO],Vt,none,false,false,.bool,[(true,0,KX)],λs=>nQ (d8 (d8 (d8 (d8 (d8 s))))).2.2.2.2.2 s.1 s.2.1 s.2.2.1 s.2.2.2.1 s.2.2.2.2.1 s.2.2.2.2.2.1 s.2.2.2.2.2.2.1 s.2.2.2.2.2.2.2.1 s.2.2.2.2.2.2.2.2.1 (d8 s).2.1 (d8 s).2.2.1 (d8 s).2.2.2.1 (d8 s).2.2.2.2.1 (d8 s).2.2.2.2.2.1 (d8 s).2.2.2.2.2.2.1 (d8 s).2.2.2.2.2.2.2.1 (d8 (d8 s)).1 (d8 (d8 s)).2.1 (d8 (d8 s)).2.2.1 (d8 (d8 s)).2.2.2.1 (d8 (d8 s)).2.2.2.2.1 (d8 (d8 s)).2.2.2.2.2.1 (d8 (d8 s)).2.2.2.2.2.2.1 (d8 (d8 s)).2.2.2.2.2.2.2.1 (d8 (d8 (d8 s))).1 (d8 (d8 (d8 s))).2.1 (d8 (d8 (d8 s))).2.2.1 (d8 (d8 (d8 s))).2.2.2.1 (d8 (d8 (d8 s))).2.2.2.2.1 (d8 (d8 (d8 s))).2.2.2.2.2.1 (d8 (d8 (d8 s))).2.2.2.2.2.2.1 (d8 (d8 (d8 s))).2.2.2.2.2.2.2.1 (d8 (d8 (d8 (d8 s)))).1 (d8 (d8 (d8 (d8 s)))).2.1 (d8 (d8 (d8 (d8 s)))).2.2.1 (d8 (d8 (d8 (d8 s)))).2.2.2.1 (d8 (d8 (d8 (d8 s)))).2.2.2.2.1 (d8 (d8 (d8 (d8 s)))).2.2.2.2.2.1 (d8 (d8 (d8 (d8 s)))).2.2.2.2.2.2.1 (d8 (d8 (d8 (d8 s)))).2.2.2.2.2.2.2.1 (d8 (d8 (d8 (d8 (d8 s))))).1 (d8 (d8 (d8 (d8 (d8 s))))).2.1 (d8 (d8 (d8 (d8 (d8 s))))).2.2.1 (d8 (d8 (d8 (d8 (d8 s))))).2.2.2.1 (d8 (d8 (d8 (d8 (d8 s))))).2.2.2.2.1⟩
theorem nb:tY M4:=
 agE (.s (.s (.j ⟨[],[]⟩ .o .o))) call200 func200 (al uE ao)
def aeT:au:=⟨261,[aO],(.cB [aO,aq]),[],λs=>K2 s⟩
theorem Gw:Ko aeT:=
 ay .o call261 func261 ao
def aiq:au:=⟨260,[AG,Pr,aO],(.cB [jj,aq]),[],U3 abQ⟩
theorem aaB:Ko aiq:=
 ba (.c .o (.l ⟨[(true,12,agS),(false,32,aq)],[]⟩ (.c (.r [] (.c (.c (.l ⟨[(false,9,aq),(true,10012,agS)],[]⟩ (.c (.n 4 (.c .o .o)) .o)) .o) (.r [70000,12] .o))) .o))) call260 func260 (al Gw (al tr (al IX (al MA (al dz (al CA ao)))))) ao (al aa4 ao) λ_=>by kernel_rfl
def IM:bO:=⟨236,[(.bx 290 0 false QL7),(.own B6 370 true),aO],Vt,none,false,false,(.own B6 370 true),[],λs=>jf (d8 (d8 (d8 (d8 (d8 s))))).2.2.2.2.2.1 (d8 (d8 (d8 (d8 (d8 s))))).2.2.2.2.2.2 s.1 s.2.1 s.2.2.1 s.2.2.2.1 s.2.2.2.2.1 s.2.2.2.2.2.1 s.2.2.2.2.2.2.1 s.2.2.2.2.2.2.2.1 s.2.2.2.2.2.2.2.2.1 (d8 s).2.1 (d8 s).2.2.1 (d8 s).2.2.2.1 (d8 s).2.2.2.2.1 (d8 s).2.2.2.2.2.1 (d8 s).2.2.2.2.2.2.1 (d8 s).2.2.2.2.2.2.2.1 (d8 (d8 s)).1 (d8 (d8 s)).2.1 (d8 (d8 s)).2.2.1 (d8 (d8 s)).2.2.2.1 (d8 (d8 s)).2.2.2.2.1 (d8 (d8 s)).2.2.2.2.2.1 (d8 (d8 s)).2.2.2.2.2.2.1 (d8 (d8 s)).2.2.2.2.2.2.2.1 (d8 (d8 (d8 s))).1 (d8 (d8 (d8 s))).2.1 (d8 (d8 (d8 s))).2.2.1 (d8 (d8 (d8 s))).2.2.2.1 (d8 (d8 (d8 s))).2.2.2.2.1 (d8 (d8 (d8 s))).2.2.2.2.2.1 (d8 (d8 (d8 s))).2.2.2.2.2.2.1 (d8 (d8 (d8 s))).2.2.2.2.2.2.2.1 (d8 (d8 (d8 (d8 s)))).1 (d8 (d8 (d8 (d8 s)))).2.1 (d8 (d8 (d8 (d8 s)))).2.2.1 (d8 (d8 (d8 (d8 s)))).2.2.2.1 (d8 (d8 (d8 (d8 s)))).2.2.2.2.1 (d8 (d8 (d8 (d8 s)))).2.2.2.2.2.1 (d8 (d8 (d8 (d8 s)))).2.2.2.2.2.2.1 (d8 (d8 (d8 (d8 s)))).2.2.2.2.2.2.2.1 (d8 (d8 (d8 (d8 (d8 s))))).1 (d8 (d8 (d8 (d8 (d8 s))))).2.1 (d8 (d8 (d8 (d8 (d8 s))))).2.2.1 (d8 (d8 (d8 (d8 (d8 s))))).2.2.2.1 (d8 (d8 (d8 (d8 (d8 s))))).2.2.2.2.1⟩
theorem su:tY IM:=
 agE (.s (.j ⟨[],[]⟩ .o (.r [] (.j ⟨[],[]⟩ .o .o)))) call236 func236 (al aaB ao)
def ag9:au:=⟨237,[Pr,aO],.bool,[],U2 XH⟩
theorem YY:Ko ag9:=
 ay .o call237 func237 (al Gw (al nZ ao))
def CZ:au:=⟨241,[Qk],fH,[],λs=>tR s⟩
theorem yX:Ko CZ:=
 ay .o call241 func241 ao
def H4:au:=⟨120,[aO,aO],.bool,[],U2 kD⟩
theorem kC:Ko H4:=
 ay (.c .o (.l ⟨[(false,13,aq)],[]⟩ .o)) call120 func120 ao
def ace:au:=⟨239,[(.sli B6)],jj,[],λs=>G9 s⟩
theorem Ve:Ko ace:=
 ay (.l ⟨[(false,3,jj),(false,8,aq)],[]⟩ .o) call239 func239 ao
def C7:bO:=⟨238,[Qk,aO,OX,(.bx 336 0 false [Qk])],Yd,none,false,true,fH,[],U4 tZ⟩
theorem Ay:tY C7:=
 agE (.c (.r [80000] .o) .o) call238 func238 (al kC (al Ve ao))
def ak2:au:=⟨324,[aq],jK,[],λs=>Em s⟩
theorem Mj:Ko ak2:=
 ay .o call324 func324 ao
def acN:au:=⟨317,[aq,jK,aj3,adO],fH,[(true,3,adO)],U7 Hf⟩
theorem UY:Ko acN:=
 ay .o call317 func317 ao
def anM:au:=⟨316,[NU,eC,aq,(.fn 317 [] [aj3,adO])],aq,[(true,3,(.fn 317 [] [.same,adO]))],U8 Zc⟩
theorem agn:Ko anM:=
 ay .o call316 func316 (al Mj (al jS (al UY ao)))
def al3:au:=⟨310,[NU,eC,aq],vz,[],U3 Ks⟩
theorem acB:Ko al3:=
 ay .o call310 func310 (al agn ao)
def Rp:au:=⟨304,[ka,jY,aO,aq],vz,[],U4 mb⟩
theorem KR:Ko Rp:=
 ay (.r [5] .o) call304 func304 (al dC (al acB ao))
def am8:au:=⟨355,[K0,fF,aO,aq],(.cB [aq,aq]),[],U4 Dq⟩
theorem Of:Ko am8:=
 ay .o call355 func355 (al dQ (al Aw ao))
def amo:au:=⟨351,[K0,fF,aO,aq],vz,[],U4 Lc⟩
theorem ab6:Ko amo:=
 ay .o call351 func351 (al Of ao)
def Oz:au:=⟨345,[ka,jY,aO,aq],vz,[],U4 lx⟩
theorem JJ:Ko Oz:=
 ay .o call345 func345 (al ab6 ao)
def am6:au:=⟨376,[LD,fF,aO,aq],(.cB [aq,aq]),[],U4 Dn⟩
theorem Pz:Ko am6:=
 ay .o call376 func376 (al dQ (al As ao))
def al6:au:=⟨370,[LD,fF,aO,aq],vz,[],U4 Md⟩
theorem ade:Ko al6:=
 ay .o call370 func370 (al Pz ao)
def PQ:au:=⟨364,[ka,jY,aO,aq],vz,[],U4 kU⟩
theorem Jp:Ko PQ:=
 ay .o call364 func364 (al ade ao)
def W4:au:=⟨398,[jY,aO,aq],aq,[],U3 pD⟩
theorem Bn:Ko W4:=
 ay (.c .o (.r [3] .o)) call398 func398 (al dC (al sQ ao))
def RW:au:=⟨392,[ka,jY,aO,aq],vz,[],U4 mu⟩
theorem K4:Ko RW:=
 ay (.c .o (.r [5] .o)) call392 func392 (al Bn (al dC (al sQ ao)))
def alA:au:=⟨436,[ym,eC,aq],aq,[],U3 VN⟩
theorem Mk:Ko alA:=
 ay .o call436 func436 (al vh ao)
def ZK:au:=⟨439,[ym,eC,aq,Y8],fH,[(true,3,Y8)],U4 PX⟩
theorem R3:Ko ZK:=
 ay (.l ⟨[(true,3,Y8),(false,19,aq)],[]⟩ (.c (.r [3] .o) .o)) call439 func439 (al mT ao)
def acX:au:=⟨437,[ym,eC,aq],.bool,[],U3 SQ⟩
theorem Vg:Ko acX:=
 ay .o call437 func437 (al R3 ao)
def alI:au:=⟨432,[ym,eC,aq],vz,[],U3 agL⟩
theorem ac3:Ko alI:=
 ay .o call432 func432 (al Mk (al Vg ao))
def Ri:au:=⟨426,[ka,jY,aO,aq],vz,[],U4 rO⟩
theorem K5:Ko Ri:=
 ay (.r [5] .o) call426 func426 (al dC (al ac3 ao))
def aic:au:=⟨22,[jY,aO,aq],vz,[],U3 gC⟩
theorem I8:Ko aic:=
 ay (.c .o (.r [3] .o)) call22 func22 (al dQ (al u7 (al KR (al JJ (al Jp (al K4 (al K5 ao)))))))
def ado:au:=⟨322,[aq,jK,aj3,aki],fH,[(true,3,(.bx 59 0 true [.same,.same,.same,eC]))],λs=>Hw s.1 s.2.1 s.2.2.1 s.2.2.2.1 s.2.2.2.2.1 s.2.2.2.2.2.1 s.2.2.2.2.2.2.1 s.2.2.2.2.2.2.2.1 s.2.2.2.2.2.2.2.2.1 (d8 s).2⟩
theorem Uo:Ko ado:=
 ay .o call322 func322 (al eP ao)
def aeu:au:=⟨316,[NU,eC,aq,(.fn 322 [] [aj3,aki])],aq,[(true,3,(.fn 322 [] [.same,aki]))],λs=>Kb s.1 s.2.1 s.2.2.1 s.2.2.2.1 s.2.2.2.2.1 s.2.2.2.2.2.1 s.2.2.2.2.2.2.1 s.2.2.2.2.2.2.2.1 s.2.2.2.2.2.2.2.2.1 (d8 s).2.1 (d8 s).2.2⟩
theorem Wh:Ko aeu:=
 ay .o call316 func316 (al Mj (al jS (al Uo ao)))
def akp:au:=⟨314,[NU,eC,aq],(.cB [NU,aq]),[],U3 L7⟩
theorem acG:Ko akp:=
 ay .o call314 func314 (al Wh ao)
def R4:au:=⟨308,[ka,jY,aO,aq],CJ,[],U4 mB⟩
theorem KA:Ko R4:=
 ay (.r [40000] .o) call308 func308 (al dC (al acG ao))
def akE:au:=⟨354,[K0,fF,aO,aq],(.cB [K0,aq]),[],U4 Ln⟩
theorem adq:Ko akE:=
 ay (.c .o (.r [4] .o)) call354 func354 (al Of (al eP ao))
def Np:au:=⟨349,[ka,jY,aO,aq],CJ,[],U4 lq⟩
theorem JR:Ko Np:=
 ay .o call349 func349 (al adq ao)
def al2:au:=⟨373,[LD,fF,aO,aq],(.cB [LD,aq]),[],U4 Ld⟩
theorem adf:Ko al2:=
 ay (.c .o (.r [4] .o)) call373 func373 (al Pz (al eP ao))
def Nu:au:=⟨368,[ka,jY,aO,aq],CJ,[],U4 lu⟩
theorem JF:Ko Nu:=
 ay .o call368 func368 (al adf ao)
def QX:au:=⟨396,[ka,jY,aO,aq],CJ,[],U4 mL⟩
theorem KN:Ko QX:=
 ay (.c .o (.r [5] .o)) call396 func396 (al Bn (al dC (al Gb ao)))
def Zr:au:=⟨439,[(.dat Ix [none,some 11,none]),eC,(.kB (.int .i64 1)),(.fn 441 [] [])],fH,[(true,0,(.agg [.same,.same,.same,.same,iw,.same]))],U2 N7⟩
theorem Rh:Ko Zr:=
 ay (.l ⟨[(true,0,(.agg [.same,.same,.same,.same,iw,.same])),(false,19,aq)],[]⟩ (.c (.r [4,0] .o) .o)) call439 func439 (al mT ao)
def aav:au:=⟨439,[(.dat Ix [none,none,some 11]),eC,(.kB (.int .i64 2)),(.fn 441 [] [])],fH,[(true,0,(.agg [.same,.same,.same,.same,.same,iw]))],U2 Oe⟩
theorem Rn:Ko aav:=
 ay (.l ⟨[(true,0,(.agg [.same,.same,.same,.same,.same,iw])),(false,19,aq)],[]⟩ (.c (.r [4,0] .o) .o)) call439 func439 (al mT ao)
def acz:au:=⟨438,[ym,eC,aq],ym,[],U3 S3⟩
theorem Um:Ko acz:=
 ay (.r [60000,2,0,0,1,2] (.c .o (.c .o (.c .o (.n 77777 .o))))) call438 func438 (al eP (al Cu (al Rh (al Rn ao))))
def akl:au:=⟨435,[ym,eC,aq],(.cB [ym,aq]),[],U3 ael⟩
theorem ac2:Ko akl:=
 ay .o call435 func435 (al Mk (al Um ao))
def RF:au:=⟨430,[ka,jY,aO,aq],CJ,[],U4 rG⟩
theorem KB:Ko RF:=
 ay (.r [40000] .o) call430 func430 (al dC (al ac2 ao))
def aiE:au:=⟨18,[jY,aO,aq],CJ,[],U3 gB⟩
theorem Jt:Ko aiE:=
 ay (.c .o (.r [3,6] .o)) call18 func18 (al dQ (al u7 (al KA (al JR (al JF (al KN (al KB ao)))))))
def Ni:bO:=⟨240,[QE,aO],Vt,none,false,false,.bool,[(true,0,KX)],λs=>CD (d8 (d8 (d8 (d8 (d8 s))))).2.2.2.2.2 s.1 s.2.1 s.2.2.1 s.2.2.2.1 s.2.2.2.2.1 s.2.2.2.2.2.1 s.2.2.2.2.2.2.1 s.2.2.2.2.2.2.2.1 s.2.2.2.2.2.2.2.2.1 (d8 s).2.1 (d8 s).2.2.1 (d8 s).2.2.2.1 (d8 s).2.2.2.2.1 (d8 s).2.2.2.2.2.1 (d8 s).2.2.2.2.2.2.1 (d8 s).2.2.2.2.2.2.2.1 (d8 (d8 s)).1 (d8 (d8 s)).2.1 (d8 (d8 s)).2.2.1 (d8 (d8 s)).2.2.2.1 (d8 (d8 s)).2.2.2.2.1 (d8 (d8 s)).2.2.2.2.2.1 (d8 (d8 s)).2.2.2.2.2.2.1 (d8 (d8 s)).2.2.2.2.2.2.2.1 (d8 (d8 (d8 s))).1 (d8 (d8 (d8 s))).2.1 (d8 (d8 (d8 s))).2.2.1 (d8 (d8 (d8 s))).2.2.2.1 (d8 (d8 (d8 s))).2.2.2.2.1 (d8 (d8 (d8 s))).2.2.2.2.2.1 (d8 (d8 (d8 s))).2.2.2.2.2.2.1 (d8 (d8 (d8 s))).2.2.2.2.2.2.2.1 (d8 (d8 (d8 (d8 s)))).1 (d8 (d8 (d8 (d8 s)))).2.1 (d8 (d8 (d8 (d8 s)))).2.2.1 (d8 (d8 (d8 (d8 s)))).2.2.2.1 (d8 (d8 (d8 (d8 s)))).2.2.2.2.1 (d8 (d8 (d8 (d8 s)))).2.2.2.2.2.1 (d8 (d8 (d8 (d8 s)))).2.2.2.2.2.2.1 (d8 (d8 (d8 (d8 s)))).2.2.2.2.2.2.2.1 (d8 (d8 (d8 (d8 (d8 s))))).1 (d8 (d8 (d8 (d8 (d8 s))))).2.1 (d8 (d8 (d8 (d8 (d8 s))))).2.2.1 (d8 (d8 (d8 (d8 (d8 s))))).2.2.2.1 (d8 (d8 (d8 (d8 (d8 s))))).2.2.2.2.1⟩
theorem Im:tY Ni:=
 s6 .o call240 func240 (al I8 (al Jt ao)) (al nb ao) ao λ_=>by kernel_rfl
def Jw:bO:=⟨201,[QE,aO,(.fn 240 [(.ptr 0 0)] []),(.fn 238 [] [OX,(.bx 336 0 false [Qk])]),(.fn 241 [] [])],Vt,some Yd,false,true,fH,[(true,0,KX)],λs=>yM (d8 (d8 (d8 (d8 (d8 s))))).2.2.2.2.2.1 s.1 s.2.1 s.2.2.1 s.2.2.2.1 s.2.2.2.2.1 s.2.2.2.2.2.1 s.2.2.2.2.2.2.1 s.2.2.2.2.2.2.2.1 s.2.2.2.2.2.2.2.2.1 (d8 s).2.1 (d8 s).2.2.1 (d8 s).2.2.2.1 (d8 s).2.2.2.2.1 (d8 s).2.2.2.2.2.1 (d8 s).2.2.2.2.2.2.1 (d8 s).2.2.2.2.2.2.2.1 (d8 (d8 s)).1 (d8 (d8 s)).2.1 (d8 (d8 s)).2.2.1 (d8 (d8 s)).2.2.2.1 (d8 (d8 s)).2.2.2.2.1 (d8 (d8 s)).2.2.2.2.2.1 (d8 (d8 s)).2.2.2.2.2.2.1 (d8 (d8 s)).2.2.2.2.2.2.2.1 (d8 (d8 (d8 s))).1 (d8 (d8 (d8 s))).2.1 (d8 (d8 (d8 s))).2.2.1 (d8 (d8 (d8 s))).2.2.2.1 (d8 (d8 (d8 s))).2.2.2.2.1 (d8 (d8 (d8 s))).2.2.2.2.2.1 (d8 (d8 (d8 s))).2.2.2.2.2.2.1 (d8 (d8 (d8 s))).2.2.2.2.2.2.2.1 (d8 (d8 (d8 (d8 s)))).1 (d8 (d8 (d8 (d8 s)))).2.1 (d8 (d8 (d8 (d8 s)))).2.2.1 (d8 (d8 (d8 (d8 s)))).2.2.2.1 (d8 (d8 (d8 (d8 s)))).2.2.2.2.1 (d8 (d8 (d8 (d8 s)))).2.2.2.2.2.1 (d8 (d8 (d8 (d8 s)))).2.2.2.2.2.2.1 (d8 (d8 (d8 (d8 s)))).2.2.2.2.2.2.2.1 (d8 (d8 (d8 (d8 (d8 s))))).1 (d8 (d8 (d8 (d8 (d8 s))))).2.1 (d8 (d8 (d8 (d8 (d8 s))))).2.2.1 (d8 (d8 (d8 (d8 (d8 s))))).2.2.2.1 (d8 (d8 (d8 (d8 (d8 s))))).2.2.2.2.1 (d8 (d8 (d8 (d8 (d8 s))))).2.2.2.2.2.2.1 (d8 (d8 (d8 (d8 (d8 s))))).2.2.2.2.2.2.2⟩
theorem Ff:tY Jw:=
 s6 (.l ⟨[(true,0,KX),(false,11,(.own B6 370 true))],[]⟩ .o) call201 func201 (al yX ao) (al su (al Ay (al Im ao))) ao λ_=>by kernel_rfl
def Hp:bO:=⟨203,[QE,Qk],Vt,some Yd,false,true,fH,[(true,0,KX)],λs=>wT (d8 (d8 (d8 (d8 (d8 s))))).2.2.2.2.2 s.1 s.2.1 s.2.2.1 s.2.2.2.1 s.2.2.2.2.1 s.2.2.2.2.2.1 s.2.2.2.2.2.2.1 s.2.2.2.2.2.2.2.1 s.2.2.2.2.2.2.2.2.1 (d8 s).2.1 (d8 s).2.2.1 (d8 s).2.2.2.1 (d8 s).2.2.2.2.1 (d8 s).2.2.2.2.2.1 (d8 s).2.2.2.2.2.2.1 (d8 s).2.2.2.2.2.2.2.1 (d8 (d8 s)).1 (d8 (d8 s)).2.1 (d8 (d8 s)).2.2.1 (d8 (d8 s)).2.2.2.1 (d8 (d8 s)).2.2.2.2.1 (d8 (d8 s)).2.2.2.2.2.1 (d8 (d8 s)).2.2.2.2.2.2.1 (d8 (d8 s)).2.2.2.2.2.2.2.1 (d8 (d8 (d8 s))).1 (d8 (d8 (d8 s))).2.1 (d8 (d8 (d8 s))).2.2.1 (d8 (d8 (d8 s))).2.2.2.1 (d8 (d8 (d8 s))).2.2.2.2.1 (d8 (d8 (d8 s))).2.2.2.2.2.1 (d8 (d8 (d8 s))).2.2.2.2.2.2.1 (d8 (d8 (d8 s))).2.2.2.2.2.2.2.1 (d8 (d8 (d8 (d8 s)))).1 (d8 (d8 (d8 (d8 s)))).2.1 (d8 (d8 (d8 (d8 s)))).2.2.1 (d8 (d8 (d8 (d8 s)))).2.2.2.1 (d8 (d8 (d8 (d8 s)))).2.2.2.2.1 (d8 (d8 (d8 (d8 s)))).2.2.2.2.2.1 (d8 (d8 (d8 (d8 s)))).2.2.2.2.2.2.1 (d8 (d8 (d8 (d8 s)))).2.2.2.2.2.2.2.1 (d8 (d8 (d8 (d8 (d8 s))))).1 (d8 (d8 (d8 (d8 (d8 s))))).2.1 (d8 (d8 (d8 (d8 (d8 s))))).2.2.1 (d8 (d8 (d8 (d8 (d8 s))))).2.2.2.1 (d8 (d8 (d8 (d8 (d8 s))))).2.2.2.2.1⟩
theorem CO:tY Hp:=
 s6 .o call203 func203 (al YY ao) (al Ff ao) ao λ_=>by kernel_rfl
def CL:au:=⟨202,[Qk,aO],fH,[],U2 tU⟩
theorem Ah:Ko CL:=
 ay .o call202 func202 ao
def OD:bO:=⟨201,[QE,aO,(.fn 200 [(.ptr 0 0)] []),(.fn 202 [] []),(.fn 203 [(.ptr 0 0)] [])],Vt,some Yd,false,false,fH,[(true,0,KX)],λs=>DH (d8 (d8 (d8 (d8 (d8 s))))).2.2.2.2.2 s.1 s.2.1 s.2.2.1 s.2.2.2.1 s.2.2.2.2.1 s.2.2.2.2.2.1 s.2.2.2.2.2.2.1 s.2.2.2.2.2.2.2.1 s.2.2.2.2.2.2.2.2.1 (d8 s).2.1 (d8 s).2.2.1 (d8 s).2.2.2.1 (d8 s).2.2.2.2.1 (d8 s).2.2.2.2.2.1 (d8 s).2.2.2.2.2.2.1 (d8 s).2.2.2.2.2.2.2.1 (d8 (d8 s)).1 (d8 (d8 s)).2.1 (d8 (d8 s)).2.2.1 (d8 (d8 s)).2.2.2.1 (d8 (d8 s)).2.2.2.2.1 (d8 (d8 s)).2.2.2.2.2.1 (d8 (d8 s)).2.2.2.2.2.2.1 (d8 (d8 s)).2.2.2.2.2.2.2.1 (d8 (d8 (d8 s))).1 (d8 (d8 (d8 s))).2.1 (d8 (d8 (d8 s))).2.2.1 (d8 (d8 (d8 s))).2.2.2.1 (d8 (d8 (d8 s))).2.2.2.2.1 (d8 (d8 (d8 s))).2.2.2.2.2.1 (d8 (d8 (d8 s))).2.2.2.2.2.2.1 (d8 (d8 (d8 s))).2.2.2.2.2.2.2.1 (d8 (d8 (d8 (d8 s)))).1 (d8 (d8 (d8 (d8 s)))).2.1 (d8 (d8 (d8 (d8 s)))).2.2.1 (d8 (d8 (d8 (d8 s)))).2.2.2.1 (d8 (d8 (d8 (d8 s)))).2.2.2.2.1 (d8 (d8 (d8 (d8 s)))).2.2.2.2.2.1 (d8 (d8 (d8 (d8 s)))).2.2.2.2.2.2.1 (d8 (d8 (d8 (d8 s)))).2.2.2.2.2.2.2.1 (d8 (d8 (d8 (d8 (d8 s))))).1 (d8 (d8 (d8 (d8 (d8 s))))).2.1 (d8 (d8 (d8 (d8 (d8 s))))).2.2.1 (d8 (d8 (d8 (d8 (d8 s))))).2.2.2.1 (d8 (d8 (d8 (d8 (d8 s))))).2.2.2.2.1⟩
theorem Jd:tY OD:=
 s6 (.l ⟨[(true,0,KX),(false,11,(.own B6 370 true))],[]⟩ .o) call201 func201 (al Ah ao) (al su (al CO (al nb ao))) ao λ_=>by kernel_rfl
def MO:bO:=⟨145,[QE],Vt,some Yd,false,false,fH,[(true,0,KX)],λs=>Ct s.1 s.2.1 s.2.2.1 s.2.2.2.1 s.2.2.2.2.1 s.2.2.2.2.2.1 s.2.2.2.2.2.2.1 s.2.2.2.2.2.2.2.1 s.2.2.2.2.2.2.2.2.1 (d8 s).2.1 (d8 s).2.2.1 (d8 s).2.2.2.1 (d8 s).2.2.2.2.1 (d8 s).2.2.2.2.2.1 (d8 s).2.2.2.2.2.2.1 (d8 s).2.2.2.2.2.2.2.1 (d8 (d8 s)).1 (d8 (d8 s)).2.1 (d8 (d8 s)).2.2.1 (d8 (d8 s)).2.2.2.1 (d8 (d8 s)).2.2.2.2.1 (d8 (d8 s)).2.2.2.2.2.1 (d8 (d8 s)).2.2.2.2.2.2.1 (d8 (d8 s)).2.2.2.2.2.2.2.1 (d8 (d8 (d8 s))).1 (d8 (d8 (d8 s))).2.1 (d8 (d8 (d8 s))).2.2.1 (d8 (d8 (d8 s))).2.2.2.1 (d8 (d8 (d8 s))).2.2.2.2.1 (d8 (d8 (d8 s))).2.2.2.2.2.1 (d8 (d8 (d8 s))).2.2.2.2.2.2.1 (d8 (d8 (d8 s))).2.2.2.2.2.2.2.1 (d8 (d8 (d8 (d8 s)))).1 (d8 (d8 (d8 (d8 s)))).2.1 (d8 (d8 (d8 (d8 s)))).2.2.1 (d8 (d8 (d8 (d8 s)))).2.2.2.1 (d8 (d8 (d8 (d8 s)))).2.2.2.2.1 (d8 (d8 (d8 (d8 s)))).2.2.2.2.2.1 (d8 (d8 (d8 (d8 s)))).2.2.2.2.2.2.1 (d8 (d8 (d8 (d8 s)))).2.2.2.2.2.2.2.1 (d8 (d8 (d8 (d8 (d8 s))))).1 (d8 (d8 (d8 (d8 (d8 s))))).2.1 (d8 (d8 (d8 (d8 (d8 s))))).2.2.1 (d8 (d8 (d8 (d8 (d8 s))))).2.2.2.1 (d8 (d8 (d8 (d8 (d8 s))))).2.2.2.2⟩
theorem HO:tY MO:=
 s6 (.r [] (.l ⟨[(true,0,KX),(false,14,aq)],[]⟩ .o)) call145 func145 (al aai ao) (al nb (al Jd ao)) ao λ_=>by kernel_rfl
def ahw:au:=⟨87,[AG,Pr,AQ],(.cB [.bool,Zm,aq,aO]),[],U3 abn⟩
theorem am3:(⟨144,Tryz.f144⟩:lJ).Ok X0.P:=⟨call144,func144⟩
theorem Y7:Ko ahw:=
 ba (.c (.r [6,7,8,9] .o) .o) call87 func87 (al UP (al tM ao)) (al HO ao) (al am3 ao) λ_=>by kernel_rfl
def aco:au:=⟨146,[aO],aO,[],λs=>Uc s⟩
theorem Uw:Ko aco:=
 ay .o call146 func146 ao
def Mf:au:=⟨147,[xC,(.fn 146 [] [])],jj,[],λs=>s5 s⟩
theorem F5:Ko Mf:=
 ay (.l ⟨[(false,5,jj),(false,10,aq)],[]⟩ .o) call147 func147 (al Uw ao)
def amg:au:=⟨88,[Zm],Zm,[],λs=>aha s⟩
theorem adp:Ko amg:=
 ay (.r [2] .o) call88 func88 (al F5 ao)
def Fs:au:=⟨117,[(.sli ni)],jj,[],λs=>om s⟩
theorem pG:Ko Fs:=
 ay (.l ⟨[(false,3,aq),(false,11,aq)],[]⟩ (.c .o (.l ⟨[(false,6,jj),(false,27,aq)],[]⟩ .o))) call117 func117 (al ana ao)
def Z2:au:=⟨119,[aO,akL],.bool,[],U6 NN⟩
theorem RJ:Ko Z2:=
 ay .o call119 func119 (al dQ ao)
def Jf:au:=⟨118,[xC,(.fn 119 [] [akL])],eU,[],U6 yO⟩
theorem Ei:Ko Jf:=
 ay (.l ⟨[(false,5,eU),(false,10,aq)],[]⟩ .o) call118 func118 (al RJ ao)
def RD:au:=⟨124,[aO,OX],.bool,[],U2 Gh⟩
theorem KO:Ko RD:=
 ay .o call124 func124 (al kC ao)
def B9:au:=⟨173,[xC,(.fn 124 [] [OX])],aq,[],U2 sY⟩
theorem yD:Ko B9:=
 ay (.l ⟨[(false,8,aq)],[]⟩ .o) call173 func173 (al KO ao)
def yF:au:=⟨123,[xC,(.fn 124 [] [OX])],.bool,[],U2 oB⟩
theorem vo:Ko yF:=
 ay .o call123 func123 (al yD ao)
def aaT:au:=⟨122,[aO,aO,akL],.bool,[],U7 NZ⟩
theorem RY:Ko aaT:=
 ay .o call122 func122 (al tr (al vo ao))
def VE:au:=⟨121,[xC,(.fn 122 [] [akL])],.bool,[],U6 IS⟩
theorem Nc:Ko VE:=
 ay (.l ⟨[(false,5,aq)],[]⟩ (.c (.r [1] .o) .o)) call121 func121 (al RY ao)
def ah9:au:=⟨65,[AG,Zm],.bool,[],U2 NQ⟩
theorem Zu:Ko ah9:=
 ay (.c .o (.r [] (.r [6] .o))) call65 func65 (al pG (al Ei (al iA (al kC (al Nc ao)))))
def afZ:au:=⟨67,[Zm],(.dat (.p ni bc) [some 61]),[],λs=>Lk s⟩
theorem Xf:Ko afZ:=
 ay (.r [2] .o) call67 func67 (al pG ao)
def aos:au:=⟨174,[gW],.bool,[],λs=>aak s⟩
def OZ(a:Ex->Ex)(f:Sh->(R:Type)->Option R->Option R)(e:Ex):zo:= (mw (a e)).bind λd=> aj (d.2.1==0) λb8=> aj (d.1==2) λc=> aj (b8&&c) λb=> some b
theorem agJ:Ko aos:=
 ba .o call174 func174 (al tP ao) ao ao λs=>(show _=OZ bq aN s from by kernel_rfl).trans ((congrArg (λa=>OZ a aN s) aK).trans ((congrArg (λb=>OZ id b s) aQ).trans (by kernel_rfl)))
def ag8:au:=⟨176,[aq,Y4,NK],.bool,[],U7 Xm⟩
theorem X9:Ko ag8:=
 ay .o call176 func176 (al tD ao)
def al5:au:=⟨175,[aq,(.fn 176 [] [Y4,NK])],eU,[],U7 UN⟩
theorem acu:Ko al5:=
 ay (.l ⟨[(true,5,eU),(false,11,aq)],[]⟩ .o) call175 func175 (al X9 ao)
def ahk:au:=⟨180,[aq,kF],.bool,[],U2 WM⟩
theorem Yl:Ko ahk:=
 ay .o call180 func180 ao
def acC:au:=⟨175,[aq,(.fn 180 [] [kF])],eU,[],U2 Sz⟩
theorem UW:Ko acC:=
 ay (.l ⟨[(true,5,eU),(false,11,aq)],[]⟩ .o) call175 func175 (al Yl ao)
def afx:au:=⟨181,[aq,kF,kF],.bool,[],U3 XJ⟩
theorem Yb:Ko afx:=
 ay .o call181 func181 ao
def ac5:au:=⟨175,[aq,(.fn 181 [] [kF,kF])],eU,[],U3 SW⟩
theorem UQ:Ko ac5:=
 ay (.l ⟨[(true,5,eU),(false,11,aq)],[]⟩ .o) call175 func175 (al Yb ao)
def afI:au:=⟨182,[aq,kF,kF],.bool,[],U3 XZ⟩
theorem XP:Ko afI:=
 ay .o call182 func182 ao
def acf:au:=⟨175,[aq,(.fn 182 [] [kF,kF])],eU,[],U3 S5⟩
theorem VR:Ko acf:=
 ay (.l ⟨[(true,5,eU),(false,11,aq)],[]⟩ .o) call175 func175 (al XP ao)
def aea:au:=⟨183,[aq,kF,kF],.bool,[],U3 WU⟩
theorem Xj:Ko aea:=
 ay .o call183 func183 ao
def adb:au:=⟨175,[aq,(.fn 183 [] [kF,kF])],eU,[],U3 S2⟩
theorem Vf:Ko adb:=
 ay (.l ⟨[(true,5,eU),(false,11,aq)],[]⟩ .o) call175 func175 (al Xj ao)
def aeb:au:=⟨184,[aq,kF,kF],.bool,[],U3 YX⟩
theorem WG:Ko aeb:=
 ay .o call184 func184 ao
def adl:au:=⟨175,[aq,(.fn 184 [] [kF,kF])],eU,[],U3 SR⟩
theorem UB:Ko adl:=
 ay (.l ⟨[(true,5,eU),(false,11,aq)],[]⟩ .o) call175 func175 (al WG ao)
def ak8:au:=⟨186,[Nz,aq],aq,[],U2 Lq⟩
theorem BL:Ko ak8:=
 ay .o call186 func186 ao
def aez:au:=⟨185,[aq,kF,NK],.bool,[],U4 Xz⟩
theorem Yt:Ko aez:=
 ay .o call185 func185 (al BL ao)
def acm:au:=⟨175,[aq,(.fn 185 [] [kF,NK])],eU,[],U4 Sx⟩
theorem Vl:Ko acm:=
 ay (.l ⟨[(true,5,eU),(false,11,aq)],[]⟩ .o) call175 func175 (al Yt ao)
def YB:au:=⟨179,[aq,QD],.bool,[],U2 MD⟩
theorem PF:Ko YB:=
 ay .o call179 func179 ao
def acs:au:=⟨175,[aq,(.fn 179 [] [QD])],eU,[],U2 Ss⟩
theorem UT:Ko acs:=
 ay (.l ⟨[(true,5,eU),(false,11,aq)],[]⟩ .o) call175 func175 (al PF ao)
def ags:au:=⟨178,[.bool,(.bx 3 0 false [aq])],eU,[],U2 Lz⟩
theorem W5:Ko ags:=
 ay .o call178 func178 (al UT ao)
def aa0:au:=⟨248,[aq,QD],.bool,[],U2 OF⟩
theorem Ro:Ko aa0:=
 ay .o call248 func248 ao
def ada:au:=⟨175,[aq,(.fn 248 [] [QD])],eU,[],U2 HC⟩
theorem Dy:Ko ada:=
 ay (.l ⟨[(true,5,eU),(false,11,aq)],[]⟩ .o) call175 func175 (al Ro ao)
def QQ:au:=⟨226,[aq,(.own .bo 4 false),Ns,Ns,NK],.bool,[],U6 GX⟩
theorem LY:Ko QQ:=
 ay .o call226 func226 (al BL ao)
def Z9:au:=⟨249,[aq,(.bx 353 0 false [alr]),kF],.bool,[],λs=>N0 s.1 s.2.2.2.2.2 s.2.1 s.2.2.1 s.2.2.2.1 s.2.2.2.2.1⟩
theorem R7:Ko Z9:=
 ay .o call249 func249 (al LY ao)
def aan:au:=⟨175,[aq,(.fn 249 [] [(.bx 353 0 false [alr]),kF])],eU,[],λs=>OU s.1 s.2.2.2.2.2 s.2.1 s.2.2.1 s.2.2.2.1 s.2.2.2.2.1⟩
theorem QY:Ko aan:=
 ay (.l ⟨[(true,5,eU),(false,11,aq)],[]⟩ .o) call175 func175 (al R7 ao)
def yb:au:=⟨250,[(.own .bo 4 false),(.own .bo 4 false)],.bool,[],U2 ji⟩
theorem kN:Ko yb:=
 ay (.c .o (.l ⟨[(false,13,aq)],[]⟩ .o)) call250 func250 ao
def ahp:au:=⟨225,[Nz,.bool,alr],eU,[],U6 abJ⟩
theorem aaF:Ko ahp:=
 ay (.n 0 (.j ⟨[(true,7,(.bx 323 0 true [eU]))],[]⟩ .o .o)) call225 func225 (al Dy (al QY (al kN ao)))
def ahU:au:=⟨187,[Nz,(.sli .bo),(.sli .bo)],eU,[],U3 PE⟩
theorem aac:Ko ahU:=
 ay .o call187 func187 (al aaF ao)
def No:au:=⟨227,[aq,(.own .bo 4 false),Ns,Ns,NK],.bool,[],U6 Cs⟩
theorem Hv:Ko No:=
 ay .o call227 func227 (al BL ao)
def Rm:au:=⟨249,[aq,(.bx 353 0 false [ame]),kF],.bool,[],λs=>GF s.1 s.2.2.2.2.2 s.2.1 s.2.2.1 s.2.2.2.1 s.2.2.2.2.1⟩
theorem K3:Ko Rm:=
 ay .o call249 func249 (al Hv ao)
def aaf:au:=⟨175,[aq,(.fn 249 [] [(.bx 353 0 false [ame]),kF])],eU,[],λs=>PG s.1 s.2.2.2.2.2 s.2.1 s.2.2.1 s.2.2.2.1 s.2.2.2.2.1⟩
theorem QU:Ko aaf:=
 ay (.l ⟨[(true,5,eU),(false,11,aq)],[]⟩ .o) call175 func175 (al K3 ao)
def Y9:au:=⟨225,[Nz,.bool,ame],eU,[],U6 NV⟩
theorem Rw:Ko Y9:=
 ay (.n 0 (.j ⟨[(true,7,(.bx 323 0 true [eU]))],[]⟩ .o .o)) call225 func225 (al Dy (al QU (al kN ao)))
def acx:au:=⟨188,[Nz,(.sli .bo),(.sli .bo)],eU,[],U3 Iq⟩
theorem VS:Ko acx:=
 ay .o call188 func188 (al Rw ao)
def aa8:au:=⟨125,[gW,Nz],eU,[],U2 ZW⟩
def G7(b:Ex->Ex)(o:Sh->(R:Type)->Option R->Option R)(m:(Ex×iW)->Option aX)(e:Ex)(c:iW):Option aX:= (aak (b e)).bind λj=> bif j then ( (UN (c.1.length:Int) e.op e.n e.at_ e.l c.1 c.2).bind λi=> some i) else ( (idx e.l 0).bind λk=> (m ((b k),c)).bind λh=> aj (λ(d:aX)=>YA e c h d) λa=> bif decide (1<(List.length e.l:Int)) then (idx e.l 1).bind λg=> (m ((b g),c)).bind λf=> a f else a [])
def abd:adZ->adZ:=λa s=>abm a s.1 s.2
theorem ZC(a:adZ)(b:awa a):(CP (abd a)).Ok X0.P X0.Γ:=
 ba (.c .o (.r [40000] (.s (.j ⟨[(true,7,(.bx 323 0 true [eU]))],[]⟩ (.c (.r [7] .o) .o) (.c .o (.c .o (.c .o (.c .o (.c .o (.c .o (.c (.r [6,8] .o) (.c (.r [6,8] .o) .o)))))))))))) call125 func125 (al agJ (al acu (al b (al UW (al UQ (al VR (al Vf (al UB (al Vl (al W5 (al aac (al VS ao)))))))))))) ao ao λs=>(show _=G7 bq aN a s.1 s.2 from by kernel_rfl).trans ((congrArg (λd=>G7 d aN a s.1 s.2) aK).trans ((congrArg (λe=>G7 id e a s.1 s.2) aQ).trans (by kernel_rfl)))
theorem aeg:Ko aa8:=(show aa8=CP (ax (abd) aA) by kernel_rfl)▸eZ (X:=X0) (E:=CP) ⟨call125,λ_ _ h=>nomatch h⟩ (ZC) aA
def aif:au:=⟨66,[gW,Nz],.bool,[],U2 PL⟩
def Iu(a:Ex->Ex)(f:Sh->(R:Type)->Option R->Option R)(e:Ex)(c:iW):zo:= (ZW (a e) c).bind λd=> (idx d 0).bind λb=> some b
theorem aaq:Ko aif:=
 ba .o call66 func66 (al aeg ao) ao ao λs=>(show _=Iu bq aN s.1 s.2 from by kernel_rfl).trans ((congrArg (λa=>Iu a aN s.1 s.2) aK).trans ((congrArg (λb=>Iu id b s.1 s.2) aQ).trans (by kernel_rfl)))
def adj:au:=⟨27,[AG,gW,Zm],.bool,[],U3 AL⟩
def B7(d:Ex->Ex)(h:Sh->(R:Type)->Option R->Option R)(m:tX)(e:Ex)(l:xk):zo:= (NQ m l).bind λa=> bm a default (Lk l) λc=> bm a default (PL (d e) c) λb=> aj (!b) λg=> aj (a&&g) λf=> some f
theorem Eu:Ko adj:=
 ba .o call27 func27 (al Zu (al Xf (al aaq ao))) ao ao λs=>(show _=B7 bq aN s.1 s.2.1 s.2.2 from by kernel_rfl).trans ((congrArg (λa=>B7 a aN s.1 s.2.1 s.2.2) aK).trans ((congrArg (λb=>B7 id b s.1 s.2.1 s.2.2) aQ).trans (by kernel_rfl)))
def MM:au:=⟨38,[alW],.bool,[(true,0,(.bx 115 0 true [.same,.same,.same,.same,.same,.same,.same,.same,.same,.same,.same,.same,.same,.same,.same,.same,.same,aq,aq,aq,aO,xC,xC]))],λs=>Cr s.1 s.2.1 s.2.2.1 s.2.2.2.1 s.2.2.2.2.1 s.2.2.2.2.2.1 s.2.2.2.2.2.2.1 s.2.2.2.2.2.2.2.1 s.2.2.2.2.2.2.2.2.1 (d8 s).2.1 (d8 s).2.2.1 (d8 s).2.2.2.1 (d8 s).2.2.2.2.1 (d8 s).2.2.2.2.2.1 (d8 s).2.2.2.2.2.2.1 (d8 s).2.2.2.2.2.2.2.1 (d8 (d8 s)).1 (d8 (d8 s)).2.1 (d8 (d8 s)).2.2.1 (d8 (d8 s)).2.2.2.1 (d8 (d8 s)).2.2.2.2.1 (d8 (d8 s)).2.2.2.2.2.1 (d8 (d8 s)).2.2.2.2.2.2⟩
theorem IA:Ko MM:=
 ay (.r [40000] (.c .o (.r [40000] .o))) call38 func38 (al ye (al Y7 (al jv (al adp (al Eu ao)))))
def acj:au:=⟨8,[.str,.str,AQ],(.dat Vp [none,none,none]),[],U3 pT⟩
theorem aqh:(⟨34,Tryz.f34⟩:lJ).Ok X0.P:=⟨call34,func34⟩
theorem Ey:Ko acj:=
 ba (.n 50 .o) call8 func8 (al wY (al He (al El (al IA ao)))) ao (al aqh ao) λ_=>by kernel_rfl
def aey:au:=⟨127,[.str],(.sli .s),[],λs=>YS s⟩
theorem YG:Ko aey:=
 ay .o call127 func127 (al aqd ao)
def ab8:au:=⟨129,[.str],Ed,[],λs=>S7 s⟩
theorem U1:Ko ab8:=
 ay (.c .o (.l ⟨[(false,4,aq),(false,16,aq)],[]⟩ .o)) call129 func129 ao
def Zb:au:=⟨69,[.str],(.cB [AQ,.bool]),[],λs=>Pn s⟩
theorem Rk:Ko Zb:=
 ay (.c .o (.r [] (.s (.j ⟨[(false,6,aq)],[]⟩ .o (.c .o (.l ⟨[(true,2,(.bx 27 0 true [.same,.same,.same,.same,.same,.same])),(true,7,(.bx 253 0 true [aq,aq,aq,aq,aq])),(false,37,aq)],[]⟩ .o)))))) call69 func69 (al YG (al im (al U1 ao)))
def alu:au:=⟨70,[.str,aO],.str,[],U2 vm⟩
theorem Mz:Ko alu:=
 ay (.l ⟨[(false,0,.str),(false,9,aq)],[]⟩ .o) call70 func70 (al abP ao)
def aia:au:=⟨71,[(.dat Vp [none,none,none])],.str,[],λs=>abB s⟩
theorem ZF:Ko aia:=
 ay (.s (.s (.j ⟨[(true,3,Hg)],[]⟩ .o (.l ⟨[(true,3,Hg),(false,35,aq)],[]⟩ (.c .o (.l ⟨[(true,3,Hg),(false,47,aq)],[]⟩ (.c .o (.j ⟨[(true,3,Hg)],[1]⟩ .o .o)))))))) call71 func71 (al Mz (al kX (al oD ao)))
def ale:au:=⟨28,[.str],.str,[],λs=>V9 s⟩
theorem ads:Ko ale:=
 ay .o call28 func28 (al aqL (al Rk (al Mz (al Ey (al ZF ao)))))
def MN:au:=⟨6,[],.bool,[],λ_=>uH⟩
def rz(j:Ex->Ex)(v:Sh->(R:Type)->Option R->Option R):zo:= (sA [118,97,114,32,120,32,48,32,49,32,48,59,32,112,114,111,99,32,80,32,123,32,116,114,117,101,32,58,32,120,32,61,32,49,32,45,32,120,59,32,125] [71,32,70,32,120,32,61,61,32,49]).bind λh=> (sA [118,97,114,32,120,32,48,32,49,32,48,59,32,112,114,111,99,32,80,32,123,32,116,114,117,101,32,58,32,120,32,61,32,49,32,45,32,120,59,32,125] [70,32,71,32,120,32,61,61,32,49]).bind λg=> aj (h.2 != 0) λu=> aj (g.2 != 0) λt=> aj (u||t) λs=> bif s then ( some false) else ( (pT [118,97,114,32,120,32,48,32,49,32,48,59,32,112,114,111,99,32,80,32,123,32,116,114,117,101,32,58,32,120,32,61,32,49,32,45,32,120,59,32,125] [71,32,70,32,120,32,61,61,32,49] (0,h.1,h.1,0,0,0)).bind λi=> (pT [118,97,114,32,120,32,48,32,49,32,48,59,32,112,114,111,99,32,80,32,123,32,116,114,117,101,32,58,32,120,32,61,32,49,32,45,32,120,59,32,125] [70,32,71,32,120,32,61,61,32,49] (3,g.1,g.1,0,0,0)).bind λc=> (A3 [118,97,114,32,120,32,48,32,49,32,48,59,32,112,114,111,99,32,80,32,123,32,116,114,117,101,32,58,32,120,32,61,32,49,32,45,32,120,59,32,125]).bind λa=> (uZ [70,32,71,32,120,32,61,61,32,49] a.1.1).bind λb=> aj (i.1==1) λr=> aj (c.1==2) λq=> aj (r&&q) λp=> aj (a.2.1==0) λo=> aj (p&&o) λn=> aj (b.2.1==0) λm=> aj (n&&m) λwe=> bm we default (AL a.1 (j b.1) c.2.2.2.2) λf=> aj (we&&f) λd=> bm d default (V9 []) λe=> aj (e==[119,104,97,116,10]) λl=> aj (d&&l) λk=> some k)
theorem Iz:Ko MN:=
 ba .o call6 func6 (al RM (al Ey (al Eo (al Bf (al Eu (al ads ao)))))) ao ao λ_=>(show _=rz bq aN from by kernel_rfl).trans ((congrArg (λa=>rz a aN) aK).trans ((congrArg (λb=>rz id b) aQ).trans (by kernel_rfl)))
def Jv:au:=⟨13,[fF],.bool,[],λs=>lI s⟩
theorem EI:Ko Jv:=
 ay (.c .o (.l ⟨[(false,3,aq)],[]⟩ .o)) call13 func13 ao
def MP:au:=⟨15,[fF,aq],(.cB [(.dat aat [none,some 61,some 295]),aq]),[],U2 nL⟩
theorem Hr:Ko MP:=
 ay .o call15 func15 ao
def adn:au:=⟨313,[NU,eC],.bool,[],U2 A5⟩
theorem V0:Ko adn:=
 ay .o call313 func313 (al jS ao)
def Lo:au:=⟨307,[ka,jY,aO],.bool,[],U3 jN⟩
theorem FL:Ko Lo:=
 ay (.r [4] .o) call307 func307 (al dC (al V0 ao))
def ac8:au:=⟨353,[K0,fF,aO],vz,[],U3 AS⟩
theorem Ul:Ko ac8:=
 ay .o call353 func353 (al dQ (al Aw ao))
def Jm:au:=⟨348,[ka,jY,aO],.bool,[],U3 jg⟩
theorem Ea:Ko Jm:=
 ay .o call348 func348 (al Ul ao)
def adm:au:=⟨372,[LD,fF,aO],vz,[],U3 AY⟩
theorem Vu:Ko adm:=
 ay .o call372 func372 (al dQ (al As ao))
def JY:au:=⟨367,[ka,jY,aO],.bool,[],U3 iZ⟩
theorem DK:Ko JY:=
 ay .o call367 func367 (al Vu ao)
def LA:au:=⟨395,[ka,jY,aO],.bool,[],U3 jF⟩
theorem Fq:Ko LA:=
 ay (.r [4] .o) call395 func395 (al dC (al sQ ao))
def Mc:au:=⟨429,[ka,jY,aO],.bool,[],U3 mP⟩
theorem FQ:Ko Mc:=
 ay (.r [4] .o) call429 func429 (al dC (al vh ao))
def aaH:au:=⟨20,[jY,aO],vz,[],U2 ey⟩
theorem RN:Ko aaH:=
 ay (.c .o (.r [2] .o)) call20 func20 (al dQ (al u7 (al FL (al Ea (al DK (al Fq (al FQ ao)))))))
def OH:au:=⟨54,[fF,aO],aq,[],U2 jh⟩
theorem nU:Ko OH:=
 ay (.c .o (.l ⟨[(false,5,aq)],[]⟩ .o)) call54 func54 ao
def Nn:au:=⟨91,[aO,aO],.bool,[],U2 nP⟩
theorem HG:Ko Nn:=
 ay (.c .o (.l ⟨[(false,5,aq)],[]⟩ .o)) call91 func91 ao
def IP:au:=⟨55,[Pb,aO],aq,[],U2 fu⟩
theorem lA:Ko IP:=
 ay (.l ⟨[(false,5,aq)],[]⟩ .o) call55 func55 (al HG ao)
def Hl:au:=⟨17,[Pb,aO],(.cB [Pb,.bool,aq]),[],U2 fY⟩
theorem C3:Ko Hl:=
 ay (.c .o (.c .o (.c .o (.r [4,40000] .o)))) call17 func17 (al nU (al lA ao))
def HX:au:=⟨21,[Pb,aO],vz,[],U2 fV⟩
theorem CQ:Ko HX:=
 ay .o call21 func21 (al nU (al lA ao))
def OR:au:=⟨56,[Pb,aO,aq],(.cB [aq,aq]),[],U3 jl⟩
theorem wm:Ko OR:=
 ay .o call56 func56 (al nU (al lA ao))
def Nk:au:=⟨23,[Pb,aO,aq],vz,[],U3 iH⟩
theorem Ir:Ko Nk:=
 ay .o call23 func23 (al wm ao)
def MS:au:=⟨19,[Pb,aO,aq],(.cB [Pb,aq]),[],U3 iJ⟩
theorem Ih:Ko MS:=
 ay .o call19 func19 (al wm ao)
end
end Go.Proofs.YtdolcddlmodkkaaGreatDoor
