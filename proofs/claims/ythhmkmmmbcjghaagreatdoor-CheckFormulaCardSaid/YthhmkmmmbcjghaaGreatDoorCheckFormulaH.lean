/- Own texts for CheckFormula, cut and joined by a program. -/
import Derived.Test.YthhmkmmmbcjghaaGreatDoorCheckFormulaG
set_option linter.all false
namespace Go.Proofs.YthhmkmmmbcjghaaGreatDoor
open IntKind (i32 i64)
open Go.Proofs
noncomputable section
set_option maxRecDepth 100000
abbrev Wp:Ty:=(.p (.i .i64) (.p (.l (.p (.i .i64) (.i .i64))) (.p (.i .i64) (.p (.p (.p (.i .i64) (.p (.l (.l (.i .u8))) (.l (.i .i64)))) (.l (.i .u8))) (.p (.p (.l (.p (.i .i64) (.p (.l (.l (.i .u8))) (.l (.i .i64))))) (.p (.p (.i .i64) (.p (.l (.l (.i .u8))) (.l (.i .i64)))) (.l (.i .u8)))) (.p (.p (.l (.p (.i .i64) (.p (.l (.l (.i .u8))) (.l (.i .i64))))) (.l (.i .u8))) (.p (.p (.p (.i .i64) (.p (.l (.p (.l (.p (.i .u8) (.i .i64))) (.i .i64))) (.p (.i .i64) (.p (.i .i64) (.l (.i .i64)))))) (.p (.p (.i .i64) (.p (.l (.p (.l (.p (.i .u8) (.i .i64))) (.i .i64))) (.p (.i .i64) (.p (.i .i64) (.l (.i .i64)))))) (.p (.i .i64) (.p (.l (.p (.l (.p (.i .u8) (.i .i64))) (.i .i64))) (.p (.i .i64) (.p (.i .i64) (.l (.i .i64)))))))) (.p (.i .i64) (.p (.i .i64) (.p (.i .u64) (.p (.l (.i .u8)) (.p (.l (.i .u8)) (.l (.i .u8))))))))))))))
abbrev an:Pt:=(.int .i64)
abbrev bh:Ty:=(.i .i64)
abbrev QL4:List Pt:=(.same:: .same:: .same:: .same:: .same:: .same:: .same:: .same:: .same::an::(.sli (.p bh bh))::an::an::(.sli (.l (.i .u8)))::(.sli bh)::(.sli (.i .u8))::(.sli (.p bh (.p (.l (.l (.i .u8))) (.l bh))))::an::(.sli (.l (.i .u8)))::(.sli bh)::(.sli (.i .u8))::(.sli (.p bh (.p (.l (.l (.i .u8))) (.l bh))))::(.sli (.i .u8))::an::(.sli (.p (.l (.p (.i .u8) bh)) bh))::an::an::(.sli bh)::an::(.sli (.p (.l (.p (.i .u8) bh)) bh))::an::an::(.sli bh)::an::(.sli (.p (.l (.p (.i .u8) bh)) bh))::an::an::(.sli bh)::an::an::(.int .u64)::(.sli (.i .u8))::(.sli (.i .u8))::(.sli (.i .u8)):: .same::[])
abbrev nc:Pt:=(.dat Wp [none,none,none,none,none,none,none,none,none,none,none,none,none,none,none,none,none,none,none])
abbrev QL6:List Pt:=((.sli .s)::(.sli (.p bh bh))::(.sli bh)::(.sli .s)::(.sli (.p bh (.p .ex (.l (.p bh .ex)))))::(.sli (.l .ex))::(.sli (.l bh))::(.sli bh)::(.sli (.l bh))::an::(.sli (.p bh bh))::an::an::(.sli (.l (.i .u8)))::(.sli bh)::(.sli (.i .u8))::(.sli (.p bh (.p (.l (.l (.i .u8))) (.l bh))))::an::(.sli (.l (.i .u8)))::(.sli bh)::(.sli (.i .u8))::(.sli (.p bh (.p (.l (.l (.i .u8))) (.l bh))))::(.sli (.i .u8))::an::(.sli (.p (.l (.p (.i .u8) bh)) bh))::an::an::(.sli bh)::an::(.sli (.p (.l (.p (.i .u8) bh)) bh))::an::an::(.sli bh)::an::(.sli (.p (.l (.p (.i .u8) bh)) bh))::an::an::(.sli bh)::an::an::(.int .u64)::(.sli (.i .u8))::(.sli (.i .u8))::(.sli (.i .u8))::an::[])
abbrev fP:Ty:=(.p bh (.p (.l (.l (.i .u8))) (.l bh)))
abbrev cR:Pt:=(.bx 86 0 true [.same,an,.same,an,an,an])
abbrev jF:Pt:=(.bx 86 0 true [(.own (.p bh (.p .s (.p bh bh))) 53 false),an,(.own .s 9 false),an,an,an])
abbrev aT:Ty:=(.i .u8)
abbrev Om:Ty:=(.p (.l .s) (.p (.l (.p bh bh)) (.p (.l bh) (.p (.l .s) (.l (.p bh (.p .ex (.l (.p bh .ex)))))))))
abbrev fN:Pt:=(.bx 86 0 true [(.sli (.p bh (.p .s (.p bh bh)))),an,(.sli .s),an,an,an])
abbrev akS:Ty:=(.p aT (.p aT (.p aT (.p aT (.p aT (.p aT (.p aT (.p aT (.p aT (.p aT (.p aT (.p aT (.p aT (.p aT (.p aT (.p aT (.p aT (.p aT (.p aT (.p aT (.p aT (.p aT (.p aT (.p aT (.p aT (.p aT (.p aT (.p aT (.p aT (.p aT (.p aT (.p aT (.p aT (.p aT (.p aT (.p aT (.p aT (.p aT (.p aT (.p aT (.p aT (.p aT (.p aT (.p aT (.p aT (.p aT (.p aT (.p aT (.p aT (.p aT (.p aT (.p aT (.p aT (.p aT (.p aT (.p aT (.p aT (.p aT (.p aT (.p aT (.p aT (.p aT (.p aT aT)))))))))))))))))))))))))))))))))))))))))))))))))))))))))))))))
abbrev Iv:Ty:=(.p bh (.p bh (.p (.i .u64) (.p (.l aT) (.p (.l aT) (.l aT))))))
abbrev bI:Pt:=(.dat .ex [some 53])
abbrev gr:Ty:=(.p bh bh)
abbrev mO:Ty:=(.p (.l (.p aT bh)) bh)
abbrev Uz:Ty:=(.p (.l (.l .ex)) (.p (.l (.l bh)) (.p (.l bh) (.l (.l bh)))))
abbrev vh:Ty:=(.p bh (.p .ex (.l (.p bh .ex))))
abbrev aV:Pt:=(.sli bh)
abbrev jc:Pt:=(.own (.l bh) 39 true)
abbrev j4:Ty:=(.p bh (.p .s gr))
abbrev kC:Pt:=(.bx 285 0 false [(.own .bo 4 false)])
abbrev yT:Ty:=(.p bh (.p (.l mO) (.p bh (.p bh (.l bh)))))
abbrev pV:Ty:=(.l (.l bh))
abbrev gH:Pt:=(.own bh 3 true)
abbrev aoW:Ty:=(.p aT (.p aT (.p aT (.p aT (.p aT (.p aT (.p aT (.p aT (.p aT (.p aT (.p aT (.p aT (.p aT (.p aT (.p aT (.p aT (.p aT (.p aT (.p aT (.p aT (.p aT (.p aT (.p aT aT)))))))))))))))))))))))
abbrev Zi:Ty:=(.p bh (.p bh (.p bh (.p (.i .u64) gr))))
abbrev dy:Pt:=(.dat .ex [none])
abbrev afu:Pt:=(.bx 156 0 true [(.own j4 53 false),an,(.own .s 9 false),(.own gr 187 false),(.own bh 3 false),(.own .s 9 false),(.own vh 265 false)])
abbrev wR:Ty:=(.p (.i .u64) (.i .u64))
abbrev ak6:Pt:=(.bx 72 0 true [.str,.str,an,an,an,(.int .u64),an,an,(.sli .s),(.sli gr),aV,(.sli .s),(.sli vh),an,an,an,(.sli .ex),an,an,an,aV,jc,jc])
abbrev iy:Pt:=(.own aT 5 true)
abbrev ak7:Pt:=(.bx 72 0 true [.same,.same,.same,.same,.same,.same,.same,.same,.same,.same,.same,.same,.same,.same,.same,.same,.same,an,an,an,aV,jc,jc])
abbrev eZ:Pt:=(.own .bo 4 true)
abbrev yJ:Pt:=(.dat Om [none,none,none,none,none])
abbrev ajR:Pt:=(.bx 156 0 false [(.own j4 53 false),an,(.own .s 9 false),(.own gr 187 false),(.own bh 3 false),(.own .s 9 false),(.own vh 265 false)])
abbrev O7:Pt:=(.dat (.p (.l fP) (.p fP (.l aT))) [none,none,none,none])
abbrev aaN:Ty:=(.p bh (.p bh (.p bh (.p (.l bh) (.p pV pV)))))
abbrev EG:Pt:=(.bx 26 0 true [.same,.same,.same,.same])
abbrev PK:Pt:=(.bx 203 0 false [(.sli (.l bh)),an])
abbrev dS:Pt:=(.sli aT)
abbrev PG:Pt:=(.bx 285 0 false [(.sli .bo)])
abbrev Ln:Pt:=(.bx 26 0 true [an,an,an,(.own .ex 26 true)])
abbrev UF:Pt:=(.bx 156 0 true [.same,an,.same,.same,.same,.same,.same])
abbrev YV:Ty:=(.p aT (.p aT (.p aT (.p aT (.p aT (.p aT (.p aT aT)))))))
abbrev iL:Ty:=(.l aT)
abbrev wT:Pt:=(.dat Iv [none,none,none])
abbrev adX:Pt:=(.bx 452 0 true [.same,(.own mO 348 true),.same,.same,gH,.same])
abbrev aub:Ty:=(.p (.i .u64) (.p (.i .u64) (.p (.i .u64) (.p (.i .u64) (.p (.i .u64) (.p (.i .u64) (.p (.i .u64) (.p (.i .u64) (.p (.i .u64) (.p (.i .u64) (.p (.i .u64) (.p (.i .u64) (.p (.i .u64) (.p (.i .u64) (.p (.i .u64) (.p (.i .u64) (.p (.i .u64) (.p (.i .u64) wR))))))))))))))))))
abbrev Hi:Pt:=(.ifc 465 (.bx 463 0 true [gH]))
abbrev atI:Pt:=(.bx 128 0 true [an,(.sli gr),an,an,(.sli iL),aV,dS,(.sli fP),an,(.sli iL),aV,dS,(.sli fP),dS,an,(.sli mO),an,an,aV,an,(.sli mO),an,an,aV,an,(.sli mO),an,an,aV,an,an,(.int .u64),dS,dS,dS])
abbrev LL:Pt:=(.bx 169 0 true [(.own .ex 26 true)])
abbrev Pw:Pt:=(.bx 171 0 true [(.own wR 174 true)])
abbrev NR:Pt:=(.dat (.p (.l fP) iL) [none,none])
abbrev Bz:Ty:=(.p (.l bh) pV)
abbrev O1:Pt:=(.dat Uz [none,none,none,none])
abbrev HX:Pt:=(.ifc 152 (.agg [an,an]))
abbrev iN:Pt:=(.sli gr)
abbrev Vb:Pt:=(.dat (.p fP iL) [none,none,none])
abbrev BU:Pt:=(.sli (.l bh))
abbrev Zb:Pt:=(.bx 26 0 false [an,an,an,(.sli .ex)])
abbrev Zh:Pt:=(.bx 77 0 true [.same,.same,.same,.same])
abbrev asY:Ty:=(.p .s (.p .s (.p .s (.p .s (.p .s (.p .s (.p .s (.p .s (.p .s (.p .s (.p .s (.p .s (.p .s (.p .s (.p .s (.p .s (.p .s (.p .s (.p .s (.p .s (.p .s (.p .s (.p .s (.p .s .s))))))))))))))))))))))))
abbrev lV:Ty:=(.p aT bh)
abbrev ajr:Pt:=(.bx 116 0 true [(.own fP 110 true),.same,.same,.same,.same])
abbrev alb:Pt:=(.bx 428 0 true [(.own fP 345 true),(.fn 312 [(.ptr 0 0)] [])])
abbrev ajy:Pt:=(.bx 70 0 false [(.sli .s),iN,aV,(.sli .s),(.sli vh)])
abbrev fD:Pt:=(.cQ [])
abbrev nP:Pt:=(.dat .un [])
abbrev Ik:Pt:=(.dat fP [none,none])
abbrev aai:Pt:=(.fn 372 [] [(.bx 4 0 true [.bool])])
abbrev apu:Pt:=(.bx 452 0 true [.same,(.own mO 348 true),.same,.same,gH,(.mp bh .bo true)])
abbrev OE:Pt:=(.dat (.p pV bh) [none])
abbrev D9:Pt:=(.bx 3 0 true [an])
abbrev ajW:Pt:=(.bx 428 0 false [(.sli fP),(.fn 316 [(.ptr 0 0)] [])])
abbrev je:Pt:=(.int .u8)
abbrev BV:Pt:=(.own .s 9 true)
abbrev rE:Pt:=(.int .u64)
abbrev aoY:Pt:=(.bx 452 0 true [an,(.own mO 348 true),an,an,gH,(.mp bh .bo false)])
abbrev akp:Pt:=(.bx 94 0 true [(.sli j4),an,(.sli .s),an,an])
abbrev apA:Pt:=(.bx 452 0 true [an,(.own mO 348 true),an,an,gH,(.mp bh .bo true)])
abbrev afx:Pt:=(.bx 102 0 true [jc,(.mp .s .bo true)])
abbrev aex:Pt:=(.bx 272 0 true [jc,(.mp .s .bo true)])
abbrev UL:Pt:=(.ifc 193 (.agg [an,aV]))
abbrev aag:Pt:=(.dat (.p pV pV) [none,none])
abbrev ak4:Pt:=(.bx 116 0 true [.same,.same,.same,.same,.same])
abbrev ajE:Ty:=(.p (.l j4) (.p bh (.p (.l .s) (.p bh gr))))
abbrev akb:Ty:=(.p .s (.p .s (.p Zi (.p Om (.p .ex aaN)))))
abbrev HJ:Pt:=(.cQ [an,.bool])
abbrev Hz:Pt:=(.cQ [.bool,an])
abbrev NM:Pt:=(.bx 39 0 false [aV])
abbrev ajA:Pt:=(.bx 113 0 false [an,(.sli iL),aV,dS])
abbrev DH:Pt:=(.own .s 9 false)
abbrev VH:Pt:=(.own vh 265 true)
abbrev L6:Pt:=(.bx 198 0 true QL4)
abbrev uT:Ty:=(.p iL bh)
abbrev ZJ:Pt:=(.bx 218 0 true [.sfp,iy])
abbrev ala:Pt:=(.bx 428 0 true [(.own fP 345 true),.same])
abbrev ac8:Pt:=(.bx 94 0 true [.same,an,.same,an,an])
abbrev lA:Pt:=(.int .u32)
abbrev Ky:Pt:=(.own gr 187 true)
abbrev adm:Ty:=(.p (.l j4) (.p bh (.p (.l .s) gr)))
abbrev LN:Pt:=(.bx 36 0 true [rE])
abbrev CU:Pt:=(.cQ [nc,an])
abbrev YO:Pt:=(.ifc 195 (.agg [BU,BU]))
abbrev adg:Pt:=(.bx 231 0 true [(.mp wR .bo true)])
abbrev ac4:Pt:=(.bx 172 0 true [(.mp wR bh true)])
abbrev P4:Pt:=(.cQ [nc,.bool,an])
abbrev KR:Pt:=(.own j4 53 false)
abbrev P9:Pt:=(.bx 4 0 false [.bool])
abbrev WV:Ty:=(.p (.l fP) (.p fP iL))
abbrev uH:Ty:=(.p bh .ex)
abbrev aj1:Pt:=(.dat Uz [some 49,some 79,some 7,some 79])
abbrev ajN:Pt:=(.bx 113 0 true [an,(.sli iL),aV,dS])
abbrev Qs:Pt:=(.own gr 187 false)
abbrev Ql:Pt:=(.own Bz 279 false)
abbrev ado:Ty:=(.p Om (.p Uz (.p Wp bh)))
abbrev Lt:Pt:=(.own bh 3 false)
abbrev ac9:Ty:=(.p bh (.p bh (.p .bo aT)))
abbrev arn:Ty:=(.p aT (.p aT (.p aT (.p aT (.p aT (.p aT (.p aT (.p aT aoW))))))))
abbrev CD:Pt:=(.dat Zi [])
abbrev W9:Pt:=(.dat yT [none,none])
abbrev P6:Pt:=(.bx 198 0 true QL6)
abbrev aq7:Pt:=(.bx 232 0 true [(.fn 112 [] [(.ptr 0 0),(.ptr 2 0),(.ptr 4 0),(.ptr 7 0)])])
abbrev ade:Ty:=(.p (.l j4) (.p bh Om))
abbrev Xg:Pt:=(.cQ [an,an,an])
abbrev ac3:Pt:=(.bx 391 0 true [iy,an])
abbrev Gc:Ty:=(.p pV pV)
abbrev arh:Ty:=(.p .s (.p .s (.p .s (.p .s (.p .s (.p .s (.p .s (.p .s .s))))))))
abbrev QC:Pt:=(.sli (.i .u32))
abbrev uC:Pt:=(.sli .s)
abbrev adu:Pt:=(.bx 144 0 true [.same])
abbrev aro:Pt:=(.bx 156 0 true [.same,an,.same,.same,.same,.same,VH])
abbrev ara:Pt:=(.bx 77 0 true [(.own (.l .ex) 24 true),jc,.same,.same])
abbrev ac5:Pt:=(.bx 463 0 true [gH])
abbrev XI:Ty:=(.p (.l fP) iL)
abbrev Gy:Pt:=(.ifc 3 an)
abbrev aq6:Pt:=(.bx 156 0 true [.same,an,BV,Ky,gH,BV,VH])
abbrev Qw:Pt:=(.fn 220 [] [])
abbrev Qo:Pt:=(.fn 214 [] [])
abbrev Qp:Pt:=(.fn 202 [] [])
abbrev adt:Pt:=(.bx 39 0 true [aV])
abbrev ada:Pt:=(.bx 4 0 true [.bool])
abbrev aj9:Pt:=(.fn 186 [] [PG,PG,PK])
abbrev akF:Pt:=(.fn 187 [] [PG,PG,PK])
abbrev aq1:Pt:=(.bx 86 0 false [(.sli j4),an,uC,an,an,an])
open Tryz
theorem aiK:ao7 Tryz.prog 175:=λv w=>by rw [run_callFunc_extern func175 (by kernel_rfl) (by kernel_rfl) (by kernel_rfl) (e:=Extern.AbiNoEscape.same) (by kernel_rfl)];rfl
noncomputable def X00:Cx:=⟨Tryz.prog,[(2,bh),(3,bh),(4,.bo),(5,aT),(6,aT),(7,ac9),(8,ac9),(9,.s),(10,.s),(11,.s),(12,(.i .u64)),(13,(.p .s (.i .u64))),(14,(.p .s (.i .u64))),(21,(.i .i32)),(22,(.l .s)),(24,(.l .ex)),(25,(.p bh (.p bh (.p bh (.l .ex))))),(26,.ex),(27,bh),(36,(.i .u64)),(37,Zi),(38,Zi),(39,(.l bh)),(40,pV),(41,Gc),(42,Gc),(43,aaN),(44,aaN),(47,(.l j4)),(52,j4),(53,j4),(67,(.l gr)),(68,(.l vh)),(69,Om),(70,Om),(71,akb),(72,akb),(75,(.l (.l .ex))),(76,Uz),(77,Uz),(85,ajE),(86,ajE),(93,adm),(94,adm),(108,(.l iL)),(109,fP),(110,fP),(111,iL),(112,(.p fP iL)),(113,(.p fP iL)),(114,(.l fP)),(115,WV),(116,WV),(117,(.l fP)),(118,XI),(119,XI),(120,(.l mO)),(121,yT),(122,yT),(123,(.p yT (.p yT yT))),(124,(.p iL (.p iL iL))),(125,Iv),(126,Iv),(127,Wp),(128,Wp),(151,gr),(152,gr),(155,ade),(156,ade),(164,gr),(165,gr),(168,(.l .ex)),(169,(.l .ex)),(171,(.l wR)),(173,wR),(174,wR),(179,(.l .n)),(184,.n),(186,gr),(187,gr),(192,(.p bh (.l bh))),(193,(.p bh (.l bh))),(194,Gc),(195,Gc),(197,ado),(198,ado),(202,(.p pV bh)),(203,(.p pV bh)),(234,(.l .bo)),(237,gr),(238,.un),(239,.un),(240,.un),(241,.un),(242,.un),(243,.un),(250,(.l Bz)),(258,asY),(263,(.l uH)),(264,vh),(265,vh),(267,uH),(268,uH),(278,Bz),(279,Bz),(282,(.l pV)),(285,(.l .bo)),(291,arh),(297,gr),(313,aoW),(322,aub),(323,(.i .u32)),(324,(.p aT akS)),(325,(.i .u64)),(330,arn),(331,akS),(334,.un),(335,.un),(336,.un),(337,aT),(338,aT),(340,(.i .i32)),(341,(.i .i32)),(344,fP),(345,fP),(346,(.l lV)),(347,mO),(348,mO),(369,uT),(370,uT),(377,fP),(378,fP),(379,fP),(380,fP),(388,uT),(389,uT),(390,uT),(391,uT),(430,(.l (.i .u32))),(437,YV),(438,YV),(456,lV),(457,lV),(463,(.l bh))],[],[175],(List.forall_mem_cons.2 ⟨aiK,(λ_ h=>nomatch h)⟩),ax,[239,240,241,242,243],[],(λ_ h=>nomatch h),[(25,21),(66,40),(83,44)]⟩
noncomputable def X0:Cx:=⟨Tryz.prog,[(2,bh),(3,bh),(4,.bo),(5,aT),(6,aT),(7,ac9),(8,ac9),(9,.s),(10,.s),(11,.s),(12,(.i .u64)),(13,(.p .s (.i .u64))),(14,(.p .s (.i .u64))),(21,(.i .i32)),(22,(.l .s)),(24,(.l .ex)),(25,(.p bh (.p bh (.p bh (.l .ex))))),(26,.ex),(27,bh),(36,(.i .u64)),(37,Zi),(38,Zi),(39,(.l bh)),(40,pV),(41,Gc),(42,Gc),(43,aaN),(44,aaN),(47,(.l j4)),(52,j4),(53,j4),(67,(.l gr)),(68,(.l vh)),(69,Om),(70,Om),(71,akb),(72,akb),(75,(.l (.l .ex))),(76,Uz),(77,Uz),(85,ajE),(86,ajE),(93,adm),(94,adm),(108,(.l iL)),(109,fP),(110,fP),(111,iL),(112,(.p fP iL)),(113,(.p fP iL)),(114,(.l fP)),(115,WV),(116,WV),(117,(.l fP)),(118,XI),(119,XI),(120,(.l mO)),(121,yT),(122,yT),(123,(.p yT (.p yT yT))),(124,(.p iL (.p iL iL))),(125,Iv),(126,Iv),(127,Wp),(128,Wp),(151,gr),(152,gr),(155,ade),(156,ade),(164,gr),(165,gr),(168,(.l .ex)),(169,(.l .ex)),(171,(.l wR)),(173,wR),(174,wR),(179,(.l .n)),(184,.n),(186,gr),(187,gr),(192,(.p bh (.l bh))),(193,(.p bh (.l bh))),(194,Gc),(195,Gc),(197,ado),(198,ado),(202,(.p pV bh)),(203,(.p pV bh)),(234,(.l .bo)),(237,gr),(238,.un),(239,.un),(240,.un),(241,.un),(242,.un),(243,.un),(250,(.l Bz)),(258,asY),(263,(.l uH)),(264,vh),(265,vh),(267,uH),(268,uH),(278,Bz),(279,Bz),(282,(.l pV)),(285,(.l .bo)),(291,arh),(297,gr),(313,aoW),(322,aub),(323,(.i .u32)),(324,(.p aT akS)),(325,(.i .u64)),(330,arn),(331,akS),(334,.un),(335,.un),(336,.un),(337,aT),(338,aT),(340,(.i .i32)),(341,(.i .i32)),(344,fP),(345,fP),(346,(.l lV)),(347,mO),(348,mO),(369,uT),(370,uT),(377,fP),(378,fP),(379,fP),(380,fP),(388,uT),(389,uT),(390,uT),(391,uT),(430,(.l (.i .u32))),(437,YV),(438,YV),(456,lV),(457,lV),(463,(.l bh))],[(0,0,⟨.l .s,pr⟩),(1,0,⟨.l .s,Hd⟩),(2,0,⟨.l (.i .u64),ud⟩)],[175],(List.forall_mem_cons.2 ⟨aiK,(λ_ h=>nomatch h)⟩),ax,[239,240,241,242,243],[⟨263,λargs H st K=>VX X00 Tryz.f263 args H st K⟩,⟨254,λargs H st K=>VX X00 Tryz.f254 args H st K⟩,⟨372,λargs H st K=>VX X00 Tryz.f372 args H st K⟩,⟨373,λargs H st K=>VX X00 Tryz.f373 args H st K⟩],(List.forall_mem_cons.2 ⟨Wu (X:=X00) call263 func263 rfl,(List.forall_mem_cons.2 ⟨Wu (X:=X00) call254 func254 rfl,(List.forall_mem_cons.2 ⟨Wu (X:=X00) call372 func372 rfl,(List.forall_mem_cons.2 ⟨Wu (X:=X00) call373 func373 rfl,(λ_ h=>nomatch h)⟩)⟩)⟩)⟩),[(25,21),(66,40),(83,44)]⟩
abbrev Ko(e:aq):=e.Ok X0.P X0.Γ
abbrev tv(e:bR):=e.Ok X0.P X0.Γ
theorem aA{X:Cx}{tb:List aq}{fn:Func}{e:aq}(h:HT)(c:Enters X.P e.f)(b:X.P.funcs[e.f]? =some fn)(a:∀e∈tb,e.Ok X.P X.Γ)(eq:∀s,adK X tb [] [] h fn e s=e.m s:=by intro _;kernel_rfl):e.Ok X.P X.Γ:=aY h c b a aj aj eq
theorem af1{X:Cx}{tb:List aq}{fn:Func}{e:bR}(h:HT)(c:Enters X.P e.f)(b:X.P.funcs[e.f]? =some fn)(a:∀e∈tb,e.Ok X.P X.Γ)(eq:∀s,apB X tb [] [] h fn e s=e.m s:=by intro _;kernel_rfl):e.Ok X.P X.Γ:=sJ h c b a aj aj eq
abbrev U2{a z r:Type}(F:a->z->r)(s:a×z):r:=F s.1 s.2
abbrev U3{a b z r:Type}(F:a->b->z->r)(s:a×b×z):r:=F s.1 s.2.1 s.2.2
abbrev U4{a b c z r:Type}(F:a->b->c->z->r)(s:a×b×c×z):r:=F s.1 s.2.1 s.2.2.1 s.2.2.2
abbrev U5{a b c d z r:Type}(F:a->b->c->d->z->r)(s:a×b×c×d×z):r:=F s.1 s.2.1 s.2.2.1 s.2.2.2.1 s.2.2.2.2
abbrev U6{a b c d e z r:Type}(F:a->b->c->d->e->z->r)(s:a×b×c×d×e×z):r:=F s.1 s.2.1 s.2.2.1 s.2.2.2.1 s.2.2.2.2.1 s.2.2.2.2.2
abbrev U7{a b c d e f z r:Type}(F:a->b->c->d->e->f->z->r)(s:a×b×c×d×e×f×z):r:=F s.1 s.2.1 s.2.2.1 s.2.2.2.1 s.2.2.2.2.1 s.2.2.2.2.2.1 s.2.2.2.2.2.2
abbrev U8{a b c d e f g z r:Type}(F:a->b->c->d->e->f->g->z->r)(s:a×b×c×d×e×f×g×z):r:=F s.1 s.2.1 s.2.2.1 s.2.2.2.1 s.2.2.2.2.1 s.2.2.2.2.2.1 s.2.2.2.2.2.2.1 s.2.2.2.2.2.2.2
abbrev U9{a b c d e f g h z r:Type}(F:a->b->c->d->e->f->g->h->z->r)(s:a×b×c×d×e×f×g×h×z):r:=F s.1 s.2.1 s.2.2.1 s.2.2.2.1 s.2.2.2.2.1 s.2.2.2.2.2.1 s.2.2.2.2.2.2.1 s.2.2.2.2.2.2.2.1 s.2.2.2.2.2.2.2.2
def bf(x:Ex):Ex:=Ex.mk x.op x.n x.at_ x.l
theorem aL:bf=id:=funext λx=>by cases x;rfl
def as9:aq:=⟨104,[.int .i64],.str,[],λs=>akc s⟩
theorem alR:Ko as9:=anX (ρ:=Tryz.OW) Tryz.aoE call104 (G:=2) (tab:=ud) (by kernel_rfl) (show gl 2 (ud.map (Value.int .u64))∈X0.Γ by first|exact cz ..|exact (.tail _ (cz ..))|exact (.tail _ (.tail _ (cz ..)))|exact (.tail _ (.tail _ (.tail _ (cz ..))))|exact (.tail _ (.tail _ (.tail _ (.tail _ (cz ..)))))|exact (.tail _ (.tail _ (.tail _ (.tail _ (.tail _ (cz ..))))))) (by decide+kernel) akc λn r h=>by obtain ⟨b,a⟩:=gz h;cases a;exact ⟨b,rfl⟩
def at4:aq:=⟨210,[.own aT 5 true,.int .u64,.int .i64],.own aT 5 true,[],U3 akO⟩
theorem ang:Ko at4:=aqa (ρ:=Tryz.SL) Tryz.asr call210 (G:=2) (tab:=ud) (by kernel_rfl) (show gl 2 (ud.map (Value.int .u64))∈X0.Γ by first|exact cz ..|exact (.tail _ (cz ..))|exact (.tail _ (.tail _ (cz ..)))|exact (.tail _ (.tail _ (.tail _ (cz ..))))|exact (.tail _ (.tail _ (.tail _ (.tail _ (cz ..)))))|exact (.tail _ (.tail _ (.tail _ (.tail _ (.tail _ (cz ..))))))) (by decide+kernel) akO λl u b r h=>by obtain ⟨a,c⟩:=gz h;simp only [ar,eT,mZ] at a;cases c;exact ⟨a.1.1,a.1.2.1,a.1.2.2,a.2,rfl⟩
def atl:aq:=⟨153,[.kr (.raw (.slice none 0 0)),.int .i64],.own (.l bh) 39 true,[],λs=>alz s⟩
theorem anV:Ko atl:=aor (ρ:=Tryz.abf) Tryz.auP call153 (z:= .slice none 0 0) (bytes:=24) (t:= .l bh) (by unfold TI;kernel_rfl) rfl rfl (by decide) alz λn r h=>by obtain ⟨a,b⟩:=gz h;simp only [ar,mZ] at a;cases b;exact ⟨a.1,a.2,rfl⟩
theorem am3{α:Type}{b:Nat}{s y r:List α}{k:Int}(h:afV b s k y=some r):y≠[]/\VN k s.length=true/\aI (s.length+y.length) b=true/\r=oI s k y:=by
 unfold afV at h;split at h
 .cases h
 .obtain ⟨a,c⟩:=gz h;simp only [ar] at a;cases c;exact ⟨by simp,a.1,a.2,rfl⟩
def apg:aq:=⟨344,[.own lV 457 true,.int .i64,.own lV 457 true],.own lV 457 true,[],λs=>afV 16 s.1 s.2.1 s.2.2⟩
theorem agS:Ko apg:=asq (t:=lV) (bytes:=16) call344 (λa d c b=>I344.aeQ a d c b) (afV 16) (λ_ _ _ _ h=>am3 h)
abbrev X9:=Q2->Option Q3
def ju(k:X9):aq:=⟨30,[jF,Qw],bI,[(true,0,cR)],λs=>k (s.1,s.2.1,s.2.2.1,s.2.2.2.1,s.2.2.2.2.1,s.2.2.2.2.2)⟩
abbrev OK0(k:X9):Prop:=Ko (ju k)
abbrev Xh:=Q2->Option Q3
def jj(k:Xh):aq:=⟨30,[jF,Qo],bI,[(true,0,cR)],λs=>k (s.1,s.2.1,s.2.2.1,s.2.2.2.1,s.2.2.2.2.1,s.2.2.2.2.2)⟩
abbrev OK1(k:Xh):Prop:=Ko (jj k)
abbrev Xr:=Q2->Option Q3
def jv(k:Xr):aq:=⟨30,[jF,Qp],bI,[(true,0,cR)],λs=>k (s.1,s.2.1,s.2.2.1,s.2.2.2.1,s.2.2.2.2.1,s.2.2.2.2.2)⟩
abbrev OK2(k:Xr):Prop:=Ko (jv k)
abbrev Ws:=Q2->Option Q3
def jo(k:Ws):aq:=⟨30,[jF,(.fn 90 [] [])],bI,[(true,0,cR)],λs=>k (s.1,s.2.1,s.2.2.1,s.2.2.2.1,s.2.2.2.2.1,s.2.2.2.2.2)⟩
abbrev OK3(k:Ws):Prop:=Ko (jo k)
abbrev dq:=Q2->Option Q3
def js(k:dq):aq:=⟨30,[jF,(.fn 31 [] [])],bI,[(true,0,cR)],λs=>k (s.1,s.2.1,s.2.2.1,s.2.2.2.1,s.2.2.2.2.1,s.2.2.2.2.2)⟩
abbrev ky(k:dq):Prop:=Ko (js k)
abbrev TK5:=Ex->Option gO
def xO(k:TK5):aq:=⟨13,[dy],Xg,[],λs=>k s⟩
abbrev OK5(k:TK5):Prop:=Ko (xO k)
abbrev Yh:=Q2->Option Q3
def jP(k:Yh):aq:=⟨30,[fN,Qw],bI,[(true,0,cR)],λs=>k (s.1,s.2.1,s.2.2.1,s.2.2.2.1,s.2.2.2.2.1,s.2.2.2.2.2)⟩
abbrev OK6(k:Yh):Prop:=Ko (jP k)
abbrev WB:=Q2->Option Q3
def jT(k:WB):aq:=⟨30,[fN,Qo],bI,[(true,0,cR)],λs=>k (s.1,s.2.1,s.2.2.1,s.2.2.2.1,s.2.2.2.2.1,s.2.2.2.2.2)⟩
abbrev OK7(k:WB):Prop:=Ko (jT k)
abbrev Wm:=Q2->Option Q3
def jJ(k:Wm):aq:=⟨30,[fN,Qp],bI,[(true,0,cR)],λs=>k (s.1,s.2.1,s.2.2.1,s.2.2.2.1,s.2.2.2.2.1,s.2.2.2.2.2)⟩
abbrev OK8(k:Wm):Prop:=Ko (jJ k)
abbrev XM:=Q2->Option Q3
def jQ(k:XM):aq:=⟨30,[fN,(.fn 90 [] [])],bI,[(true,0,cR)],λs=>k (s.1,s.2.1,s.2.2.1,s.2.2.2.1,s.2.2.2.2.1,s.2.2.2.2.2)⟩
abbrev OK9(k:XM):Prop:=Ko (jQ k)
abbrev cd:=Q2->Option Q3
def mn(k:cd):aq:=⟨30,[fN,(.fn 31 [] [])],bI,[(true,0,cR)],λs=>k (s.1,s.2.1,s.2.2.1,s.2.2.2.1,s.2.2.2.2.1,s.2.2.2.2.2)⟩
abbrev gi(k:cd):Prop:=Ko (mn k)
abbrev Lq:=SD->Option ia
def AF(k:Lq):aq:=⟨57,[dy,.bool,D9],dy,[(true,2,D9)],λs=>k (s.1,s.2.1,s.2.2)⟩
abbrev apn(k:Lq):Prop:=Ko (AF k)
abbrev aeY:=(Ex×Q1)->y2
def xw(k:aeY):aq:=⟨141,[dy,aV],an,[],λs=>k (s.1,s.2)⟩
abbrev ave(k:aeY):Prop:=Ko (xw k)
abbrev Ve:=(Ex×Ex)->x6
def wu(k:Ve):aq:=⟨111,[dy,dy],.bool,[],λs=>k (s.1,s.2)⟩
abbrev as1(k:Ve):Prop:=Ko (wu k)
abbrev ael:=Q44->Option MA
def iV(k:ael):aq:=⟨112,[rE,(.dat wR []),adg,Pw,(.bx 167 0 true [LL]),aq7],fD,[(true,2,adg),(true,3,Pw),(true,4,(.bx 167 0 true [.same])),(true,1005,LL),(true,5,(.bx 232 0 true [.same]))],λs=>k (s.1,s.2.1,s.2.2.1,s.2.2.2.1,s.2.2.2.2)⟩
abbrev au8(k:ael):Prop:=Ko (iV k)
abbrev adF:=Int->y2
def xz(k:adF):aq:=⟨307,[an],an,[],λs=>k s⟩
abbrev avd(k:adF):Prop:=Ko (xz k)
abbrev agf:=Q58->Option (Except Int Int)
def nu(k:agf):bR:=⟨319,[ajW,an,QC],Gy,none,false,false,lA,[],λs=>k (s.2.1,s.2.2,s.1)⟩
abbrev avr(k:agf):Prop:=tv (nu k)
abbrev agu:=Q58->Option Q69
def kL(k:agu):aq:=⟨319,[alb,an,QC],lA,[(true,0,ala)],λs=>k (s.2.1,s.2.2,s.1)⟩
abbrev avE(k:agu):Prop:=Ko (kL k)
abbrev adI:=Q49->Option Mo
def rb(k:adI):aq:=⟨336,[apA,an,dS],an,[(true,0,apu)],λs=>k (s.2.2.2.2.2.2.1,s.2.2.2.2.2.2.2,s.1,s.2.1,s.2.2.1,s.2.2.2.1,s.2.2.2.2.1,s.2.2.2.2.2.1)⟩
abbrev avs(k:adI):Prop:=Ko (rb k)
abbrev adB:=Q52->Option (Q4×Q1)
def nq(k:adB):aq:=⟨337,[aoY,an],fD,[(true,0,adX)],λs=>k (s.2.2.2.2.2.2,s.1,s.2.1,s.2.2.1,s.2.2.2.1,s.2.2.2.2.1,s.2.2.2.2.2.1)⟩
abbrev avx(k:adB):Prop:=Ko (nq k)
abbrev aff:=(Ex×iZ)->Option ba
def C2(k:aff):aq:=⟨131,[dy,OE],eZ,[],λs=>k (s.1,s.2)⟩
abbrev avl(k:aff):Prop:=Ko (C2 k)
abbrev Uk:=yr->Option eY
def gK(k:Uk):aq:=⟨35,[akp,an,an],bI,[(true,0,ac8)],λs=>k (s.2.2.2.2.2.1,s.2.2.2.2.2.2,s.1,s.2.1,s.2.2.1,s.2.2.2.1,s.2.2.2.2.1)⟩
abbrev as6(k:Uk):Prop:=Ko (gK k)
abbrev aeK:=Ex->Option gO
def jL(k:aeK):aq:=⟨17,[dy],Xg,[],λs=>k s⟩
abbrev avo(k:aeK):Prop:=Ko (jL k)
abbrev af6:=ia->y2
def jN(k:af6):aq:=⟨62,[dy,an],an,[],λs=>k (s.1,s.2)⟩
abbrev avv(k:af6):Prop:=Ko (jN k)
abbrev agI:=(Ex×Bool)->Option Ex
def jM(k:agI):aq:=⟨63,[dy,.bool],dy,[],λs=>k (s.1,s.2)⟩
abbrev avc(k:agI):Prop:=Ko (jM k)
abbrev afc:=(Ex×Ex)->x6
def iT(k:afc):aq:=⟨7,[dy,dy],.bool,[],λs=>k (s.1,s.2)⟩
abbrev avn(k:afc):Prop:=Ko (iT k)
def ahU:aq:=⟨26,[je],.bool,[],λs=>OA s⟩
theorem YY:Ko ahU:=
 aA .o call26 func26 aj
def Ya:aq:=⟨28,[je],.bool,[],λs=>BN s⟩
theorem NY:Ko Ya:=
 aA .o call28 func28 aj
def alJ:aq:=⟨27,[.str,(.fn 28 [] [])],.str,[],λs=>aaH s⟩
theorem adY:Ko alJ:=
 aA (.l ⟨[(false,8,an)],[]⟩ .o) call27 func27 (al NY aj)
def adv:aq:=⟨49,[je],.bool,[],λs=>CS s⟩
theorem F8:Ko adv:=
 aA .o call49 func49 aj
def ahP:aq:=⟨51,[je],.bool,[],λs=>Bf s⟩
theorem Ai:Ko ahP:=
 aA .o call51 func51 aj
def age:aq:=⟨50,[je],.bool,[],λs=>CX s⟩
theorem XJ:Ko age:=
 aA .o call50 func50 (al F8 (al Ai aj))
def agJ:aq:=⟨27,[.str,(.fn 50 [] [])],.str,[],λs=>Kk s⟩
theorem XY:Ko agJ:=
 aA (.l ⟨[(false,8,an)],[]⟩ .o) call27 func27 (al XJ aj)
def agA:aq:=⟨27,[.str,(.fn 51 [] [])],.str,[],λs=>LP s⟩
theorem XF:Ko agA:=
 aA (.l ⟨[(false,8,an)],[]⟩ .o) call27 func27 (al Ai aj)
def ahG:aq:=⟨52,[.str],HJ,[],λs=>Ps s⟩
def yI(a:(Int×aD×Nat)->Option nX):Int×aD×Nat->Option nX:=λ⟨c,s,b⟩=> bif decide (b<List.length s) then ( bif decide (1073741824<(i64.wrap ((i64.wrap (10*c))+(i64.wrap (i32.wrap ((ue s b)-48)))))) then some (0,false) else a ((i64.wrap ((i64.wrap (10*c))+(i64.wrap (i32.wrap ((ue s b)-48))))),s,(lY s b))) else ( some (c,true))
theorem Ss(s:aD):∀(N:Nat) (n:Int) (p:Nat),aw yI N (n,s,p)=aw (wN s) N (n,p)
 |0,_,_=>rfl
 |N+1,n,p=>by rw [bz,bz];simp only [yI,wN,Ss s N]
theorem aah:Ko ahG:=
 aY (.l ⟨[(false,4,an),(true,8,.it)],[]⟩ .o) call52 func52 aj aj aj λs=>(show _=aw yI ax (0,s,0) from by kernel_rfl).trans (Ss s ax 0 0)
def agT:aq:=⟨86,[],BV,[],λ_=>OF⟩
theorem Z7:Ko agT:=
 aA .o call86 func86 aj
def u6:aq:=⟨132,[.str,.str],.bool,[],U2 dZ⟩
theorem s8:Ko u6:=
 aA .o call132 func132 aj
def Nj:aq:=⟨87,[.str,.str],.bool,[],U2 tG⟩
theorem HL:Ko Nj:=
 aA .o call87 func87 (al s8 aj)
def ajT:aq:=⟨53,[.str],.str,[],λs=>Kj s⟩
theorem aca:Ko ajT:=
 aA (.l ⟨[(false,7,an)],[]⟩ .o) call53 func53 (al Z7 (al HL aj))
def ahX:aq:=⟨29,[.str],(.cQ [(.dat j4 []),an]),[],λs=>G4 s⟩
theorem aax:Ko ahX:=
 aA .o call29 func29 (al F8 (al XY (al Ai (al XF (al aah (al aca aj))))))
def aeC:aq:=⟨11,[.str],(.cQ [(.own j4 53 true),an,an]),[],λs=>sS s⟩
theorem Hb:Ko aeC:=
 aA (.n 0 (.j ⟨[(false,5,(.own j4 53 true)),(false,6,an)],[]⟩ .o .o)) call11 func11 (al YY (al adY (al aax aj)))
def QQ:aq:=⟨100,[ajR],(.dat j4 []),[],U7 eK⟩
theorem eX:Ko QQ:=
 aA (.r [2] .o) call100 func100 aj
def XH:aq:=⟨101,[ajR,an,.str],.bool,[],λs=>iH s.2.2.2.2.2.2.2.1 s.2.2.2.2.2.2.2.2 s.1 s.2.1 s.2.2.1 s.2.2.2.1 s.2.2.2.2.1 s.2.2.2.2.2.1 s.2.2.2.2.2.2.1⟩
theorem jz:Ko XH:=
 aA .o call101 func101 (al eX aj)
def Rj:bR:=⟨102,[ajR,an],HX,none,true,false,fD,[],λs=>cV s.2.2.2.2.2.2.2 s.1 s.2.1 s.2.2.1 s.2.2.2.1 s.2.2.2.2.1 s.2.2.2.2.2.1 s.2.2.2.2.2.2.1⟩
theorem fW:tv Rj:=
 af1 .o call102 func102 (al eX aj)
def yO:aq:=⟨188,[uC,.str],an,[],U2 dz⟩
theorem lL:Ko yO:=
 aA (.l ⟨[(false,8,an)],[]⟩ .o) call188 func188 aj
def wg:aq:=⟨169,[uC,.str],.bool,[],U2 fL⟩
theorem tS:Ko wg:=
 aA .o call169 func169 (al lL aj)
def akV:aq:=⟨133,[.str],.bool,[],λs=>mI s⟩
theorem o7:Ko akV:=
 aA .o call133 func133 (al tS aj)
def wc:aq:=⟨188,[DH,.str],an,[],U2 dE⟩
theorem gq:Ko wc:=
 aA (.l ⟨[(false,8,an)],[]⟩ .o) call188 func188 aj
def tJ:aq:=⟨169,[DH,.str],.bool,[],U2 gS⟩
theorem rA:Ko tJ:=
 aA .o call169 func169 (al gq aj)
def Pb:aq:=⟨172,[ajR,.str],.bool,[],λs=>Ea s.2.2.2.2.2.2.2 s.1 s.2.1 s.2.2.1 s.2.2.2.1 s.2.2.2.2.1 s.2.2.2.2.2.1 s.2.2.2.2.2.2.1⟩
theorem JY:Ko Pb:=
 aA .o call172 func172 (al rA aj)
def QT:bR:=⟨135,[afu,.bool],HX,none,false,false,.str,[(true,0,UF)],λs=>xJ s.2.2.2.2.2.2.2 s.1 s.2.1 s.2.2.1 s.2.2.2.1 s.2.2.2.2.1 s.2.2.2.2.2.1 s.2.2.2.2.2.2.1⟩
theorem wo:tv QT:=
 sJ (.s (.s (.j ⟨[],[]⟩ .o .o))) call135 func135 (al eX (al o7 (al JY aj))) (al fW aj) aj λ_=>by kernel_rfl
def M3:bR:=⟨136,[afu],HX,none,false,false,an,[(true,0,UF)],U7 np⟩
theorem Iu:tv M3:=
 sJ (.s (.s (.j ⟨[(true,0,UF)],[]⟩ .o (.s (.j ⟨[],[]⟩ .o .o))))) call136 func136 (al jz (al eX aj)) (al fW aj) aj λ_=>by kernel_rfl
def RW:bR:=⟨137,[afu,.str],HX,none,false,false,fD,[(true,0,UF)],λs=>fC s.2.2.2.2.2.2.2 s.1 s.2.1 s.2.2.1 s.2.2.2.1 s.2.2.2.2.1 s.2.2.2.2.2.1 s.2.2.2.2.2.2.1⟩
theorem kF:tv RW:=
 sJ (.j ⟨[],[]⟩ .o .o) call137 func137 (al jz aj) (al fW aj) aj λ_=>by kernel_rfl
def Rk:aq:=⟨115,[(.dat gr [])],.bool,[],λs=>xY s⟩
theorem xG:Ko Rk:=
 aA .o call115 func115 aj
def IC:aq:=⟨114,[Qs,(.fn 115 [] [])],eZ,[],λs=>yo s⟩
theorem Dv:Ko IC:=
 aA (.l ⟨[(true,5,eZ),(false,13,an)],[]⟩ .o) call114 func114 (al xG aj)
def Er:aq:=⟨143,[(.sli .bo),.bool],an,[],U2 um⟩
theorem A8:Ko Er:=
 aA (.l ⟨[(false,8,an)],[]⟩ .o) call143 func143 aj
def AY:aq:=⟨113,[(.sli .bo),.bool],.bool,[],U2 il⟩
theorem iA:Ko AY:=
 aA .o call113 func113 (al A8 aj)
def QI:aq:=⟨74,[Qs],.bool,[],λs=>G7 s⟩
theorem La:Ko QI:=
 aA .o call74 func74 (al Dv (al iA aj))
def QJ:aq:=⟨144,[(.dat gr []),an],.bool,[],U2 rk⟩
theorem oX:Ko QJ:=
 aA .o call144 func144 aj
def aaE:aq:=⟨116,[Qs,aV],an,[],U2 OK⟩
theorem QV:Ko aaE:=
 aA (.c .o (.l ⟨[(false,14,an)],[]⟩ .o)) call116 func116 (al oX aj)
def JP:bR:=⟨98,[(.bx 156 0 true [KR,an,BV,Ky,gH,DH,(.own vh 265 false)])],HX,none,false,false,fD,[(true,0,(.bx 156 0 true [.same,an,BV,Ky,gH,.same,.same]))],U7 yi⟩
theorem EX:tv JP:=
 sJ (.s (.s (.s (.s (.s (.j ⟨[],[]⟩ .o (.r [0] .o))))))) call98 func98 (al eX (al La (al QV aj))) (al wo (al Iu (al kF aj))) aj λ_=>by kernel_rfl
def Ni:aq:=⟨54,[jF,an],bI,[(true,0,(.bx 86 0 true [.same,.same,.same,.same,an,an]))],λs=>bP s.2.2.2.2.2.2 s.1 s.2.1 s.2.2.1 s.2.2.2.1 s.2.2.2.2.1 s.2.2.2.2.2.1⟩
theorem fk:Ko Ni:=
 aA (.c (.r [0] .o) .o) call54 func54 aj
def MP:aq:=⟨89,[(.bx 86 0 false [KR,an,DH,an,an,an])],(.dat j4 []),[],U6 aU⟩
theorem bZ:Ko MP:=
 aA (.r [2] .o) call89 func89 aj
def RN:aq:=⟨88,[(.bx 86 0 false [KR,an,DH,an,an,an]),aV],HJ,[],λs=>bC s.2.2.2.2.2.2 s.1 s.2.1 s.2.2.1 s.2.2.2.1 s.2.2.2.2.1 s.2.2.2.2.2.1⟩
theorem cF:Ko RN:=
 aA (.c .o (.l ⟨[(false,27,an)],[]⟩ .o)) call88 func88 (al bZ (al o7 aj))
def N9(a:dq):aq:=⟨221,[jF],bI,[(true,0,cR)],λs=>ve a s.1 s.2.1 s.2.2.1 s.2.2.2.1 s.2.2.2.2.1 s.2.2.2.2.2⟩
def rT(eta:Ex->Ex)(A:Sh->(R:Type)->Option R->Option R)(z:Q2->Option Q3)(l:Q6)(at_:Int)(names:aF)(c:Int)(e:Int)(b:Int):Option Q3:= bif e != 0 then some ((Ex.mk 0 0 0 []),at_,c,e,b) else (aU l at_ names c e b).bind λd=> (bC ([13,14]:zg) l at_ names c e b).bind λk=> bif k.2 then ( some ((Ex.mk k.1 0 d.2.2.2 []),(i64.wrap (at_+1)),c,e,b)) else ( bif d.1==2 then some ((Ex.mk 1 d.2.2.1 d.2.2.2 []),(i64.wrap (at_+1)),c,e,b) else ah (d.1==1) λn=> bl n default (mI d.2.1) λq=> ah (!q) λy=> ah (n&&y) λx=> bif x then ( (dE names d.2.1).bind λj=> bif decide (j<0) then (bP 3 l at_ names c e b).bind λh=> some ((eta h.1),at_,c,h.2.1,h.2.2) else some ((Ex.mk 2 j d.2.2.2 []),(i64.wrap (at_+1)),c,e,b)) else ( ah (d.1==3) λw=> ah (d.2.1==[40]) λv=> ah (w&&v) λu=> bif u then ( (z (l,(i64.wrap (at_+1)),names,c,e,b)).bind λa=> ah (a.2.2.2.1==0) λi=> bl i default (aU l a.2.1 names a.2.2.1 a.2.2.2.1 a.2.2.2.2) λp=> ah (p.1 != 3) λm=> bl (i&& !m) default (aU l a.2.1 names a.2.2.1 a.2.2.2.1 a.2.2.2.2) λo=> ah (o.2.1 != [41]) λt=> ah (m||t) λs=> ah (i&&s) λr=> bif r then ( (bP 2 l a.2.1 names a.2.2.1 a.2.2.2.1 a.2.2.2.2).bind λg=> some ((eta g.1),a.2.1,a.2.2.1,g.2.1,g.2.2)) else ( bif a.2.2.2.1==0 then some ((eta a.1),(i64.wrap (a.2.1+1)),a.2.2.1,a.2.2.2.1,a.2.2.2.2) else some ((eta a.1),a.2.1,a.2.2.1,a.2.2.2.1,a.2.2.2.2))) else ( (bP 2 l at_ names c e b).bind λf=> some ((eta f.1),at_,c,f.2.1,f.2.2))))
theorem J6(a:dq)(b:ky a):Ko (N9 a):=
 aY (.c .o (.c .o (.c .o (.c (.r [0] .o) .o)))) call221 func221 (al bZ (al cF (al o7 (al gq (al fk (al b aj)))))) aj aj λs=>(show _=rT bf aN a s.1 s.2.1 s.2.2.1 s.2.2.2.1 s.2.2.2.2.1 s.2.2.2.2.2 from by kernel_rfl).trans ((congrArg (λeta=>rT eta aN a s.1 s.2.1 s.2.2.1 s.2.2.2.1 s.2.2.2.2.1 s.2.2.2.2.2) aL).trans ((congrArg (λd=>rT id d a s.1 s.2.1 s.2.2.1 s.2.2.2.1 s.2.2.2.2.1 s.2.2.2.2.2) aO).trans (by kernel_rfl)))
def IM(a:dq)(b:X9):aq:=⟨215,[jF,Qw,(.fn 221 [] []),aV],bI,[(true,0,cR)],λs=>pI a b s.2.2.2.2.2.2 s.1 s.2.1 s.2.2.1 s.2.2.2.1 s.2.2.2.2.1 s.2.2.2.2.2.1⟩
def nS(eta:Ex->Ex)(j:Sh->(R:Type)->Option R->Option R)(i:Q2->Option Q3)(h:Q2->Option Q3)(ops:Q1)(l:Q6)(at_:Int)(names:aF)(b:Int)(e:Int)(a:Int):Option Q3:= (bC ops l at_ names b e a).bind λf=> bif !f.2 then (ve i l at_ names b e a).bind λd=> some ((eta d.1),d.2.1,d.2.2.1,d.2.2.2.1,d.2.2.2.2) else (aU l at_ names b e a).bind λg=> (h (l,(i64.wrap (at_+1)),names,b,e,a)).bind λc=> some ((Ex.mk f.1 0 g.2.2.2 ([(eta c.1)]:List Ex)),c.2.1,c.2.2.1,c.2.2.2.1,c.2.2.2.2)
theorem EL(a:dq)(d:ky a)(b:X9)(e:OK0 b):Ko (IM a b):=
 aY (.c .o (.r [0,8] .o)) call215 func215 (al cF (al (J6 a d) (al bZ (al e aj)))) aj aj λs=>(show _=nS bf aN a b s.2.2.2.2.2.2 s.1 s.2.1 s.2.2.1 s.2.2.2.1 s.2.2.2.2.1 s.2.2.2.2.2.1 from by kernel_rfl).trans ((congrArg (λeta=>nS eta aN a b s.2.2.2.2.2.2 s.1 s.2.1 s.2.2.1 s.2.2.2.1 s.2.2.2.2.1 s.2.2.2.2.2.1) aL).trans ((congrArg (λf=>nS id f a b s.2.2.2.2.2.2 s.1 s.2.1 s.2.2.1 s.2.2.2.1 s.2.2.2.2.1 s.2.2.2.2.2.1) aO).trans (by kernel_rfl)))
def OV(a:dq)(b:X9):aq:=⟨220,[jF],bI,[(true,0,cR)],λs=>uV a b s.1 s.2.1 s.2.2.1 s.2.2.2.1 s.2.2.2.2.1 s.2.2.2.2.2⟩
def rJ(eta:Ex->Ex)(g:Sh->(R:Type)->Option R->Option R)(f:Q2->Option Q3)(e:Q2->Option Q3)(l:Q6)(at_:Int)(names:aF)(c:Int)(d:Int)(b:Int):Option Q3:= (pI f e ([6]:zg) l at_ names c d b).bind λa=> some ((eta a.1),a.2.1,a.2.2.1,a.2.2.2.1,a.2.2.2.2)
theorem Jq(a:dq)(c:ky a)(b:X9)(d:OK0 b):Ko (OV a b):=
 aY .o call220 func220 (al (EL a c b d) aj) aj aj λs=>(show _=rJ bf aN a b s.1 s.2.1 s.2.2.1 s.2.2.2.1 s.2.2.2.2.1 s.2.2.2.2.2 from by kernel_rfl).trans ((congrArg (λeta=>rJ eta aN a b s.1 s.2.1 s.2.2.1 s.2.2.2.1 s.2.2.2.2.1 s.2.2.2.2.2) aL).trans ((congrArg (λe=>rJ id e a b s.1 s.2.1 s.2.2.1 s.2.2.2.1 s.2.2.2.2.1 s.2.2.2.2.2) aO).trans (by kernel_rfl)))
def vE(a:dq):aq:=⟨30,[jF,Qw],bI,[(true,0,cR)],λs=>pM a s.1 s.2.1 s.2.2.1 s.2.2.2.1 s.2.2.2.2.1 s.2.2.2.2.2⟩
def lR(eta:Ex->Ex)(h:Sh->(R:Type)->Option R->Option R)(g:Q2->Option Q3)(f:Q2->Option Q3)(l:Q6)(at_:Int)(names:aF)(a:Int)(e:Int)(c:Int):Option Q3:= bif decide (320<=a) then (bP 9 l at_ names a e c).bind λd=> some ((eta d.1),at_,a,d.2.1,d.2.2) else (uV g f l at_ names (i64.wrap (a+1)) e c).bind λb=> some ((eta b.1),b.2.1,(i64.wrap (b.2.2.1-1)),b.2.2.2.1,b.2.2.2.2)
def vQ(a:dq):X9->X9:=λb s=>vM a b s.1 s.2.1 s.2.2.1 s.2.2.2.1 s.2.2.2.2.1 s.2.2.2.2.2
theorem BA(a:dq)(c:ky a)(b:X9)(d:OK0 b):(ju (vQ a b)).Ok X0.P X0.Γ:=
 aY .o call30 func30 (al fk (al (Jq a c b d) aj)) aj aj λs=>(show _=lR bf aN a b s.1 s.2.1 s.2.2.1 s.2.2.2.1 s.2.2.2.2.1 s.2.2.2.2.2 from by kernel_rfl).trans ((congrArg (λeta=>lR eta aN a b s.1 s.2.1 s.2.2.1 s.2.2.2.1 s.2.2.2.2.1 s.2.2.2.2.2) aL).trans ((congrArg (λe=>lR id e a b s.1 s.2.1 s.2.2.1 s.2.2.2.1 s.2.2.2.2.1 s.2.2.2.2.2) aO).trans (by kernel_rfl)))
theorem DW(a:dq)(b:ky a):Ko (vE a):=(show vE a=ju (aw (vQ a) ax) by kernel_rfl)▸dR (X:=X0) (E:=ju) ⟨call30,λ_ _ h=>nomatch h⟩ (BA a b) ax
def HO(a:dq):aq:=⟨219,[jF],bI,[(true,0,cR)],λs=>ir a s.1 s.2.1 s.2.2.1 s.2.2.2.1 s.2.2.2.2.1 s.2.2.2.2.2⟩
def mR(eta:Ex->Ex)(f:Sh->(R:Type)->Option R->Option R)(e:Q2->Option Q3)(l:Q6)(at_:Int)(names:aF)(c:Int)(d:Int)(b:Int):Option Q3:= (pM e l at_ names c d b).bind λa=> some ((eta a.1),a.2.1,a.2.2.1,a.2.2.2.1,a.2.2.2.2)
theorem CA(a:dq)(b:ky a):Ko (HO a):=
 aY .o call219 func219 (al (DW a b) aj) aj aj λs=>(show _=mR bf aN a s.1 s.2.1 s.2.2.1 s.2.2.2.1 s.2.2.2.2.1 s.2.2.2.2.2 from by kernel_rfl).trans ((congrArg (λeta=>mR eta aN a s.1 s.2.1 s.2.2.1 s.2.2.2.1 s.2.2.2.2.1 s.2.2.2.2.2) aL).trans ((congrArg (λc=>mR id c a s.1 s.2.1 s.2.2.1 s.2.2.2.1 s.2.2.2.2.1 s.2.2.2.2.2) aO).trans (by kernel_rfl)))
def Lv(a:dq):aq:=⟨170,[jF,(.fn 219 [] []),aV],bI,[(true,0,cR)],λs=>se a s.2.2.2.2.2.2 s.1 s.2.1 s.2.2.1 s.2.2.2.1 s.2.2.2.2.1 s.2.2.2.2.2.1⟩
def FC(eta:Ex->Ex)(o:Sh->(R:Type)->Option R->Option R)(n:Q2->Option Q3)(ops:Q1)(l:Q6)(names:aF)(f:Cj->Option Q3):Int×Int×Int×Int×Int×Int×Int×(List Ex)->Option Q3:=λ⟨e,d,a,c,j,i,h,g⟩=> bif a==0 then (bC ops l e names d a c).bind λk=> bif !k.2 then some ((Ex.mk j i h g),e,d,a,c) else (aU l e names d a c).bind λm=> (ir n l (i64.wrap (e+1)) names d a c).bind λb=> f (b.2.1,b.2.2.1,b.2.2.2.1,b.2.2.2.2,k.1,0,m.2.2.2,([(Ex.mk j i h g),(eta b.1)]:List Ex)) else some ((Ex.mk j i h g),e,d,a,c)
def oM(eta:Ex->Ex)(f:Sh->(R:Type)->Option R->Option R)(e:Q2->Option Q3)(ops:Q1)(l:Q6)(at_:Int)(names:aF)(c:Int)(d:Int)(b:Int):Option Q3:= (ir e l at_ names c d b).bind λa=> aw (FC eta f e ops l names) ax (a.2.1,a.2.2.1,a.2.2.2.1,a.2.2.2.2,a.1.op,a.1.n,a.1.at_,a.1.l)
theorem FD(a:dq)(b:ky a):Ko (Lv a):=
 aY (.l ⟨[(true,0,cR),(true,6,EG),(true,7,Ln)],[]⟩ .o) call170 func170 (al (CA a b) (al cF (al bZ aj))) aj aj λs=>(show _=oM bf aN a s.2.2.2.2.2.2 s.1 s.2.1 s.2.2.1 s.2.2.2.1 s.2.2.2.2.1 s.2.2.2.2.2.1 from by kernel_rfl).trans ((congrArg (λeta=>oM eta aN a s.2.2.2.2.2.2 s.1 s.2.1 s.2.2.1 s.2.2.2.1 s.2.2.2.2.1 s.2.2.2.2.2.1) aL).trans ((congrArg (λc=>oM id c a s.2.2.2.2.2.2 s.1 s.2.1 s.2.2.1 s.2.2.2.1 s.2.2.2.2.1 s.2.2.2.2.2.1) aO).trans (by kernel_rfl)))
def MC(a:dq):aq:=⟨218,[jF],bI,[(true,0,cR)],λs=>km a s.1 s.2.1 s.2.2.1 s.2.2.2.1 s.2.2.2.2.1 s.2.2.2.2.2⟩
def pY(eta:Ex->Ex)(f:Sh->(R:Type)->Option R->Option R)(e:Q2->Option Q3)(l:Q6)(at_:Int)(names:aF)(c:Int)(d:Int)(b:Int):Option Q3:= (se e ([5]:zg) l at_ names c d b).bind λa=> some ((eta a.1),a.2.1,a.2.2.1,a.2.2.2.1,a.2.2.2.2)
theorem Hx(a:dq)(b:ky a):Ko (MC a):=
 aY .o call218 func218 (al (FD a b) aj) aj aj λs=>(show _=pY bf aN a s.1 s.2.1 s.2.2.1 s.2.2.2.1 s.2.2.2.2.1 s.2.2.2.2.2 from by kernel_rfl).trans ((congrArg (λeta=>pY eta aN a s.1 s.2.1 s.2.2.1 s.2.2.2.1 s.2.2.2.2.1 s.2.2.2.2.2) aL).trans ((congrArg (λc=>pY id c a s.1 s.2.1 s.2.2.1 s.2.2.2.1 s.2.2.2.2.1 s.2.2.2.2.2) aO).trans (by kernel_rfl)))
def Ku(a:dq):aq:=⟨170,[jF,(.fn 218 [] []),aV],bI,[(true,0,cR)],λs=>rD a s.2.2.2.2.2.2 s.1 s.2.1 s.2.2.1 s.2.2.2.1 s.2.2.2.2.1 s.2.2.2.2.2.1⟩
def Fu(eta:Ex->Ex)(o:Sh->(R:Type)->Option R->Option R)(n:Q2->Option Q3)(ops:Q1)(l:Q6)(names:aF)(f:Cj->Option Q3):Int×Int×Int×Int×Int×Int×Int×(List Ex)->Option Q3:=λ⟨e,d,a,c,j,i,h,g⟩=> bif a==0 then (bC ops l e names d a c).bind λk=> bif !k.2 then some ((Ex.mk j i h g),e,d,a,c) else (aU l e names d a c).bind λm=> (km n l (i64.wrap (e+1)) names d a c).bind λb=> f (b.2.1,b.2.2.1,b.2.2.2.1,b.2.2.2.2,k.1,0,m.2.2.2,([(Ex.mk j i h g),(eta b.1)]:List Ex)) else some ((Ex.mk j i h g),e,d,a,c)
def oD(eta:Ex->Ex)(f:Sh->(R:Type)->Option R->Option R)(e:Q2->Option Q3)(ops:Q1)(l:Q6)(at_:Int)(names:aF)(c:Int)(d:Int)(b:Int):Option Q3:= (km e l at_ names c d b).bind λa=> aw (Fu eta f e ops l names) ax (a.2.1,a.2.2.1,a.2.2.2.1,a.2.2.2.2,a.1.op,a.1.n,a.1.at_,a.1.l)
theorem FM(a:dq)(b:ky a):Ko (Ku a):=
 aY (.l ⟨[(true,0,cR),(true,6,EG),(true,7,Ln)],[]⟩ .o) call170 func170 (al (Hx a b) (al cF (al bZ aj))) aj aj λs=>(show _=oD bf aN a s.2.2.2.2.2.2 s.1 s.2.1 s.2.2.1 s.2.2.2.1 s.2.2.2.2.1 s.2.2.2.2.2.1 from by kernel_rfl).trans ((congrArg (λeta=>oD eta aN a s.2.2.2.2.2.2 s.1 s.2.1 s.2.2.1 s.2.2.2.1 s.2.2.2.2.1 s.2.2.2.2.2.1) aL).trans ((congrArg (λc=>oD id c a s.2.2.2.2.2.2 s.1 s.2.1 s.2.2.1 s.2.2.2.1 s.2.2.2.2.1 s.2.2.2.2.2.1) aO).trans (by kernel_rfl)))
def OC(a:dq):aq:=⟨217,[jF],bI,[(true,0,cR)],λs=>kX a s.1 s.2.1 s.2.2.1 s.2.2.2.1 s.2.2.2.2.1 s.2.2.2.2.2⟩
def rV(eta:Ex->Ex)(f:Sh->(R:Type)->Option R->Option R)(e:Q2->Option Q3)(l:Q6)(at_:Int)(names:aF)(c:Int)(d:Int)(b:Int):Option Q3:= (rD e ([3,4]:zg) l at_ names c d b).bind λa=> some ((eta a.1),a.2.1,a.2.2.1,a.2.2.2.1,a.2.2.2.2)
theorem IX(a:dq)(b:ky a):Ko (OC a):=
 aY .o call217 func217 (al (FM a b) aj) aj aj λs=>(show _=rV bf aN a s.1 s.2.1 s.2.2.1 s.2.2.2.1 s.2.2.2.2.1 s.2.2.2.2.2 from by kernel_rfl).trans ((congrArg (λeta=>rV eta aN a s.1 s.2.1 s.2.2.1 s.2.2.2.1 s.2.2.2.2.1 s.2.2.2.2.2) aL).trans ((congrArg (λc=>rV id c a s.1 s.2.1 s.2.2.1 s.2.2.2.1 s.2.2.2.2.1 s.2.2.2.2.2) aO).trans (by kernel_rfl)))
def O4(a:dq):aq:=⟨216,[jF],bI,[(true,0,cR)],λs=>uY a s.1 s.2.1 s.2.2.1 s.2.2.2.1 s.2.2.2.2.1 s.2.2.2.2.2⟩
def rZ(eta:Ex->Ex)(m:Sh->(R:Type)->Option R->Option R)(k:Q2->Option Q3)(l:Q6)(at_:Int)(names:aF)(e:Int)(g:Int)(c:Int):Option Q3:= (kX k l at_ names e g c).bind λa=> (bC ([7,8,9,10,11,12]:zg) l a.2.1 names a.2.2.1 a.2.2.2.1 a.2.2.2.2).bind λd=> ah (a.2.2.2.1 != 0) λj=> ah (!d.2) λi=> ah (j||i) λh=> bif h then ( some ((eta a.1),a.2.1,a.2.2.1,a.2.2.2.1,a.2.2.2.2)) else ( (aU l a.2.1 names a.2.2.1 a.2.2.2.1 a.2.2.2.2).bind λf=> (kX k l (i64.wrap (a.2.1+1)) names a.2.2.1 a.2.2.2.1 a.2.2.2.2).bind λb=> some ((Ex.mk d.1 0 f.2.2.2 ([(eta a.1),(eta b.1)]:List Ex)),b.2.1,b.2.2.1,b.2.2.2.1,b.2.2.2.2))
theorem IP(a:dq)(b:ky a):Ko (O4 a):=
 aY .o call216 func216 (al (IX a b) (al cF (al bZ aj))) aj aj λs=>(show _=rZ bf aN a s.1 s.2.1 s.2.2.1 s.2.2.2.1 s.2.2.2.2.1 s.2.2.2.2.2 from by kernel_rfl).trans ((congrArg (λeta=>rZ eta aN a s.1 s.2.1 s.2.2.1 s.2.2.2.1 s.2.2.2.2.1 s.2.2.2.2.2) aL).trans ((congrArg (λc=>rZ id c a s.1 s.2.1 s.2.2.1 s.2.2.2.1 s.2.2.2.2.1 s.2.2.2.2.2) aO).trans (by kernel_rfl)))
def IK(a:dq)(b:Xh):aq:=⟨215,[jF,Qo,(.fn 216 [] []),aV],bI,[(true,0,cR)],λs=>pZ a b s.2.2.2.2.2.2 s.1 s.2.1 s.2.2.1 s.2.2.2.1 s.2.2.2.2.1 s.2.2.2.2.2.1⟩
def nH(eta:Ex->Ex)(j:Sh->(R:Type)->Option R->Option R)(i:Q2->Option Q3)(h:Q2->Option Q3)(ops:Q1)(l:Q6)(at_:Int)(names:aF)(b:Int)(e:Int)(a:Int):Option Q3:= (bC ops l at_ names b e a).bind λf=> bif !f.2 then (uY i l at_ names b e a).bind λd=> some ((eta d.1),d.2.1,d.2.2.1,d.2.2.2.1,d.2.2.2.2) else (aU l at_ names b e a).bind λg=> (h (l,(i64.wrap (at_+1)),names,b,e,a)).bind λc=> some ((Ex.mk f.1 0 g.2.2.2 ([(eta c.1)]:List Ex)),c.2.1,c.2.2.1,c.2.2.2.1,c.2.2.2.2)
theorem ER(a:dq)(d:ky a)(b:Xh)(e:OK1 b):Ko (IK a b):=
 aY (.c .o (.r [0,8] .o)) call215 func215 (al cF (al (IP a d) (al bZ (al e aj)))) aj aj λs=>(show _=nH bf aN a b s.2.2.2.2.2.2 s.1 s.2.1 s.2.2.1 s.2.2.2.1 s.2.2.2.2.1 s.2.2.2.2.2.1 from by kernel_rfl).trans ((congrArg (λeta=>nH eta aN a b s.2.2.2.2.2.2 s.1 s.2.1 s.2.2.1 s.2.2.2.1 s.2.2.2.2.1 s.2.2.2.2.2.1) aL).trans ((congrArg (λf=>nH id f a b s.2.2.2.2.2.2 s.1 s.2.1 s.2.2.1 s.2.2.2.1 s.2.2.2.2.1 s.2.2.2.2.2.1) aO).trans (by kernel_rfl)))
def Px(a:dq)(b:Xh):aq:=⟨214,[jF],bI,[(true,0,cR)],λs=>uQ a b s.1 s.2.1 s.2.2.1 s.2.2.2.1 s.2.2.2.2.1 s.2.2.2.2.2⟩
def rI(eta:Ex->Ex)(g:Sh->(R:Type)->Option R->Option R)(f:Q2->Option Q3)(e:Q2->Option Q3)(l:Q6)(at_:Int)(names:aF)(c:Int)(d:Int)(b:Int):Option Q3:= (pZ f e ([15,20,21,22]:zg) l at_ names c d b).bind λa=> some ((eta a.1),a.2.1,a.2.2.1,a.2.2.2.1,a.2.2.2.2)
theorem I8(a:dq)(c:ky a)(b:Xh)(d:OK1 b):Ko (Px a b):=
 aY .o call214 func214 (al (ER a c b d) aj) aj aj λs=>(show _=rI bf aN a b s.1 s.2.1 s.2.2.1 s.2.2.2.1 s.2.2.2.2.1 s.2.2.2.2.2 from by kernel_rfl).trans ((congrArg (λeta=>rI eta aN a b s.1 s.2.1 s.2.2.1 s.2.2.2.1 s.2.2.2.2.1 s.2.2.2.2.2) aL).trans ((congrArg (λe=>rI id e a b s.1 s.2.1 s.2.2.1 s.2.2.2.1 s.2.2.2.2.1 s.2.2.2.2.2) aO).trans (by kernel_rfl)))
def vX(a:dq):aq:=⟨30,[jF,Qo],bI,[(true,0,cR)],λs=>pK a s.1 s.2.1 s.2.2.1 s.2.2.2.1 s.2.2.2.2.1 s.2.2.2.2.2⟩
def lT(eta:Ex->Ex)(h:Sh->(R:Type)->Option R->Option R)(g:Q2->Option Q3)(f:Q2->Option Q3)(l:Q6)(at_:Int)(names:aF)(a:Int)(e:Int)(c:Int):Option Q3:= bif decide (320<=a) then (bP 9 l at_ names a e c).bind λd=> some ((eta d.1),at_,a,d.2.1,d.2.2) else (uQ g f l at_ names (i64.wrap (a+1)) e c).bind λb=> some ((eta b.1),b.2.1,(i64.wrap (b.2.2.1-1)),b.2.2.2.1,b.2.2.2.2)
def vN(a:dq):Xh->Xh:=λb s=>vD a b s.1 s.2.1 s.2.2.1 s.2.2.2.1 s.2.2.2.2.1 s.2.2.2.2.2
theorem BW(a:dq)(c:ky a)(b:Xh)(d:OK1 b):(jj (vN a b)).Ok X0.P X0.Γ:=
 aY .o call30 func30 (al fk (al (I8 a c b d) aj)) aj aj λs=>(show _=lT bf aN a b s.1 s.2.1 s.2.2.1 s.2.2.2.1 s.2.2.2.2.1 s.2.2.2.2.2 from by kernel_rfl).trans ((congrArg (λeta=>lT eta aN a b s.1 s.2.1 s.2.2.1 s.2.2.2.1 s.2.2.2.2.1 s.2.2.2.2.2) aL).trans ((congrArg (λe=>lT id e a b s.1 s.2.1 s.2.2.1 s.2.2.2.1 s.2.2.2.2.1 s.2.2.2.2.2) aO).trans (by kernel_rfl)))
theorem DE(a:dq)(b:ky a):Ko (vX a):=(show vX a=jj (aw (vN a) ax) by kernel_rfl)▸dR (X:=X0) (E:=jj) ⟨call30,λ_ _ h=>nomatch h⟩ (BW a b) ax
def Ia(a:dq):aq:=⟨211,[jF],bI,[(true,0,cR)],λs=>oA a s.1 s.2.1 s.2.2.1 s.2.2.2.1 s.2.2.2.2.1 s.2.2.2.2.2⟩
def mJ(eta:Ex->Ex)(f:Sh->(R:Type)->Option R->Option R)(e:Q2->Option Q3)(l:Q6)(at_:Int)(names:aF)(c:Int)(d:Int)(b:Int):Option Q3:= (pK e l at_ names c d b).bind λa=> some ((eta a.1),a.2.1,a.2.2.1,a.2.2.2.1,a.2.2.2.2)
theorem Cr(a:dq)(b:ky a):Ko (Ia a):=
 aY .o call211 func211 (al (DE a b) aj) aj aj λs=>(show _=mJ bf aN a s.1 s.2.1 s.2.2.1 s.2.2.2.1 s.2.2.2.2.1 s.2.2.2.2.2 from by kernel_rfl).trans ((congrArg (λeta=>mJ eta aN a s.1 s.2.1 s.2.2.1 s.2.2.2.1 s.2.2.2.2.1 s.2.2.2.2.2) aL).trans ((congrArg (λc=>mJ id c a s.1 s.2.1 s.2.2.1 s.2.2.2.1 s.2.2.2.2.1 s.2.2.2.2.2) aO).trans (by kernel_rfl)))
def L3(a:dq)(b:Xr):aq:=⟨55,[jF,(.fn 211 [] []),Qp,aV],bI,[(true,0,cR)],λs=>sq a b s.2.2.2.2.2.2 s.1 s.2.1 s.2.2.1 s.2.2.2.1 s.2.2.2.2.1 s.2.2.2.2.2.1⟩
def og(eta:Ex->Ex)(n:Sh->(R:Type)->Option R->Option R)(m:Q2->Option Q3)(k:Q2->Option Q3)(ops:Q1)(l:Q6)(at_:Int)(names:aF)(e:Int)(g:Int)(c:Int):Option Q3:= (oA m l at_ names e g c).bind λa=> (bC ops l a.2.1 names a.2.2.1 a.2.2.2.1 a.2.2.2.2).bind λd=> ah (a.2.2.2.1 != 0) λj=> ah (!d.2) λi=> ah (j||i) λh=> bif h then ( some ((eta a.1),a.2.1,a.2.2.1,a.2.2.2.1,a.2.2.2.2)) else ( (aU l a.2.1 names a.2.2.1 a.2.2.2.1 a.2.2.2.2).bind λf=> (k (l,(i64.wrap (a.2.1+1)),names,a.2.2.1,a.2.2.2.1,a.2.2.2.2)).bind λb=> some ((Ex.mk d.1 0 f.2.2.2 ([(eta a.1),(eta b.1)]:List Ex)),b.2.1,b.2.2.1,b.2.2.2.1,b.2.2.2.2))
theorem FK(a:dq)(c:ky a)(b:Xr)(d:OK2 b):Ko (L3 a b):=
 aY .o call55 func55 (al (Cr a c) (al cF (al bZ (al d aj)))) aj aj λs=>(show _=og bf aN a b s.2.2.2.2.2.2 s.1 s.2.1 s.2.2.1 s.2.2.2.1 s.2.2.2.2.1 s.2.2.2.2.2.1 from by kernel_rfl).trans ((congrArg (λeta=>og eta aN a b s.2.2.2.2.2.2 s.1 s.2.1 s.2.2.1 s.2.2.2.1 s.2.2.2.2.1 s.2.2.2.2.2.1) aL).trans ((congrArg (λe=>og id e a b s.2.2.2.2.2.2 s.1 s.2.1 s.2.2.1 s.2.2.2.1 s.2.2.2.2.1 s.2.2.2.2.2.1) aO).trans (by kernel_rfl)))
def Lw(a:dq)(b:Xr):aq:=⟨202,[jF],bI,[(true,0,cR)],λs=>rK a b s.1 s.2.1 s.2.2.1 s.2.2.2.1 s.2.2.2.2.1 s.2.2.2.2.2⟩
def ov(eta:Ex->Ex)(g:Sh->(R:Type)->Option R->Option R)(f:Q2->Option Q3)(e:Q2->Option Q3)(l:Q6)(at_:Int)(names:aF)(c:Int)(d:Int)(b:Int):Option Q3:= (sq f e ([23,24]:zg) l at_ names c d b).bind λa=> some ((eta a.1),a.2.1,a.2.2.1,a.2.2.2.1,a.2.2.2.2)
theorem Fq(a:dq)(c:ky a)(b:Xr)(d:OK2 b):Ko (Lw a b):=
 aY .o call202 func202 (al (FK a c b d) aj) aj aj λs=>(show _=ov bf aN a b s.1 s.2.1 s.2.2.1 s.2.2.2.1 s.2.2.2.2.1 s.2.2.2.2.2 from by kernel_rfl).trans ((congrArg (λeta=>ov eta aN a b s.1 s.2.1 s.2.2.1 s.2.2.2.1 s.2.2.2.2.1 s.2.2.2.2.2) aL).trans ((congrArg (λe=>ov id e a b s.1 s.2.1 s.2.2.1 s.2.2.2.1 s.2.2.2.2.1 s.2.2.2.2.2) aO).trans (by kernel_rfl)))
def vU(a:dq):aq:=⟨30,[jF,Qp],bI,[(true,0,cR)],λs=>pQ a s.1 s.2.1 s.2.2.1 s.2.2.2.1 s.2.2.2.2.1 s.2.2.2.2.2⟩
def lO(eta:Ex->Ex)(h:Sh->(R:Type)->Option R->Option R)(g:Q2->Option Q3)(f:Q2->Option Q3)(l:Q6)(at_:Int)(names:aF)(a:Int)(e:Int)(c:Int):Option Q3:= bif decide (320<=a) then (bP 9 l at_ names a e c).bind λd=> some ((eta d.1),at_,a,d.2.1,d.2.2) else (rK g f l at_ names (i64.wrap (a+1)) e c).bind λb=> some ((eta b.1),b.2.1,(i64.wrap (b.2.2.1-1)),b.2.2.2.1,b.2.2.2.2)
def v8(a:dq):Xr->Xr:=λb s=>vI a b s.1 s.2.1 s.2.2.1 s.2.2.2.1 s.2.2.2.2.1 s.2.2.2.2.2
theorem BO(a:dq)(c:ky a)(b:Xr)(d:OK2 b):(jv (v8 a b)).Ok X0.P X0.Γ:=
 aY .o call30 func30 (al fk (al (Fq a c b d) aj)) aj aj λs=>(show _=lO bf aN a b s.1 s.2.1 s.2.2.1 s.2.2.2.1 s.2.2.2.2.1 s.2.2.2.2.2 from by kernel_rfl).trans ((congrArg (λeta=>lO eta aN a b s.1 s.2.1 s.2.2.1 s.2.2.2.1 s.2.2.2.2.1 s.2.2.2.2.2) aL).trans ((congrArg (λe=>lO id e a b s.1 s.2.1 s.2.2.1 s.2.2.2.1 s.2.2.2.2.1 s.2.2.2.2.2) aO).trans (by kernel_rfl)))
theorem Fc(a:dq)(b:ky a):Ko (vU a):=(show vU a=jv (aw (v8 a) ax) by kernel_rfl)▸dR (X:=X0) (E:=jv) ⟨call30,λ_ _ h=>nomatch h⟩ (BO a b) ax
def EN(a:dq):aq:=⟨189,[jF],bI,[(true,0,cR)],λs=>gD a s.1 s.2.1 s.2.2.1 s.2.2.2.1 s.2.2.2.2.1 s.2.2.2.2.2⟩
def lx(eta:Ex->Ex)(f:Sh->(R:Type)->Option R->Option R)(e:Q2->Option Q3)(l:Q6)(at_:Int)(names:aF)(c:Int)(d:Int)(b:Int):Option Q3:= (pQ e l at_ names c d b).bind λa=> some ((eta a.1),a.2.1,a.2.2.1,a.2.2.2.1,a.2.2.2.2)
theorem A9(a:dq)(b:ky a):Ko (EN a):=
 aY .o call189 func189 (al (Fc a b) aj) aj aj λs=>(show _=lx bf aN a s.1 s.2.1 s.2.2.1 s.2.2.2.1 s.2.2.2.2.1 s.2.2.2.2.2 from by kernel_rfl).trans ((congrArg (λeta=>lx eta aN a s.1 s.2.1 s.2.2.1 s.2.2.2.1 s.2.2.2.2.1 s.2.2.2.2.2) aL).trans ((congrArg (λc=>lx id c a s.1 s.2.1 s.2.2.1 s.2.2.2.1 s.2.2.2.2.1 s.2.2.2.2.2) aO).trans (by kernel_rfl)))
def LQ(a:dq):aq:=⟨170,[jF,(.fn 189 [] []),aV],bI,[(true,0,cR)],λs=>rS a s.2.2.2.2.2.2 s.1 s.2.1 s.2.2.1 s.2.2.2.1 s.2.2.2.2.1 s.2.2.2.2.2.1⟩
def FL(eta:Ex->Ex)(o:Sh->(R:Type)->Option R->Option R)(n:Q2->Option Q3)(ops:Q1)(l:Q6)(names:aF)(f:Cj->Option Q3):Int×Int×Int×Int×Int×Int×Int×(List Ex)->Option Q3:=λ⟨e,d,a,c,j,i,h,g⟩=> bif a==0 then (bC ops l e names d a c).bind λk=> bif !k.2 then some ((Ex.mk j i h g),e,d,a,c) else (aU l e names d a c).bind λm=> (gD n l (i64.wrap (e+1)) names d a c).bind λb=> f (b.2.1,b.2.2.1,b.2.2.2.1,b.2.2.2.2,k.1,0,m.2.2.2,([(Ex.mk j i h g),(eta b.1)]:List Ex)) else some ((Ex.mk j i h g),e,d,a,c)
def oF(eta:Ex->Ex)(f:Sh->(R:Type)->Option R->Option R)(e:Q2->Option Q3)(ops:Q1)(l:Q6)(at_:Int)(names:aF)(c:Int)(d:Int)(b:Int):Option Q3:= (gD e l at_ names c d b).bind λa=> aw (FL eta f e ops l names) ax (a.2.1,a.2.2.1,a.2.2.2.1,a.2.2.2.2,a.1.op,a.1.n,a.1.at_,a.1.l)
theorem Fs(a:dq)(b:ky a):Ko (LQ a):=
 aY (.l ⟨[(true,0,cR),(true,6,EG),(true,7,Ln)],[]⟩ .o) call170 func170 (al (A9 a b) (al cF (al bZ aj))) aj aj λs=>(show _=oF bf aN a s.2.2.2.2.2.2 s.1 s.2.1 s.2.2.1 s.2.2.2.1 s.2.2.2.2.1 s.2.2.2.2.2.1 from by kernel_rfl).trans ((congrArg (λeta=>oF eta aN a s.2.2.2.2.2.2 s.1 s.2.1 s.2.2.1 s.2.2.2.1 s.2.2.2.2.1 s.2.2.2.2.2.1) aL).trans ((congrArg (λc=>oF id c a s.2.2.2.2.2.2 s.1 s.2.1 s.2.2.1 s.2.2.2.1 s.2.2.2.2.1 s.2.2.2.2.2.1) aO).trans (by kernel_rfl)))
def Ot(a:dq):aq:=⟨171,[jF],bI,[(true,0,cR)],λs=>lq a s.1 s.2.1 s.2.2.1 s.2.2.2.1 s.2.2.2.2.1 s.2.2.2.2.2⟩
def sf(eta:Ex->Ex)(f:Sh->(R:Type)->Option R->Option R)(e:Q2->Option Q3)(l:Q6)(at_:Int)(names:aF)(c:Int)(d:Int)(b:Int):Option Q3:= (rS e ([16]:zg) l at_ names c d b).bind λa=> some ((eta a.1),a.2.1,a.2.2.1,a.2.2.2.1,a.2.2.2.2)
theorem IS(a:dq)(b:ky a):Ko (Ot a):=
 aY .o call171 func171 (al (Fs a b) aj) aj aj λs=>(show _=sf bf aN a s.1 s.2.1 s.2.2.1 s.2.2.2.1 s.2.2.2.2.1 s.2.2.2.2.2 from by kernel_rfl).trans ((congrArg (λeta=>sf eta aN a s.1 s.2.1 s.2.2.1 s.2.2.2.1 s.2.2.2.2.1 s.2.2.2.2.2) aL).trans ((congrArg (λc=>sf id c a s.1 s.2.1 s.2.2.1 s.2.2.2.1 s.2.2.2.2.1 s.2.2.2.2.2) aO).trans (by kernel_rfl)))
def M9(a:dq):aq:=⟨170,[jF,(.fn 171 [] []),aV],bI,[(true,0,cR)],λs=>tD a s.2.2.2.2.2.2 s.1 s.2.1 s.2.2.1 s.2.2.2.1 s.2.2.2.2.1 s.2.2.2.2.2.1⟩
def He(eta:Ex->Ex)(o:Sh->(R:Type)->Option R->Option R)(n:Q2->Option Q3)(ops:Q1)(l:Q6)(names:aF)(f:Cj->Option Q3):Int×Int×Int×Int×Int×Int×Int×(List Ex)->Option Q3:=λ⟨e,d,a,c,j,i,h,g⟩=> bif a==0 then (bC ops l e names d a c).bind λk=> bif !k.2 then some ((Ex.mk j i h g),e,d,a,c) else (aU l e names d a c).bind λm=> (lq n l (i64.wrap (e+1)) names d a c).bind λb=> f (b.2.1,b.2.2.1,b.2.2.2.1,b.2.2.2.2,k.1,0,m.2.2.2,([(Ex.mk j i h g),(eta b.1)]:List Ex)) else some ((Ex.mk j i h g),e,d,a,c)
def pN(eta:Ex->Ex)(f:Sh->(R:Type)->Option R->Option R)(e:Q2->Option Q3)(ops:Q1)(l:Q6)(at_:Int)(names:aF)(c:Int)(d:Int)(b:Int):Option Q3:= (lq e l at_ names c d b).bind λa=> aw (He eta f e ops l names) ax (a.2.1,a.2.2.1,a.2.2.2.1,a.2.2.2.2,a.1.op,a.1.n,a.1.at_,a.1.l)
theorem HC(a:dq)(b:ky a):Ko (M9 a):=
 aY (.l ⟨[(true,0,cR),(true,6,EG),(true,7,Ln)],[]⟩ .o) call170 func170 (al (IS a b) (al cF (al bZ aj))) aj aj λs=>(show _=pN bf aN a s.2.2.2.2.2.2 s.1 s.2.1 s.2.2.1 s.2.2.2.1 s.2.2.2.2.1 s.2.2.2.2.2.1 from by kernel_rfl).trans ((congrArg (λeta=>pN eta aN a s.2.2.2.2.2.2 s.1 s.2.1 s.2.2.1 s.2.2.2.1 s.2.2.2.2.1 s.2.2.2.2.2.1) aL).trans ((congrArg (λc=>pN id c a s.2.2.2.2.2.2 s.1 s.2.1 s.2.2.1 s.2.2.2.1 s.2.2.2.2.1 s.2.2.2.2.2.1) aO).trans (by kernel_rfl)))
def RM(a:dq):aq:=⟨134,[jF],bI,[(true,0,cR)],λs=>xv a s.1 s.2.1 s.2.2.1 s.2.2.2.1 s.2.2.2.2.1 s.2.2.2.2.2⟩
def tW(eta:Ex->Ex)(f:Sh->(R:Type)->Option R->Option R)(e:Q2->Option Q3)(l:Q6)(at_:Int)(names:aF)(c:Int)(d:Int)(b:Int):Option Q3:= (tD e ([17]:zg) l at_ names c d b).bind λa=> some ((eta a.1),a.2.1,a.2.2.1,a.2.2.2.1,a.2.2.2.2)
theorem Kt(a:dq)(b:ky a):Ko (RM a):=
 aY .o call134 func134 (al (HC a b) aj) aj aj λs=>(show _=tW bf aN a s.1 s.2.1 s.2.2.1 s.2.2.2.1 s.2.2.2.2.1 s.2.2.2.2.2 from by kernel_rfl).trans ((congrArg (λeta=>tW eta aN a s.1 s.2.1 s.2.2.1 s.2.2.2.1 s.2.2.2.2.1 s.2.2.2.2.2) aL).trans ((congrArg (λc=>tW id c a s.1 s.2.1 s.2.2.1 s.2.2.2.1 s.2.2.2.2.1 s.2.2.2.2.2) aO).trans (by kernel_rfl)))
def LO(a:dq)(b:Ws):aq:=⟨55,[jF,(.fn 134 [] []),(.fn 90 [] []),aV],bI,[(true,0,cR)],λs=>sA a b s.2.2.2.2.2.2 s.1 s.2.1 s.2.2.1 s.2.2.2.1 s.2.2.2.2.1 s.2.2.2.2.2.1⟩
def ou(eta:Ex->Ex)(n:Sh->(R:Type)->Option R->Option R)(m:Q2->Option Q3)(k:Q2->Option Q3)(ops:Q1)(l:Q6)(at_:Int)(names:aF)(e:Int)(g:Int)(c:Int):Option Q3:= (xv m l at_ names e g c).bind λa=> (bC ops l a.2.1 names a.2.2.1 a.2.2.2.1 a.2.2.2.2).bind λd=> ah (a.2.2.2.1 != 0) λj=> ah (!d.2) λi=> ah (j||i) λh=> bif h then ( some ((eta a.1),a.2.1,a.2.2.1,a.2.2.2.1,a.2.2.2.2)) else ( (aU l a.2.1 names a.2.2.1 a.2.2.2.1 a.2.2.2.2).bind λf=> (k (l,(i64.wrap (a.2.1+1)),names,a.2.2.1,a.2.2.2.1,a.2.2.2.2)).bind λb=> some ((Ex.mk d.1 0 f.2.2.2 ([(eta a.1),(eta b.1)]:List Ex)),b.2.1,b.2.2.1,b.2.2.2.1,b.2.2.2.2))
theorem F5(a:dq)(c:ky a)(b:Ws)(d:OK3 b):Ko (LO a b):=
 aY .o call55 func55 (al (Kt a c) (al cF (al bZ (al d aj)))) aj aj λs=>(show _=ou bf aN a b s.2.2.2.2.2.2 s.1 s.2.1 s.2.2.1 s.2.2.2.1 s.2.2.2.2.1 s.2.2.2.2.2.1 from by kernel_rfl).trans ((congrArg (λeta=>ou eta aN a b s.2.2.2.2.2.2 s.1 s.2.1 s.2.2.1 s.2.2.2.1 s.2.2.2.2.1 s.2.2.2.2.2.1) aL).trans ((congrArg (λe=>ou id e a b s.2.2.2.2.2.2 s.1 s.2.1 s.2.2.1 s.2.2.2.1 s.2.2.2.2.1 s.2.2.2.2.2.1) aO).trans (by kernel_rfl)))
def Ol(a:dq)(b:Ws):aq:=⟨90,[jF],bI,[(true,0,cR)],λs=>uS a b s.1 s.2.1 s.2.2.1 s.2.2.2.1 s.2.2.2.2.1 s.2.2.2.2.2⟩
def sG(eta:Ex->Ex)(g:Sh->(R:Type)->Option R->Option R)(f:Q2->Option Q3)(e:Q2->Option Q3)(l:Q6)(at_:Int)(names:aF)(c:Int)(d:Int)(b:Int):Option Q3:= (sA f e ([18]:zg) l at_ names c d b).bind λa=> some ((eta a.1),a.2.1,a.2.2.1,a.2.2.2.1,a.2.2.2.2)
theorem Jk(a:dq)(c:ky a)(b:Ws)(d:OK3 b):Ko (Ol a b):=
 aY .o call90 func90 (al (F5 a c b d) aj) aj aj λs=>(show _=sG bf aN a b s.1 s.2.1 s.2.2.1 s.2.2.2.1 s.2.2.2.2.1 s.2.2.2.2.2 from by kernel_rfl).trans ((congrArg (λeta=>sG eta aN a b s.1 s.2.1 s.2.2.1 s.2.2.2.1 s.2.2.2.2.1 s.2.2.2.2.2) aL).trans ((congrArg (λe=>sG id e a b s.1 s.2.1 s.2.2.1 s.2.2.2.1 s.2.2.2.2.1 s.2.2.2.2.2) aO).trans (by kernel_rfl)))
def vu(a:dq):aq:=⟨30,[jF,(.fn 90 [] [])],bI,[(true,0,cR)],λs=>pO a s.1 s.2.1 s.2.2.1 s.2.2.2.1 s.2.2.2.2.1 s.2.2.2.2.2⟩
def lN(eta:Ex->Ex)(h:Sh->(R:Type)->Option R->Option R)(g:Q2->Option Q3)(f:Q2->Option Q3)(l:Q6)(at_:Int)(names:aF)(a:Int)(e:Int)(c:Int):Option Q3:= bif decide (320<=a) then (bP 9 l at_ names a e c).bind λd=> some ((eta d.1),at_,a,d.2.1,d.2.2) else (uS g f l at_ names (i64.wrap (a+1)) e c).bind λb=> some ((eta b.1),b.2.1,(i64.wrap (b.2.2.1-1)),b.2.2.2.1,b.2.2.2.2)
def vP(a:dq):Ws->Ws:=λb s=>vZ a b s.1 s.2.1 s.2.2.1 s.2.2.2.1 s.2.2.2.2.1 s.2.2.2.2.2
theorem Bw(a:dq)(c:ky a)(b:Ws)(d:OK3 b):(jo (vP a b)).Ok X0.P X0.Γ:=
 aY .o call30 func30 (al fk (al (Jk a c b d) aj)) aj aj λs=>(show _=lN bf aN a b s.1 s.2.1 s.2.2.1 s.2.2.2.1 s.2.2.2.2.1 s.2.2.2.2.2 from by kernel_rfl).trans ((congrArg (λeta=>lN eta aN a b s.1 s.2.1 s.2.2.1 s.2.2.2.1 s.2.2.2.2.1 s.2.2.2.2.2) aL).trans ((congrArg (λe=>lN id e a b s.1 s.2.1 s.2.2.1 s.2.2.2.1 s.2.2.2.2.1 s.2.2.2.2.2) aO).trans (by kernel_rfl)))
theorem E7(a:dq)(b:ky a):Ko (vu a):=(show vu a=jo (aw (vP a) ax) by kernel_rfl)▸dR (X:=X0) (E:=jo) ⟨call30,λ_ _ h=>nomatch h⟩ (Bw a b) ax
def HD(a:dq):aq:=⟨56,[jF],bI,[(true,0,cR)],λs=>oK a s.1 s.2.1 s.2.2.1 s.2.2.2.1 s.2.2.2.2.1 s.2.2.2.2.2⟩
def mW(eta:Ex->Ex)(f:Sh->(R:Type)->Option R->Option R)(e:Q2->Option Q3)(l:Q6)(at_:Int)(names:aF)(c:Int)(d:Int)(b:Int):Option Q3:= (pO e l at_ names c d b).bind λa=> some ((eta a.1),a.2.1,a.2.2.1,a.2.2.2.1,a.2.2.2.2)
theorem Ct(a:dq)(b:ky a):Ko (HD a):=
 aY .o call56 func56 (al (E7 a b) aj) aj aj λs=>(show _=mW bf aN a s.1 s.2.1 s.2.2.1 s.2.2.2.1 s.2.2.2.2.1 s.2.2.2.2.2 from by kernel_rfl).trans ((congrArg (λeta=>mW eta aN a s.1 s.2.1 s.2.2.1 s.2.2.2.1 s.2.2.2.2.1 s.2.2.2.2.2) aL).trans ((congrArg (λc=>mW id c a s.1 s.2.1 s.2.2.1 s.2.2.2.1 s.2.2.2.2.1 s.2.2.2.2.2) aO).trans (by kernel_rfl)))
def KA(a:dq):aq:=⟨55,[jF,(.fn 56 [] []),(.fn 31 [] []),aV],bI,[(true,0,cR)],λs=>sF a s.2.2.2.2.2.2 s.1 s.2.1 s.2.2.1 s.2.2.2.1 s.2.2.2.2.1 s.2.2.2.2.2.1⟩
def oY(eta:Ex->Ex)(m:Sh->(R:Type)->Option R->Option R)(k:Q2->Option Q3)(ops:Q1)(l:Q6)(at_:Int)(names:aF)(e:Int)(g:Int)(c:Int):Option Q3:= (oK k l at_ names e g c).bind λa=> (bC ops l a.2.1 names a.2.2.1 a.2.2.2.1 a.2.2.2.2).bind λd=> ah (a.2.2.2.1 != 0) λj=> ah (!d.2) λi=> ah (j||i) λh=> bif h then ( some ((eta a.1),a.2.1,a.2.2.1,a.2.2.2.1,a.2.2.2.2)) else ( (aU l a.2.1 names a.2.2.1 a.2.2.2.1 a.2.2.2.2).bind λf=> (k (l,(i64.wrap (a.2.1+1)),names,a.2.2.1,a.2.2.2.1,a.2.2.2.2)).bind λb=> some ((Ex.mk d.1 0 f.2.2.2 ([(eta a.1),(eta b.1)]:List Ex)),b.2.1,b.2.2.1,b.2.2.2.1,b.2.2.2.2))
theorem Fp(a:dq)(b:ky a):Ko (KA a):=
 aY .o call55 func55 (al (Ct a b) (al cF (al bZ (al b aj)))) aj aj λs=>(show _=oY bf aN a s.2.2.2.2.2.2 s.1 s.2.1 s.2.2.1 s.2.2.2.1 s.2.2.2.2.1 s.2.2.2.2.2.1 from by kernel_rfl).trans ((congrArg (λeta=>oY eta aN a s.2.2.2.2.2.2 s.1 s.2.1 s.2.2.1 s.2.2.2.1 s.2.2.2.2.1 s.2.2.2.2.2.1) aL).trans ((congrArg (λc=>oY id c a s.2.2.2.2.2.2 s.1 s.2.1 s.2.2.1 s.2.2.2.1 s.2.2.2.2.1 s.2.2.2.2.2.1) aO).trans (by kernel_rfl)))
def Ns(a:dq):aq:=⟨31,[jF],bI,[(true,0,cR)],λs=>vl a s.1 s.2.1 s.2.2.1 s.2.2.2.1 s.2.2.2.2.1 s.2.2.2.2.2⟩
def su(eta:Ex->Ex)(f:Sh->(R:Type)->Option R->Option R)(e:Q2->Option Q3)(l:Q6)(at_:Int)(names:aF)(c:Int)(d:Int)(b:Int):Option Q3:= (sF e ([19]:zg) l at_ names c d b).bind λa=> some ((eta a.1),a.2.1,a.2.2.1,a.2.2.2.1,a.2.2.2.2)
theorem IU(a:dq)(b:ky a):Ko (Ns a):=
 aY .o call31 func31 (al (Fp a b) aj) aj aj λs=>(show _=su bf aN a s.1 s.2.1 s.2.2.1 s.2.2.2.1 s.2.2.2.2.1 s.2.2.2.2.2 from by kernel_rfl).trans ((congrArg (λeta=>su eta aN a s.1 s.2.1 s.2.2.1 s.2.2.2.1 s.2.2.2.2.1 s.2.2.2.2.2) aL).trans ((congrArg (λc=>su id c a s.1 s.2.1 s.2.2.1 s.2.2.2.1 s.2.2.2.2.1 s.2.2.2.2.2) aO).trans (by kernel_rfl)))
def vt:aq:=⟨30,[jF,(.fn 31 [] [])],bI,[(true,0,cR)],U6 pU⟩
def lM(eta:Ex->Ex)(g:Sh->(R:Type)->Option R->Option R)(f:Q2->Option Q3)(l:Q6)(at_:Int)(names:aF)(a:Int)(e:Int)(c:Int):Option Q3:= bif decide (320<=a) then (bP 9 l at_ names a e c).bind λd=> some ((eta d.1),at_,a,d.2.1,d.2.2) else (vl f l at_ names (i64.wrap (a+1)) e c).bind λb=> some ((eta b.1),b.2.1,(i64.wrap (b.2.2.1-1)),b.2.2.2.1,b.2.2.2.2)
def vB:dq->dq:=λa s=>vz a s.1 s.2.1 s.2.2.1 s.2.2.2.1 s.2.2.2.2.1 s.2.2.2.2.2
theorem BJ(a:dq)(b:ky a):(js (vB a)).Ok X0.P X0.Γ:=
 aY .o call30 func30 (al fk (al (IU a b) aj)) aj aj λs=>(show _=lM bf aN a s.1 s.2.1 s.2.2.1 s.2.2.2.1 s.2.2.2.2.1 s.2.2.2.2.2 from by kernel_rfl).trans ((congrArg (λeta=>lM eta aN a s.1 s.2.1 s.2.2.1 s.2.2.2.1 s.2.2.2.2.1 s.2.2.2.2.2) aL).trans ((congrArg (λc=>lM id c a s.1 s.2.1 s.2.2.1 s.2.2.2.1 s.2.2.2.2.1 s.2.2.2.2.2) aO).trans (by kernel_rfl)))
theorem ES:Ko vt:=(show vt=js (aw (vB) ax) by kernel_rfl)▸dR (X:=X0) (E:=js) ⟨call30,λ_ _ h=>nomatch h⟩ (BJ) ax
def Yg:aq:=⟨12,[KR,an,DH],(.cQ [bI,an,an,an]),[],U3 Bu⟩
def wv(eta:Ex->Ex)(b:Sh->(R:Type)->Option R->Option R)(l:Q6)(at_:Int)(names:aF):Option eY:= (pU l at_ names 0 0 0).bind λa=> bif a.2.2.2.1 != 0 then some ((Ex.mk 0 0 0 []),0,a.2.2.2.1,a.2.2.2.2) else some ((eta a.1),a.2.1,0,0)
theorem PD:Ko Yg:=
 aY (.c (.r [6] .o) (.r [6] .o)) call12 func12 (al ES aj) aj aj λs=>(show _=wv bf aN s.1 s.2.1 s.2.2 from by kernel_rfl).trans ((congrArg (λeta=>wv eta aN s.1 s.2.1 s.2.2) aL).trans ((congrArg (λa=>wv id a s.1 s.2.1 s.2.2) aO).trans (by kernel_rfl)))
def Si:aq:=⟨13,[dy],Xg,[],λs=>kO s⟩
def ZM(eta:Ex->Ex)(C:Sh->(R:Type)->Option R->Option R)(B:Ex->Option gO)(e:Ex)(g:Q67->Option gO):Bool×Bool×Bool×Int->Option gO:=λ⟨b,d,a,h⟩=> bif decide (h<(List.length e.l:Int)) then (idx e.l h).bind λk=> (B (eta k)).bind λf=> bif f.2.1 != 0 then some (0,f.2.1,f.2.2) else ah (f.1==1) λA=> ah (b&&A) λz=> ah (f.1==2) λy=> ah (d&&y) λx=> ah (f.1 != 1) λw=> ah (a&&w) λv=> g (z,x,v,(i64.wrap (h+1))) else ah (decide (e.op<=6)) λu=> ah (u&&b) λt=> bif t then ( some (1,0,0)) else ( ah (λ(j:Bool)=>Dj e a j) λc=> ah (decide (6<e.op)) λs=> ah (decide (e.op<=12)) λr=> ah (s&&r) λq=> ah (q&&b) λi=> bif i then ( c i) else ( bif e.op==13 then c (e.op==13) else bif e.op==14 then c (e.op==14) else ah (decide (15<=e.op)) λp=> ah (decide (e.op<=19)) λo=> ah (p&&o) λn=> ah (n&&d) λm=> c m))
def BY(eta:Ex->Ex)(b:Sh->(R:Type)->Option R->Option R)(a:Ex->Option gO)(e:Ex):Option gO:= aw (ZM eta b a e) ax (true,true,true,0)
def Se:TK5->TK5:=λa s=>Az a s
theorem V3(a:TK5)(b:OK5 a):(xO (Se a)).Ok X0.P X0.Γ:=
 aY (.l ⟨[(false,5,.bool),(false,6,.bool),(false,7,.bool),(false,16,an)],[]⟩ (.c .o (.c .o (.j ⟨[(false,53,.bool)],[]⟩ .o .o)))) call13 func13 (al b aj) aj aj λs=>(show _=BY bf aN a s from by kernel_rfl).trans ((congrArg (λeta=>BY eta aN a s) aL).trans ((congrArg (λd=>BY id d a s) aO).trans (by kernel_rfl)))
theorem sW:Ko Si:=(show Si=xO (aw (Se) ax) by kernel_rfl)▸dR (X:=X0) (E:=xO) ⟨call13,λ_ _ h=>nomatch h⟩ (V3) ax
def YX:aq:=⟨13,[(.dat .ex [some 52])],Xg,[],λs=>EZ s⟩
def Ru(eta:Ex->Ex)(B:Sh->(R:Type)->Option R->Option R)(e:Ex)(g:Q67->Option gO):Bool×Bool×Bool×Int->Option gO:=λ⟨b,d,a,h⟩=> bif decide (h<(List.length e.l:Int)) then (idx e.l h).bind λk=> (kO (eta k)).bind λf=> bif f.2.1 != 0 then some (0,f.2.1,f.2.2) else ah (f.1==1) λA=> ah (b&&A) λz=> ah (f.1==2) λy=> ah (d&&y) λx=> ah (f.1 != 1) λw=> ah (a&&w) λv=> g (z,x,v,(i64.wrap (h+1))) else ah (decide (e.op<=6)) λu=> ah (u&&b) λt=> bif t then ( some (1,0,0)) else ( ah (λ(j:Bool)=>GR e a j) λc=> ah (decide (6<e.op)) λs=> ah (decide (e.op<=12)) λr=> ah (s&&r) λq=> ah (q&&b) λi=> bif i then ( c i) else ( bif e.op==13 then c (e.op==13) else bif e.op==14 then c (e.op==14) else ah (decide (15<=e.op)) λp=> ah (decide (e.op<=19)) λo=> ah (p&&o) λn=> ah (n&&d) λm=> c m))
def Aa(eta:Ex->Ex)(a:Sh->(R:Type)->Option R->Option R)(e:Ex):Option gO:= aw (Ru eta a e) ax (true,true,true,0)
theorem Ra:Ko YX:=
 aY (.l ⟨[(false,5,.bool),(false,6,.bool),(false,7,.bool),(false,16,an)],[]⟩ (.c .o (.c .o (.j ⟨[(false,53,.bool)],[]⟩ .o .o)))) call13 func13 (al sW aj) aj aj λs=>(show _=Aa bf aN s from by kernel_rfl).trans ((congrArg (λeta=>Aa eta aN s) aL).trans ((congrArg (λa=>Aa id a s) aO).trans (by kernel_rfl)))
def FI:bR:=⟨173,[afu,an],HX,none,false,false,bI,[(true,0,UF)],λs=>hU s.2.2.2.2.2.2.2 s.1 s.2.1 s.2.2.1 s.2.2.2.1 s.2.2.2.2.1 s.2.2.2.2.2.1 s.2.2.2.2.2.2.1⟩
def BI(eta:Ex->Ex)(b:Sh->(R:Type)->Option R->Option R)(a:eY):Option (Except cI ia):= some (.ok ((eta a.1),a.2.1))
def Bs(eta:Ex->Ex)(g:Sh->(R:Type)->Option R->Option R)(a:Int)(f:Int)(b:eY)(d:gO):Option (Except cI ia):= ah (λ(e:Unit)=>BI eta g b) λc=> bif d.1 != a then some (.error (4,b.1.at_)) else c ()
def Bv(eta:Ex->Ex)(f:Sh->(R:Type)->Option R->Option R)(b:Int)(at_:Int)(c:eY):Option (Except cI ia):= (EZ (eta c.1)).bind λa=> ah (λ(e:Unit)=>Bs eta f b at_ c a) λd=> bif a.2.1 != 0 then some (.error a.2) else d ()
def lP(eta:Ex->Ex)(j:Sh->(R:Type)->Option R->Option R)(c:Int)(l:Q6)(at_:Int)(b:aF)(e:Q8)(g:Q1)(f:aF)(i:Q9):Option (Except cI ia):= (Bu l at_ b).bind λa=> ah (λ(h:Unit)=>Bv eta j c at_ a) λd=> bif a.2.2.1 != 0 then some (.error a.2.2) else d ()
theorem pb:tv FI:=
 sJ (.r [0,40000] (.j ⟨[],[]⟩ .o (.s (.j ⟨[],[]⟩ .o (.j ⟨[],[]⟩ .o .o))))) call173 func173 (al PD (al Ra aj)) aj aj λs=>(show _=lP bf aN s.2.2.2.2.2.2.2 s.1 s.2.1 s.2.2.1 s.2.2.2.1 s.2.2.2.2.1 s.2.2.2.2.2.1 s.2.2.2.2.2.2.1 from by kernel_rfl).trans ((congrArg (λeta=>lP eta aN s.2.2.2.2.2.2.2 s.1 s.2.1 s.2.2.1 s.2.2.2.1 s.2.2.2.2.1 s.2.2.2.2.2.1 s.2.2.2.2.2.2.1) aL).trans ((congrArg (λa=>lP id a s.2.2.2.2.2.2.2 s.1 s.2.1 s.2.2.1 s.2.2.2.1 s.2.2.2.2.1 s.2.2.2.2.2.1 s.2.2.2.2.2.2.1) aO).trans (by kernel_rfl)))
def BT:aq:=⟨191,[(.dat uH [none]),(.bx 3 0 false [an])],.bool,[],U2 lu⟩
theorem yd:Ko BT:=
 aA .o call191 func191 aj
def rz:aq:=⟨203,[(.own uH 268 false),(.fn 191 [] [(.bx 3 0 false [an])])],an,[],U2 jI⟩
def oE(eta:Ex->Ex)(f:Sh->(R:Type)->Option R->Option R)(s:GF)(c:Int)(a:Int->y2)(b:Int):y2:= bif decide (b<(s.length:Int)) then (idx s b).bind λe=> (lu (e.1,(eta e.2)) c).bind λd=> bif d then ( some b) else ( a (i64.wrap (b+1))) else some (-1)
def fE(eta:Ex->Ex)(a:Sh->(R:Type)->Option R->Option R)(s:GF)(c:Int):y2:= aw (oE eta a s c) ax 0
theorem oT:Ko rz:=
 aY (.l ⟨[(false,8,an)],[]⟩ .o) call203 func203 (al yd aj) aj aj λs=>(show _=fE bf aN s.1 s.2 from by kernel_rfl).trans ((congrArg (λeta=>fE eta aN s.1 s.2) aL).trans ((congrArg (λa=>fE id a s.1 s.2) aO).trans (by kernel_rfl)))
def oP:aq:=⟨190,[(.own uH 268 false),(.fn 191 [] [(.bx 3 0 false [an])])],.bool,[],U2 fw⟩
theorem nh:Ko oP:=
 aA .o call190 func190 (al oT aj)
def Bx:bR:=⟨174,[afu,(.own uH 268 false)],HX,none,false,false,(.dat uH [some 53]),[(true,0,UF)],λs=>la s.2.2.2.2.2.2.2 s.1 s.2.1 s.2.2.1 s.2.2.2.1 s.2.2.2.2.1 s.2.2.2.2.2.1 s.2.2.2.2.2.2.1⟩
def x9(eta:Ex->Ex)(h:Sh->(R:Type)->Option R->Option R)(l:Q6)(at_:Int)(c:aF)(a:Q8)(d:Q1)(b:aF)(bk:Q9)(g:Int):Option Q47:= dw (fC [61] l (i64.wrap (at_+1)) c a d b bk) λf=> dw (hU 1 l f c a d b bk) λe=> some (.ok ((g,(eta e.1)),e.2))
def yc(eta:Ex->Ex)(o:Sh->(R:Type)->Option R->Option R)(f:GF)(l:Q6)(at_:Int)(a:aF)(b:Q8)(d:Q1)(c:aF)(bk:Q9)(n:jK):Option Q47:= (dE a n.2.1).bind λe=> ah (λ(m:Unit)=>x9 eta o l at_ a b d c bk e) λg=> ah (decide (e<0)) λh=> bl (!h) default (fw f e) λj=> ah (h||j) λk=> bif k then ( dw (cV 3 l at_ a b d c bk) λi=> i.elim) else ( g ())
def j9(eta:Ex->Ex)(j:Sh->(R:Type)->Option R->Option R)(e:GF)(l:Q6)(at_:Int)(c:aF)(a:Q8)(d:Q1)(b:aF)(bk:Q9):Option Q47:= (eK l at_ c a d b bk).bind λh=> ah (λ(i:Unit)=>yc eta j e l at_ c a d b bk h) λf=> bif h.1 != 1 then dw (cV 2 l at_ c a d b bk) λg=> g.elim else f ()
theorem ya:tv Bx:=
 sJ (.s (.s (.j ⟨[],[]⟩ .o (.r [0,40000] (.j ⟨[],[]⟩ .o (.r [0,4] .o)))))) call174 func174 (al eX (al gq (al nh aj))) (al kF (al pb (al fW aj))) aj λs=>(show _=j9 bf aN s.2.2.2.2.2.2.2 s.1 s.2.1 s.2.2.1 s.2.2.2.1 s.2.2.2.2.1 s.2.2.2.2.2.1 s.2.2.2.2.2.2.1 from by kernel_rfl).trans ((congrArg (λeta=>j9 eta aN s.2.2.2.2.2.2.2 s.1 s.2.1 s.2.2.1 s.2.2.2.1 s.2.2.2.2.1 s.2.2.2.2.2.1 s.2.2.2.2.2.2.1) aL).trans ((congrArg (λa=>j9 id a s.2.2.2.2.2.2.2 s.1 s.2.1 s.2.2.1 s.2.2.2.1 s.2.2.2.2.1 s.2.2.2.2.2.1 s.2.2.2.2.2.2.1) aO).trans (by kernel_rfl)))
def KW:bR:=⟨138,[(.bx 156 0 true [KR,an,DH,Qs,Lt,DH,VH])],HX,none,false,false,fD,[(true,0,aro)],U7 A1⟩
def Fh(eta:Ex->Ex)(m:Sh->(R:Type)->Option R->Option R)(l:Q6)(d:aF)(c:Q8)(g:Q1)(b:aF)(bk:Q9)(h:ia)(f:(Int×GF)->Option Q48):Int×GF->Option Q48:=λ⟨k,e⟩=> dw (la e l k d c g b bk) λa=> aM (aI (List.length e+List.length ([(a.1.1,(eta a.1.2))]:List YD)) 56)<| (iH 3 [59] l a.2 d c g b bk).bind λj=> bif j then ( aM (aI (List.length bk+List.length ([((i64.wrap ((b.length:Int)-1)),(eta h.1),(e++([(a.1.1,(eta a.1.2))]:List YD)))]:List Q68)) 80)<| some (.ok ((i64.wrap (a.2+1)),(bk++([((i64.wrap ((b.length:Int)-1)),(eta h.1),(e++([(a.1.1,(eta a.1.2))]:List YD)))]:List Q68))))) else ( dw (fC [44] l a.2 d c g b bk) λi=> f (i,(e++([(a.1.1,(eta a.1.2))]:List YD))))
def F3(eta:Ex->Ex)(g:Sh->(R:Type)->Option R->Option R)(l:Q6)(at_:Int)(c:aF)(a:Q8)(d:Q1)(b:aF)(bk:Q9):Option Q48:= dw (hU 2 l at_ c a d b bk) λe=> dw (fC [58] l e.2 c a d b bk) λf=> aw (Fh eta g l c a d b bk e) ax (f,[])
def od(eta:Ex->Ex)(h:Sh->(R:Type)->Option R->Option R)(l:Q6)(at_:Int)(c:aF)(a:Q8)(d:Q1)(b:aF)(bk:Q9):Option Q48:= ah (λ(g:Unit)=>F3 eta h l at_ c a d b bk) λe=> bif decide (256<=(bk.length:Int)) then dw (cV 9 l at_ c a d b bk) λf=> f.elim else e ()
theorem FU:tv KW:=
 sJ (.j ⟨[],[]⟩ .o (.r [0,40000] (.l ⟨[(true,0,UF),(true,2,(.bx 265 0 true [.same,.same,.same,.same,.same,(.own uH 268 true)]))],[]⟩ (.r [0,2] (.c (.r [0,2] .o) .o))))) call138 func138 (al jz aj) (al pb (al kF (al ya (al fW aj)))) aj λs=>(show _=od bf aN s.1 s.2.1 s.2.2.1 s.2.2.2.1 s.2.2.2.2.1 s.2.2.2.2.2.1 s.2.2.2.2.2.2 from by kernel_rfl).trans ((congrArg (λeta=>od eta aN s.1 s.2.1 s.2.2.1 s.2.2.2.1 s.2.2.2.2.1 s.2.2.2.2.2.1 s.2.2.2.2.2.2) aL).trans ((congrArg (λa=>od id a s.1 s.2.1 s.2.2.1 s.2.2.2.1 s.2.2.2.2.1 s.2.2.2.2.2.1 s.2.2.2.2.2.2) aO).trans (by kernel_rfl)))
def KM:bR:=⟨99,[(.bx 156 0 true [KR,an,DH,Qs,Lt,BV,VH])],HX,none,false,false,fD,[(true,0,(.bx 156 0 true [.same,an,.same,.same,.same,BV,VH]))],U7 Be⟩
theorem Fw:tv KM:=
 sJ (.r [0] (.l ⟨[(true,0,aro)],[]⟩ .o)) call99 func99 (al jz aj) (al wo (al kF (al FU aj))) aj λ_=>by kernel_rfl
def VD:bR:=⟨65,[(.bx 156 0 true [KR,an,BV,Ky,gH,BV,VH])],HX,none,false,false,fD,[(true,0,aq6)],U7 JJ⟩
theorem MN:tv VD:=
 sJ (.l ⟨[(true,0,aq6),(true,2,(.bx 213 0 true [.same,.same]))],[]⟩ .o) call65 func65 (al eX (al jz aj)) (al EX (al fW (al Fw aj))) aj λ_=>by kernel_rfl
def ac0:aq:=⟨37,[.str],(.cQ [yJ,an,an]),[],λs=>R6 s⟩
theorem aqt:(⟨64,Tryz.f64⟩:lK).Ok X0.P:=⟨call64,func64⟩
theorem V8:Ko ac0:=
 aY .o call37 func37 (al Hb aj) (al MN aj) (al aqt aj) λ_=>by kernel_rfl
def Ul:aq:=⟨38,[(.bx 72 0 true [.str,.str,an,an,an,rE,an,an,DH,Qs,Lt,DH,(.own vh 265 false),an,an,an,(.own .ex 26 false),an,an,an,gH,jc,jc]),an,an,aV],.bool,[(true,0,ak7)],λs=>IW (d8 (d8 s)).2.2.2.2.2.2.2.1 (d8 (d8 (d8 s))).1 (d8 (d8 (d8 s))).2 s.1 s.2.1 s.2.2.1 s.2.2.2.1 s.2.2.2.2.1 s.2.2.2.2.2.1 s.2.2.2.2.2.2.1 s.2.2.2.2.2.2.2.1 s.2.2.2.2.2.2.2.2.1 (d8 s).2.1 (d8 s).2.2.1 (d8 s).2.2.2.1 (d8 s).2.2.2.2.1 (d8 s).2.2.2.2.2.1 (d8 s).2.2.2.2.2.2.1 (d8 s).2.2.2.2.2.2.2.1 (d8 (d8 s)).1 (d8 (d8 s)).2.1 (d8 (d8 s)).2.2.1 (d8 (d8 s)).2.2.2.1 (d8 (d8 s)).2.2.2.2.1 (d8 (d8 s)).2.2.2.2.2.1 (d8 (d8 s)).2.2.2.2.2.2.1⟩
theorem MO:Ko Ul:=
 aA .o call38 func38 aj
def Uj:aq:=⟨54,[fN,an],bI,[(true,0,(.bx 86 0 true [.same,.same,.same,.same,an,an]))],λs=>bX s.2.2.2.2.2.2 s.1 s.2.1 s.2.2.1 s.2.2.2.1 s.2.2.2.2.1 s.2.2.2.2.2.1⟩
theorem gC:Ko Uj:=
 aA (.c (.r [0] .o) .o) call54 func54 aj
def VC:aq:=⟨89,[aq1],(.dat j4 []),[],U6 aX⟩
theorem cE:Ko VC:=
 aA (.r [2] .o) call89 func89 aj
def Y6:aq:=⟨88,[aq1,aV],HJ,[],λs=>br s.2.2.2.2.2.2 s.1 s.2.1 s.2.2.1 s.2.2.2.1 s.2.2.2.2.1 s.2.2.2.2.2.1⟩
theorem dD:Ko Y6:=
 aA (.c .o (.l ⟨[(false,27,an)],[]⟩ .o)) call88 func88 (al cE (al o7 aj))
def Xd(a:cd):aq:=⟨221,[fN],bI,[(true,0,cR)],λs=>kh a s.1 s.2.1 s.2.2.1 s.2.2.2.1 s.2.2.2.2.1 s.2.2.2.2.2⟩
def xp(eta:Ex->Ex)(A:Sh->(R:Type)->Option R->Option R)(z:Q2->Option Q3)(l:Q6)(at_:Int)(names:aF)(c:Int)(e:Int)(b:Int):Option Q3:= bif e != 0 then some ((Ex.mk 0 0 0 []),at_,c,e,b) else (aX l at_ names c e b).bind λd=> (br ([13,14]:zg) l at_ names c e b).bind λk=> bif k.2 then ( some ((Ex.mk k.1 0 d.2.2.2 []),(i64.wrap (at_+1)),c,e,b)) else ( bif d.1==2 then some ((Ex.mk 1 d.2.2.1 d.2.2.2 []),(i64.wrap (at_+1)),c,e,b) else ah (d.1==1) λn=> bl n default (mI d.2.1) λq=> ah (!q) λy=> ah (n&&y) λx=> bif x then ( (dz names d.2.1).bind λj=> bif decide (j<0) then (bX 3 l at_ names c e b).bind λh=> some ((eta h.1),at_,c,h.2.1,h.2.2) else some ((Ex.mk 2 j d.2.2.2 []),(i64.wrap (at_+1)),c,e,b)) else ( ah (d.1==3) λw=> ah (d.2.1==[40]) λv=> ah (w&&v) λu=> bif u then ( (z (l,(i64.wrap (at_+1)),names,c,e,b)).bind λa=> ah (a.2.2.2.1==0) λi=> bl i default (aX l a.2.1 names a.2.2.1 a.2.2.2.1 a.2.2.2.2) λp=> ah (p.1 != 3) λm=> bl (i&& !m) default (aX l a.2.1 names a.2.2.1 a.2.2.2.1 a.2.2.2.2) λo=> ah (o.2.1 != [41]) λt=> ah (m||t) λs=> ah (i&&s) λr=> bif r then ( (bX 2 l a.2.1 names a.2.2.1 a.2.2.2.1 a.2.2.2.2).bind λg=> some ((eta g.1),a.2.1,a.2.2.1,g.2.1,g.2.2)) else ( bif a.2.2.2.1==0 then some ((eta a.1),(i64.wrap (a.2.1+1)),a.2.2.1,a.2.2.2.1,a.2.2.2.2) else some ((eta a.1),a.2.1,a.2.2.1,a.2.2.2.1,a.2.2.2.2))) else ( (bX 2 l at_ names c e b).bind λf=> some ((eta f.1),at_,c,f.2.1,f.2.2))))
theorem OL(a:cd)(b:gi a):Ko (Xd a):=
 aY .o call221 func221 (al cE (al dD (al o7 (al lL (al gC (al b aj)))))) aj aj λs=>(show _=xp bf aN a s.1 s.2.1 s.2.2.1 s.2.2.2.1 s.2.2.2.2.1 s.2.2.2.2.2 from by kernel_rfl).trans ((congrArg (λeta=>xp eta aN a s.1 s.2.1 s.2.2.1 s.2.2.2.1 s.2.2.2.2.1 s.2.2.2.2.2) aL).trans ((congrArg (λc=>xp id c a s.1 s.2.1 s.2.2.1 s.2.2.2.1 s.2.2.2.2.1 s.2.2.2.2.2) aO).trans (by kernel_rfl)))
def J0(a:cd)(b:Yh):aq:=⟨215,[fN,Qw,(.fn 221 [] []),aV],bI,[(true,0,cR)],λs=>pW a b s.2.2.2.2.2.2 s.1 s.2.1 s.2.2.1 s.2.2.2.1 s.2.2.2.2.1 s.2.2.2.2.2.1⟩
def ny(eta:Ex->Ex)(j:Sh->(R:Type)->Option R->Option R)(i:Q2->Option Q3)(h:Q2->Option Q3)(ops:Q1)(l:Q6)(at_:Int)(names:aF)(b:Int)(e:Int)(a:Int):Option Q3:= (br ops l at_ names b e a).bind λf=> bif !f.2 then (kh i l at_ names b e a).bind λd=> some ((eta d.1),d.2.1,d.2.2.1,d.2.2.2.1,d.2.2.2.2) else (aX l at_ names b e a).bind λg=> (h (l,(i64.wrap (at_+1)),names,b,e,a)).bind λc=> some ((Ex.mk f.1 0 g.2.2.2 ([(eta c.1)]:List Ex)),c.2.1,c.2.2.1,c.2.2.2.1,c.2.2.2.2)
theorem Du(a:cd)(d:gi a)(b:Yh)(e:OK6 b):Ko (J0 a b):=
 aY (.c .o (.r [0,8] .o)) call215 func215 (al dD (al (OL a d) (al cE (al e aj)))) aj aj λs=>(show _=ny bf aN a b s.2.2.2.2.2.2 s.1 s.2.1 s.2.2.1 s.2.2.2.1 s.2.2.2.2.1 s.2.2.2.2.2.1 from by kernel_rfl).trans ((congrArg (λeta=>ny eta aN a b s.2.2.2.2.2.2 s.1 s.2.1 s.2.2.1 s.2.2.2.1 s.2.2.2.2.1 s.2.2.2.2.2.1) aL).trans ((congrArg (λf=>ny id f a b s.2.2.2.2.2.2 s.1 s.2.1 s.2.2.1 s.2.2.2.1 s.2.2.2.2.1 s.2.2.2.2.2.1) aO).trans (by kernel_rfl)))
def Yb(a:cd)(b:Yh):aq:=⟨220,[fN],bI,[(true,0,cR)],λs=>kb a b s.1 s.2.1 s.2.2.1 s.2.2.2.1 s.2.2.2.2.1 s.2.2.2.2.2⟩
def w7(eta:Ex->Ex)(g:Sh->(R:Type)->Option R->Option R)(f:Q2->Option Q3)(e:Q2->Option Q3)(l:Q6)(at_:Int)(names:aF)(c:Int)(d:Int)(b:Int):Option Q3:= (pW f e ([6]:zg) l at_ names c d b).bind λa=> some ((eta a.1),a.2.1,a.2.2.1,a.2.2.2.1,a.2.2.2.2)
theorem PR(a:cd)(c:gi a)(b:Yh)(d:OK6 b):Ko (Yb a b):=
 aY .o call220 func220 (al (Du a c b d) aj) aj aj λs=>(show _=w7 bf aN a b s.1 s.2.1 s.2.2.1 s.2.2.2.1 s.2.2.2.2.1 s.2.2.2.2.2 from by kernel_rfl).trans ((congrArg (λeta=>w7 eta aN a b s.1 s.2.1 s.2.2.1 s.2.2.2.1 s.2.2.2.2.1 s.2.2.2.2.2) aL).trans ((congrArg (λe=>w7 id e a b s.1 s.2.1 s.2.2.1 s.2.2.2.1 s.2.2.2.2.1 s.2.2.2.2.2) aO).trans (by kernel_rfl)))
def wq(a:cd):aq:=⟨30,[fN,Qw],bI,[(true,0,cR)],λs=>sh a s.1 s.2.1 s.2.2.1 s.2.2.2.1 s.2.2.2.2.1 s.2.2.2.2.2⟩
def mF(eta:Ex->Ex)(h:Sh->(R:Type)->Option R->Option R)(g:Q2->Option Q3)(f:Q2->Option Q3)(l:Q6)(at_:Int)(names:aF)(a:Int)(e:Int)(c:Int):Option Q3:= bif decide (320<=a) then (bX 9 l at_ names a e c).bind λd=> some ((eta d.1),at_,a,d.2.1,d.2.2) else (kb g f l at_ names (i64.wrap (a+1)) e c).bind λb=> some ((eta b.1),b.2.1,(i64.wrap (b.2.2.1-1)),b.2.2.2.1,b.2.2.2.2)
def wZ(a:cd):Yh->Yh:=λb s=>oU a b s.1 s.2.1 s.2.2.1 s.2.2.2.1 s.2.2.2.2.1 s.2.2.2.2.2
theorem CK(a:cd)(c:gi a)(b:Yh)(d:OK6 b):(jP (wZ a b)).Ok X0.P X0.Γ:=
 aY .o call30 func30 (al gC (al (PR a c b d) aj)) aj aj λs=>(show _=mF bf aN a b s.1 s.2.1 s.2.2.1 s.2.2.2.1 s.2.2.2.2.1 s.2.2.2.2.2 from by kernel_rfl).trans ((congrArg (λeta=>mF eta aN a b s.1 s.2.1 s.2.2.1 s.2.2.2.1 s.2.2.2.2.1 s.2.2.2.2.2) aL).trans ((congrArg (λe=>mF id e a b s.1 s.2.1 s.2.2.1 s.2.2.2.1 s.2.2.2.2.1 s.2.2.2.2.2) aO).trans (by kernel_rfl)))
theorem FX(a:cd)(b:gi a):Ko (wq a):=(show wq a=jP (aw (wZ a) ax) by kernel_rfl)▸dR (X:=X0) (E:=jP) ⟨call30,λ_ _ h=>nomatch h⟩ (CK a b) ax
def MI(a:cd):aq:=⟨219,[fN],bI,[(true,0,cR)],λs=>dT a s.1 s.2.1 s.2.2.1 s.2.2.2.1 s.2.2.2.2.1 s.2.2.2.2.2⟩
def pE(eta:Ex->Ex)(f:Sh->(R:Type)->Option R->Option R)(e:Q2->Option Q3)(l:Q6)(at_:Int)(names:aF)(c:Int)(d:Int)(b:Int):Option Q3:= (sh e l at_ names c d b).bind λa=> some ((eta a.1),a.2.1,a.2.2.1,a.2.2.2.1,a.2.2.2.2)
theorem Ir(a:cd)(b:gi a):Ko (MI a):=
 aY .o call219 func219 (al (FX a b) aj) aj aj λs=>(show _=pE bf aN a s.1 s.2.1 s.2.2.1 s.2.2.2.1 s.2.2.2.2.1 s.2.2.2.2.2 from by kernel_rfl).trans ((congrArg (λeta=>pE eta aN a s.1 s.2.1 s.2.2.1 s.2.2.2.1 s.2.2.2.2.1 s.2.2.2.2.2) aL).trans ((congrArg (λc=>pE id c a s.1 s.2.1 s.2.2.1 s.2.2.2.1 s.2.2.2.2.1 s.2.2.2.2.2) aO).trans (by kernel_rfl)))
def MH(a:cd):aq:=⟨170,[fN,(.fn 219 [] []),aV],bI,[(true,0,cR)],λs=>tY a s.2.2.2.2.2.2 s.1 s.2.1 s.2.2.1 s.2.2.2.1 s.2.2.2.2.1 s.2.2.2.2.2.1⟩
def IA(eta:Ex->Ex)(o:Sh->(R:Type)->Option R->Option R)(n:Q2->Option Q3)(ops:Q1)(l:Q6)(names:aF)(f:Cj->Option Q3):Int×Int×Int×Int×Int×Int×Int×(List Ex)->Option Q3:=λ⟨e,d,a,c,j,i,h,g⟩=> bif a==0 then (br ops l e names d a c).bind λk=> bif !k.2 then some ((Ex.mk j i h g),e,d,a,c) else (aX l e names d a c).bind λm=> (dT n l (i64.wrap (e+1)) names d a c).bind λb=> f (b.2.1,b.2.2.1,b.2.2.2.1,b.2.2.2.2,k.1,0,m.2.2.2,([(Ex.mk j i h g),(eta b.1)]:List Ex)) else some ((Ex.mk j i h g),e,d,a,c)
def pF(eta:Ex->Ex)(f:Sh->(R:Type)->Option R->Option R)(e:Q2->Option Q3)(ops:Q1)(l:Q6)(at_:Int)(names:aF)(c:Int)(d:Int)(b:Int):Option Q3:= (dT e l at_ names c d b).bind λa=> aw (IA eta f e ops l names) ax (a.2.1,a.2.2.1,a.2.2.2.1,a.2.2.2.2,a.1.op,a.1.n,a.1.at_,a.1.l)
theorem HU(a:cd)(b:gi a):Ko (MH a):=
 aY (.l ⟨[(true,0,cR),(true,6,EG),(true,7,Ln)],[]⟩ .o) call170 func170 (al (Ir a b) (al dD (al cE aj))) aj aj λs=>(show _=pF bf aN a s.2.2.2.2.2.2 s.1 s.2.1 s.2.2.1 s.2.2.2.1 s.2.2.2.2.1 s.2.2.2.2.2.1 from by kernel_rfl).trans ((congrArg (λeta=>pF eta aN a s.2.2.2.2.2.2 s.1 s.2.1 s.2.2.1 s.2.2.2.1 s.2.2.2.2.1 s.2.2.2.2.2.1) aL).trans ((congrArg (λc=>pF id c a s.2.2.2.2.2.2 s.1 s.2.1 s.2.2.1 s.2.2.2.1 s.2.2.2.2.1 s.2.2.2.2.2.1) aO).trans (by kernel_rfl)))
def VR(a:cd):aq:=⟨218,[fN],bI,[(true,0,cR)],λs=>ez a s.1 s.2.1 s.2.2.1 s.2.2.2.1 s.2.2.2.2.1 s.2.2.2.2.2⟩
def vg(eta:Ex->Ex)(f:Sh->(R:Type)->Option R->Option R)(e:Q2->Option Q3)(l:Q6)(at_:Int)(names:aF)(c:Int)(d:Int)(b:Int):Option Q3:= (tY e ([5]:zg) l at_ names c d b).bind λa=> some ((eta a.1),a.2.1,a.2.2.1,a.2.2.2.1,a.2.2.2.2)
theorem MU(a:cd)(b:gi a):Ko (VR a):=
 aY .o call218 func218 (al (HU a b) aj) aj aj λs=>(show _=vg bf aN a s.1 s.2.1 s.2.2.1 s.2.2.2.1 s.2.2.2.2.1 s.2.2.2.2.2 from by kernel_rfl).trans ((congrArg (λeta=>vg eta aN a s.1 s.2.1 s.2.2.1 s.2.2.2.1 s.2.2.2.2.1 s.2.2.2.2.2) aL).trans ((congrArg (λc=>vg id c a s.1 s.2.1 s.2.2.1 s.2.2.2.1 s.2.2.2.2.1 s.2.2.2.2.2) aO).trans (by kernel_rfl)))
def MY(a:cd):aq:=⟨170,[fN,(.fn 218 [] []),aV],bI,[(true,0,cR)],λs=>tL a s.2.2.2.2.2.2 s.1 s.2.1 s.2.2.1 s.2.2.2.1 s.2.2.2.2.1 s.2.2.2.2.2.1⟩
def Hj(eta:Ex->Ex)(o:Sh->(R:Type)->Option R->Option R)(n:Q2->Option Q3)(ops:Q1)(l:Q6)(names:aF)(f:Cj->Option Q3):Int×Int×Int×Int×Int×Int×Int×(List Ex)->Option Q3:=λ⟨e,d,a,c,j,i,h,g⟩=> bif a==0 then (br ops l e names d a c).bind λk=> bif !k.2 then some ((Ex.mk j i h g),e,d,a,c) else (aX l e names d a c).bind λm=> (ez n l (i64.wrap (e+1)) names d a c).bind λb=> f (b.2.1,b.2.2.1,b.2.2.2.1,b.2.2.2.2,k.1,0,m.2.2.2,([(Ex.mk j i h g),(eta b.1)]:List Ex)) else some ((Ex.mk j i h g),e,d,a,c)
def pS(eta:Ex->Ex)(f:Sh->(R:Type)->Option R->Option R)(e:Q2->Option Q3)(ops:Q1)(l:Q6)(at_:Int)(names:aF)(c:Int)(d:Int)(b:Int):Option Q3:= (ez e l at_ names c d b).bind λa=> aw (Hj eta f e ops l names) ax (a.2.1,a.2.2.1,a.2.2.2.1,a.2.2.2.2,a.1.op,a.1.n,a.1.at_,a.1.l)
theorem HF(a:cd)(b:gi a):Ko (MY a):=
 aY (.l ⟨[(true,0,cR),(true,6,EG),(true,7,Ln)],[]⟩ .o) call170 func170 (al (MU a b) (al dD (al cE aj))) aj aj λs=>(show _=pS bf aN a s.2.2.2.2.2.2 s.1 s.2.1 s.2.2.1 s.2.2.2.1 s.2.2.2.2.1 s.2.2.2.2.2.1 from by kernel_rfl).trans ((congrArg (λeta=>pS eta aN a s.2.2.2.2.2.2 s.1 s.2.1 s.2.2.1 s.2.2.2.1 s.2.2.2.2.1 s.2.2.2.2.2.1) aL).trans ((congrArg (λc=>pS id c a s.2.2.2.2.2.2 s.1 s.2.1 s.2.2.1 s.2.2.2.1 s.2.2.2.2.1 s.2.2.2.2.2.1) aO).trans (by kernel_rfl)))
def YG(a:cd):aq:=⟨217,[fN],bI,[(true,0,cR)],λs=>ey a s.1 s.2.1 s.2.2.1 s.2.2.2.1 s.2.2.2.2.1 s.2.2.2.2.2⟩
def wF(eta:Ex->Ex)(f:Sh->(R:Type)->Option R->Option R)(e:Q2->Option Q3)(l:Q6)(at_:Int)(names:aF)(c:Int)(d:Int)(b:Int):Option Q3:= (tL e ([3,4]:zg) l at_ names c d b).bind λa=> some ((eta a.1),a.2.1,a.2.2.1,a.2.2.2.1,a.2.2.2.2)
theorem PC(a:cd)(b:gi a):Ko (YG a):=
 aY .o call217 func217 (al (HF a b) aj) aj aj λs=>(show _=wF bf aN a s.1 s.2.1 s.2.2.1 s.2.2.2.1 s.2.2.2.2.1 s.2.2.2.2.2 from by kernel_rfl).trans ((congrArg (λeta=>wF eta aN a s.1 s.2.1 s.2.2.1 s.2.2.2.1 s.2.2.2.2.1 s.2.2.2.2.2) aL).trans ((congrArg (λc=>wF id c a s.1 s.2.1 s.2.2.1 s.2.2.2.1 s.2.2.2.2.1 s.2.2.2.2.2) aO).trans (by kernel_rfl)))
def Xz(a:cd):aq:=⟨216,[fN],bI,[(true,0,cR)],λs=>kg a s.1 s.2.1 s.2.2.1 s.2.2.2.1 s.2.2.2.2.1 s.2.2.2.2.2⟩
def xq(eta:Ex->Ex)(m:Sh->(R:Type)->Option R->Option R)(k:Q2->Option Q3)(l:Q6)(at_:Int)(names:aF)(e:Int)(g:Int)(c:Int):Option Q3:= (ey k l at_ names e g c).bind λa=> (br ([7,8,9,10,11,12]:zg) l a.2.1 names a.2.2.1 a.2.2.2.1 a.2.2.2.2).bind λd=> ah (a.2.2.2.1 != 0) λj=> ah (!d.2) λi=> ah (j||i) λh=> bif h then ( some ((eta a.1),a.2.1,a.2.2.1,a.2.2.2.1,a.2.2.2.2)) else ( (aX l a.2.1 names a.2.2.1 a.2.2.2.1 a.2.2.2.2).bind λf=> (ey k l (i64.wrap (a.2.1+1)) names a.2.2.1 a.2.2.2.1 a.2.2.2.2).bind λb=> some ((Ex.mk d.1 0 f.2.2.2 ([(eta a.1),(eta b.1)]:List Ex)),b.2.1,b.2.2.1,b.2.2.2.1,b.2.2.2.2))
theorem OM(a:cd)(b:gi a):Ko (Xz a):=
 aY .o call216 func216 (al (PC a b) (al dD (al cE aj))) aj aj λs=>(show _=xq bf aN a s.1 s.2.1 s.2.2.1 s.2.2.2.1 s.2.2.2.2.1 s.2.2.2.2.2 from by kernel_rfl).trans ((congrArg (λeta=>xq eta aN a s.1 s.2.1 s.2.2.1 s.2.2.2.1 s.2.2.2.2.1 s.2.2.2.2.2) aL).trans ((congrArg (λc=>xq id c a s.1 s.2.1 s.2.2.1 s.2.2.2.1 s.2.2.2.2.1 s.2.2.2.2.2) aO).trans (by kernel_rfl)))
def N7(a:cd)(b:WB):aq:=⟨215,[fN,Qo,(.fn 216 [] []),aV],bI,[(true,0,cR)],λs=>uP a b s.2.2.2.2.2.2 s.1 s.2.1 s.2.2.1 s.2.2.2.1 s.2.2.2.2.1 s.2.2.2.2.2.1⟩
def sy(eta:Ex->Ex)(j:Sh->(R:Type)->Option R->Option R)(i:Q2->Option Q3)(h:Q2->Option Q3)(ops:Q1)(l:Q6)(at_:Int)(names:aF)(b:Int)(e:Int)(a:Int):Option Q3:= (br ops l at_ names b e a).bind λf=> bif !f.2 then (kg i l at_ names b e a).bind λd=> some ((eta d.1),d.2.1,d.2.2.1,d.2.2.2.1,d.2.2.2.2) else (aX l at_ names b e a).bind λg=> (h (l,(i64.wrap (at_+1)),names,b,e,a)).bind λc=> some ((Ex.mk f.1 0 g.2.2.2 ([(eta c.1)]:List Ex)),c.2.1,c.2.2.1,c.2.2.2.1,c.2.2.2.2)
theorem IZ(a:cd)(d:gi a)(b:WB)(e:OK7 b):Ko (N7 a b):=
 aY (.c .o (.r [0,8] .o)) call215 func215 (al dD (al (OM a d) (al cE (al e aj)))) aj aj λs=>(show _=sy bf aN a b s.2.2.2.2.2.2 s.1 s.2.1 s.2.2.1 s.2.2.2.1 s.2.2.2.2.1 s.2.2.2.2.2.1 from by kernel_rfl).trans ((congrArg (λeta=>sy eta aN a b s.2.2.2.2.2.2 s.1 s.2.1 s.2.2.1 s.2.2.2.1 s.2.2.2.2.1 s.2.2.2.2.2.1) aL).trans ((congrArg (λf=>sy id f a b s.2.2.2.2.2.2 s.1 s.2.1 s.2.2.1 s.2.2.2.1 s.2.2.2.2.1 s.2.2.2.2.2.1) aO).trans (by kernel_rfl)))
def Wx(a:cd)(b:WB):aq:=⟨214,[fN],bI,[(true,0,cR)],λs=>kj a b s.1 s.2.1 s.2.2.1 s.2.2.2.1 s.2.2.2.2.1 s.2.2.2.2.2⟩
def xi(eta:Ex->Ex)(g:Sh->(R:Type)->Option R->Option R)(f:Q2->Option Q3)(e:Q2->Option Q3)(l:Q6)(at_:Int)(names:aF)(c:Int)(d:Int)(b:Int):Option Q3:= (uP f e ([15,20,21,22]:zg) l at_ names c d b).bind λa=> some ((eta a.1),a.2.1,a.2.2.1,a.2.2.2.1,a.2.2.2.2)
theorem OH(a:cd)(c:gi a)(b:WB)(d:OK7 b):Ko (Wx a b):=
 aY .o call214 func214 (al (IZ a c b d) aj) aj aj λs=>(show _=xi bf aN a b s.1 s.2.1 s.2.2.1 s.2.2.2.1 s.2.2.2.2.1 s.2.2.2.2.2 from by kernel_rfl).trans ((congrArg (λeta=>xi eta aN a b s.1 s.2.1 s.2.2.1 s.2.2.2.1 s.2.2.2.2.1 s.2.2.2.2.2) aL).trans ((congrArg (λe=>xi id e a b s.1 s.2.1 s.2.2.1 s.2.2.2.1 s.2.2.2.2.1 s.2.2.2.2.2) aO).trans (by kernel_rfl)))
def xt(a:cd):aq:=⟨30,[fN,Qo],bI,[(true,0,cR)],λs=>rB a s.1 s.2.1 s.2.2.1 s.2.2.2.1 s.2.2.2.2.1 s.2.2.2.2.2⟩
def mK(eta:Ex->Ex)(h:Sh->(R:Type)->Option R->Option R)(g:Q2->Option Q3)(f:Q2->Option Q3)(l:Q6)(at_:Int)(names:aF)(a:Int)(e:Int)(c:Int):Option Q3:= bif decide (320<=a) then (bX 9 l at_ names a e c).bind λd=> some ((eta d.1),at_,a,d.2.1,d.2.2) else (kj g f l at_ names (i64.wrap (a+1)) e c).bind λb=> some ((eta b.1),b.2.1,(i64.wrap (b.2.2.1-1)),b.2.2.2.1,b.2.2.2.2)
def xE(a:cd):WB->WB:=λb s=>oV a b s.1 s.2.1 s.2.2.1 s.2.2.2.1 s.2.2.2.2.1 s.2.2.2.2.2
theorem Cv(a:cd)(c:gi a)(b:WB)(d:OK7 b):(jT (xE a b)).Ok X0.P X0.Γ:=
 aY .o call30 func30 (al gC (al (OH a c b d) aj)) aj aj λs=>(show _=mK bf aN a b s.1 s.2.1 s.2.2.1 s.2.2.2.1 s.2.2.2.2.1 s.2.2.2.2.2 from by kernel_rfl).trans ((congrArg (λeta=>mK eta aN a b s.1 s.2.1 s.2.2.1 s.2.2.2.1 s.2.2.2.2.1 s.2.2.2.2.2) aL).trans ((congrArg (λe=>mK id e a b s.1 s.2.1 s.2.2.1 s.2.2.2.1 s.2.2.2.2.1 s.2.2.2.2.2) aO).trans (by kernel_rfl)))
theorem FQ(a:cd)(b:gi a):Ko (xt a):=(show xt a=jT (aw (xE a) ax) by kernel_rfl)▸dR (X:=X0) (E:=jT) ⟨call30,λ_ _ h=>nomatch h⟩ (Cv a b) ax
def M6(a:cd):aq:=⟨211,[fN],bI,[(true,0,cR)],λs=>gh a s.1 s.2.1 s.2.2.1 s.2.2.2.1 s.2.2.2.2.1 s.2.2.2.2.2⟩
def pH(eta:Ex->Ex)(f:Sh->(R:Type)->Option R->Option R)(e:Q2->Option Q3)(l:Q6)(at_:Int)(names:aF)(c:Int)(d:Int)(b:Int):Option Q3:= (rB e l at_ names c d b).bind λa=> some ((eta a.1),a.2.1,a.2.2.1,a.2.2.2.1,a.2.2.2.2)
theorem H5(a:cd)(b:gi a):Ko (M6 a):=
 aY .o call211 func211 (al (FQ a b) aj) aj aj λs=>(show _=pH bf aN a s.1 s.2.1 s.2.2.1 s.2.2.2.1 s.2.2.2.2.1 s.2.2.2.2.2 from by kernel_rfl).trans ((congrArg (λeta=>pH eta aN a s.1 s.2.1 s.2.2.1 s.2.2.2.1 s.2.2.2.2.1 s.2.2.2.2.2) aL).trans ((congrArg (λc=>pH id c a s.1 s.2.1 s.2.2.1 s.2.2.2.1 s.2.2.2.2.1 s.2.2.2.2.2) aO).trans (by kernel_rfl)))
def Kx(a:cd)(b:Wm):aq:=⟨55,[fN,(.fn 211 [] []),Qp,aV],bI,[(true,0,cR)],λs=>sd a b s.2.2.2.2.2.2 s.1 s.2.1 s.2.2.1 s.2.2.2.1 s.2.2.2.2.1 s.2.2.2.2.2.1⟩
def oR(eta:Ex->Ex)(n:Sh->(R:Type)->Option R->Option R)(m:Q2->Option Q3)(k:Q2->Option Q3)(ops:Q1)(l:Q6)(at_:Int)(names:aF)(e:Int)(g:Int)(c:Int):Option Q3:= (gh m l at_ names e g c).bind λa=> (br ops l a.2.1 names a.2.2.1 a.2.2.2.1 a.2.2.2.2).bind λd=> ah (a.2.2.2.1 != 0) λj=> ah (!d.2) λi=> ah (j||i) λh=> bif h then ( some ((eta a.1),a.2.1,a.2.2.1,a.2.2.2.1,a.2.2.2.2)) else ( (aX l a.2.1 names a.2.2.1 a.2.2.2.1 a.2.2.2.2).bind λf=> (k (l,(i64.wrap (a.2.1+1)),names,a.2.2.1,a.2.2.2.1,a.2.2.2.2)).bind λb=> some ((Ex.mk d.1 0 f.2.2.2 ([(eta a.1),(eta b.1)]:List Ex)),b.2.1,b.2.2.1,b.2.2.2.1,b.2.2.2.2))
theorem Fg(a:cd)(c:gi a)(b:Wm)(d:OK8 b):Ko (Kx a b):=
 aY .o call55 func55 (al (H5 a c) (al dD (al cE (al d aj)))) aj aj λs=>(show _=oR bf aN a b s.2.2.2.2.2.2 s.1 s.2.1 s.2.2.1 s.2.2.2.1 s.2.2.2.2.1 s.2.2.2.2.2.1 from by kernel_rfl).trans ((congrArg (λeta=>oR eta aN a b s.2.2.2.2.2.2 s.1 s.2.1 s.2.2.1 s.2.2.2.1 s.2.2.2.2.1 s.2.2.2.2.2.1) aL).trans ((congrArg (λe=>oR id e a b s.2.2.2.2.2.2 s.1 s.2.1 s.2.2.1 s.2.2.2.1 s.2.2.2.2.1 s.2.2.2.2.2.1) aO).trans (by kernel_rfl)))
def RF(a:cd)(b:Wm):aq:=⟨202,[fN],bI,[(true,0,cR)],λs=>iv a b s.1 s.2.1 s.2.2.1 s.2.2.2.1 s.2.2.2.2.1 s.2.2.2.2.2⟩
def tT(eta:Ex->Ex)(g:Sh->(R:Type)->Option R->Option R)(f:Q2->Option Q3)(e:Q2->Option Q3)(l:Q6)(at_:Int)(names:aF)(c:Int)(d:Int)(b:Int):Option Q3:= (sd f e ([23,24]:zg) l at_ names c d b).bind λa=> some ((eta a.1),a.2.1,a.2.2.1,a.2.2.2.1,a.2.2.2.2)
theorem Le(a:cd)(c:gi a)(b:Wm)(d:OK8 b):Ko (RF a b):=
 aY .o call202 func202 (al (Fg a c b d) aj) aj aj λs=>(show _=tT bf aN a b s.1 s.2.1 s.2.2.1 s.2.2.2.1 s.2.2.2.2.1 s.2.2.2.2.2 from by kernel_rfl).trans ((congrArg (λeta=>tT eta aN a b s.1 s.2.1 s.2.2.1 s.2.2.2.1 s.2.2.2.2.1 s.2.2.2.2.2) aL).trans ((congrArg (λe=>tT id e a b s.1 s.2.1 s.2.2.1 s.2.2.2.1 s.2.2.2.2.1 s.2.2.2.2.2) aO).trans (by kernel_rfl)))
def wx(a:cd):aq:=⟨30,[fN,Qp],bI,[(true,0,cR)],λs=>rQ a s.1 s.2.1 s.2.2.1 s.2.2.2.1 s.2.2.2.2.1 s.2.2.2.2.2⟩
def nb(eta:Ex->Ex)(h:Sh->(R:Type)->Option R->Option R)(g:Q2->Option Q3)(f:Q2->Option Q3)(l:Q6)(at_:Int)(names:aF)(a:Int)(e:Int)(c:Int):Option Q3:= bif decide (320<=a) then (bX 9 l at_ names a e c).bind λd=> some ((eta d.1),at_,a,d.2.1,d.2.2) else (iv g f l at_ names (i64.wrap (a+1)) e c).bind λb=> some ((eta b.1),b.2.1,(i64.wrap (b.2.2.1-1)),b.2.2.2.1,b.2.2.2.2)
def xx(a:cd):Wm->Wm:=λb s=>oC a b s.1 s.2.1 s.2.2.1 s.2.2.2.1 s.2.2.2.2.1 s.2.2.2.2.2
theorem CJ(a:cd)(c:gi a)(b:Wm)(d:OK8 b):(jJ (xx a b)).Ok X0.P X0.Γ:=
 aY .o call30 func30 (al gC (al (Le a c b d) aj)) aj aj λs=>(show _=nb bf aN a b s.1 s.2.1 s.2.2.1 s.2.2.2.1 s.2.2.2.2.1 s.2.2.2.2.2 from by kernel_rfl).trans ((congrArg (λeta=>nb eta aN a b s.1 s.2.1 s.2.2.1 s.2.2.2.1 s.2.2.2.2.1 s.2.2.2.2.2) aL).trans ((congrArg (λe=>nb id e a b s.1 s.2.1 s.2.2.1 s.2.2.2.1 s.2.2.2.2.1 s.2.2.2.2.2) aO).trans (by kernel_rfl)))
theorem F1(a:cd)(b:gi a):Ko (wx a):=(show wx a=jJ (aw (xx a) ax) by kernel_rfl)▸dR (X:=X0) (E:=jJ) ⟨call30,λ_ _ h=>nomatch h⟩ (CJ a b) ax
def Jg(a:cd):aq:=⟨189,[fN],bI,[(true,0,cR)],λs=>dx a s.1 s.2.1 s.2.2.1 s.2.2.2.1 s.2.2.2.2.1 s.2.2.2.2.2⟩
def nU(eta:Ex->Ex)(f:Sh->(R:Type)->Option R->Option R)(e:Q2->Option Q3)(l:Q6)(at_:Int)(names:aF)(c:Int)(d:Int)(b:Int):Option Q3:= (rQ e l at_ names c d b).bind λa=> some ((eta a.1),a.2.1,a.2.2.1,a.2.2.2.1,a.2.2.2.2)
theorem DC(a:cd)(b:gi a):Ko (Jg a):=
 aY .o call189 func189 (al (F1 a b) aj) aj aj λs=>(show _=nU bf aN a s.1 s.2.1 s.2.2.1 s.2.2.2.1 s.2.2.2.2.1 s.2.2.2.2.2 from by kernel_rfl).trans ((congrArg (λeta=>nU eta aN a s.1 s.2.1 s.2.2.1 s.2.2.2.1 s.2.2.2.2.1 s.2.2.2.2.2) aL).trans ((congrArg (λc=>nU id c a s.1 s.2.1 s.2.2.1 s.2.2.2.1 s.2.2.2.2.1 s.2.2.2.2.2) aO).trans (by kernel_rfl)))
def MQ(a:cd):aq:=⟨170,[fN,(.fn 189 [] []),aV],bI,[(true,0,cR)],λs=>tP a s.2.2.2.2.2.2 s.1 s.2.1 s.2.2.1 s.2.2.2.1 s.2.2.2.2.1 s.2.2.2.2.2.1⟩
def Iw(eta:Ex->Ex)(o:Sh->(R:Type)->Option R->Option R)(n:Q2->Option Q3)(ops:Q1)(l:Q6)(names:aF)(f:Cj->Option Q3):Int×Int×Int×Int×Int×Int×Int×(List Ex)->Option Q3:=λ⟨e,d,a,c,j,i,h,g⟩=> bif a==0 then (br ops l e names d a c).bind λk=> bif !k.2 then some ((Ex.mk j i h g),e,d,a,c) else (aX l e names d a c).bind λm=> (dx n l (i64.wrap (e+1)) names d a c).bind λb=> f (b.2.1,b.2.2.1,b.2.2.2.1,b.2.2.2.2,k.1,0,m.2.2.2,([(Ex.mk j i h g),(eta b.1)]:List Ex)) else some ((Ex.mk j i h g),e,d,a,c)
def pJ(eta:Ex->Ex)(f:Sh->(R:Type)->Option R->Option R)(e:Q2->Option Q3)(ops:Q1)(l:Q6)(at_:Int)(names:aF)(c:Int)(d:Int)(b:Int):Option Q3:= (dx e l at_ names c d b).bind λa=> aw (Iw eta f e ops l names) ax (a.2.1,a.2.2.1,a.2.2.2.1,a.2.2.2.2,a.1.op,a.1.n,a.1.at_,a.1.l)
theorem Ix(a:cd)(b:gi a):Ko (MQ a):=
 aY (.l ⟨[(true,0,cR),(true,6,EG),(true,7,Ln)],[]⟩ .o) call170 func170 (al (DC a b) (al dD (al cE aj))) aj aj λs=>(show _=pJ bf aN a s.2.2.2.2.2.2 s.1 s.2.1 s.2.2.1 s.2.2.2.1 s.2.2.2.2.1 s.2.2.2.2.2.1 from by kernel_rfl).trans ((congrArg (λeta=>pJ eta aN a s.2.2.2.2.2.2 s.1 s.2.1 s.2.2.1 s.2.2.2.1 s.2.2.2.2.1 s.2.2.2.2.2.1) aL).trans ((congrArg (λc=>pJ id c a s.2.2.2.2.2.2 s.1 s.2.1 s.2.2.1 s.2.2.2.1 s.2.2.2.2.1 s.2.2.2.2.2.1) aO).trans (by kernel_rfl)))
def Xi(a:cd):aq:=⟨171,[fN],bI,[(true,0,cR)],λs=>fa a s.1 s.2.1 s.2.2.1 s.2.2.2.1 s.2.2.2.2.1 s.2.2.2.2.2⟩
def wX(eta:Ex->Ex)(f:Sh->(R:Type)->Option R->Option R)(e:Q2->Option Q3)(l:Q6)(at_:Int)(names:aF)(c:Int)(d:Int)(b:Int):Option Q3:= (tP e ([16]:zg) l at_ names c d b).bind λa=> some ((eta a.1),a.2.1,a.2.2.1,a.2.2.2.1,a.2.2.2.2)
theorem PN(a:cd)(b:gi a):Ko (Xi a):=
 aY .o call171 func171 (al (Ix a b) aj) aj aj λs=>(show _=wX bf aN a s.1 s.2.1 s.2.2.1 s.2.2.2.1 s.2.2.2.2.1 s.2.2.2.2.2 from by kernel_rfl).trans ((congrArg (λeta=>wX eta aN a s.1 s.2.1 s.2.2.1 s.2.2.2.1 s.2.2.2.2.1 s.2.2.2.2.2) aL).trans ((congrArg (λc=>wX id c a s.1 s.2.1 s.2.2.1 s.2.2.2.1 s.2.2.2.2.1 s.2.2.2.2.2) aO).trans (by kernel_rfl)))
def Uy(a:cd):aq:=⟨170,[fN,(.fn 171 [] []),aV],bI,[(true,0,cR)],λs=>y4 a s.2.2.2.2.2.2 s.1 s.2.1 s.2.2.1 s.2.2.2.1 s.2.2.2.2.1 s.2.2.2.2.2.1⟩
def MV(eta:Ex->Ex)(o:Sh->(R:Type)->Option R->Option R)(n:Q2->Option Q3)(ops:Q1)(l:Q6)(names:aF)(f:Cj->Option Q3):Int×Int×Int×Int×Int×Int×Int×(List Ex)->Option Q3:=λ⟨e,d,a,c,j,i,h,g⟩=> bif a==0 then (br ops l e names d a c).bind λk=> bif !k.2 then some ((Ex.mk j i h g),e,d,a,c) else (aX l e names d a c).bind λm=> (fa n l (i64.wrap (e+1)) names d a c).bind λb=> f (b.2.1,b.2.2.1,b.2.2.2.1,b.2.2.2.2,k.1,0,m.2.2.2,([(Ex.mk j i h g),(eta b.1)]:List Ex)) else some ((Ex.mk j i h g),e,d,a,c)
def u7(eta:Ex->Ex)(f:Sh->(R:Type)->Option R->Option R)(e:Q2->Option Q3)(ops:Q1)(l:Q6)(at_:Int)(names:aF)(c:Int)(d:Int)(b:Int):Option Q3:= (fa e l at_ names c d b).bind λa=> aw (MV eta f e ops l names) ax (a.2.1,a.2.2.1,a.2.2.2.1,a.2.2.2.2,a.1.op,a.1.n,a.1.at_,a.1.l)
theorem MG(a:cd)(b:gi a):Ko (Uy a):=
 aY (.l ⟨[(true,0,cR),(true,6,EG),(true,7,Ln)],[]⟩ .o) call170 func170 (al (PN a b) (al dD (al cE aj))) aj aj λs=>(show _=u7 bf aN a s.2.2.2.2.2.2 s.1 s.2.1 s.2.2.1 s.2.2.2.1 s.2.2.2.2.1 s.2.2.2.2.2.1 from by kernel_rfl).trans ((congrArg (λeta=>u7 eta aN a s.2.2.2.2.2.2 s.1 s.2.1 s.2.2.1 s.2.2.2.1 s.2.2.2.2.1 s.2.2.2.2.2.1) aL).trans ((congrArg (λc=>u7 id c a s.2.2.2.2.2.2 s.1 s.2.1 s.2.2.1 s.2.2.2.1 s.2.2.2.2.1 s.2.2.2.2.2.1) aO).trans (by kernel_rfl)))
def ZY(a:cd):aq:=⟨134,[fN],bI,[(true,0,cR)],λs=>jG a s.1 s.2.1 s.2.2.1 s.2.2.2.1 s.2.2.2.2.1 s.2.2.2.2.2⟩
def Af(eta:Ex->Ex)(f:Sh->(R:Type)->Option R->Option R)(e:Q2->Option Q3)(l:Q6)(at_:Int)(names:aF)(c:Int)(d:Int)(b:Int):Option Q3:= (y4 e ([17]:zg) l at_ names c d b).bind λa=> some ((eta a.1),a.2.1,a.2.2.1,a.2.2.2.1,a.2.2.2.2)
theorem Rw(a:cd)(b:gi a):Ko (ZY a):=
 aY .o call134 func134 (al (MG a b) aj) aj aj λs=>(show _=Af bf aN a s.1 s.2.1 s.2.2.1 s.2.2.2.1 s.2.2.2.2.1 s.2.2.2.2.2 from by kernel_rfl).trans ((congrArg (λeta=>Af eta aN a s.1 s.2.1 s.2.2.1 s.2.2.2.1 s.2.2.2.2.1 s.2.2.2.2.2) aL).trans ((congrArg (λc=>Af id c a s.1 s.2.1 s.2.2.1 s.2.2.2.1 s.2.2.2.2.1 s.2.2.2.2.2) aO).trans (by kernel_rfl)))
def L5(a:cd)(b:XM):aq:=⟨55,[fN,(.fn 134 [] []),(.fn 90 [] []),aV],bI,[(true,0,cR)],λs=>rH a b s.2.2.2.2.2.2 s.1 s.2.1 s.2.2.1 s.2.2.2.1 s.2.2.2.2.1 s.2.2.2.2.2.1⟩
def oQ(eta:Ex->Ex)(n:Sh->(R:Type)->Option R->Option R)(m:Q2->Option Q3)(k:Q2->Option Q3)(ops:Q1)(l:Q6)(at_:Int)(names:aF)(e:Int)(g:Int)(c:Int):Option Q3:= (jG m l at_ names e g c).bind λa=> (br ops l a.2.1 names a.2.2.1 a.2.2.2.1 a.2.2.2.2).bind λd=> ah (a.2.2.2.1 != 0) λj=> ah (!d.2) λi=> ah (j||i) λh=> bif h then ( some ((eta a.1),a.2.1,a.2.2.1,a.2.2.2.1,a.2.2.2.2)) else ( (aX l a.2.1 names a.2.2.1 a.2.2.2.1 a.2.2.2.2).bind λf=> (k (l,(i64.wrap (a.2.1+1)),names,a.2.2.1,a.2.2.2.1,a.2.2.2.2)).bind λb=> some ((Ex.mk d.1 0 f.2.2.2 ([(eta a.1),(eta b.1)]:List Ex)),b.2.1,b.2.2.1,b.2.2.2.1,b.2.2.2.2))
theorem F0(a:cd)(c:gi a)(b:XM)(d:OK9 b):Ko (L5 a b):=
 aY .o call55 func55 (al (Rw a c) (al dD (al cE (al d aj)))) aj aj λs=>(show _=oQ bf aN a b s.2.2.2.2.2.2 s.1 s.2.1 s.2.2.1 s.2.2.2.1 s.2.2.2.2.1 s.2.2.2.2.2.1 from by kernel_rfl).trans ((congrArg (λeta=>oQ eta aN a b s.2.2.2.2.2.2 s.1 s.2.1 s.2.2.1 s.2.2.2.1 s.2.2.2.2.1 s.2.2.2.2.2.1) aL).trans ((congrArg (λe=>oQ id e a b s.2.2.2.2.2.2 s.1 s.2.1 s.2.2.1 s.2.2.2.1 s.2.2.2.2.1 s.2.2.2.2.2.1) aO).trans (by kernel_rfl)))
def WM(a:cd)(b:XM):aq:=⟨90,[fN],bI,[(true,0,cR)],λs=>jZ a b s.1 s.2.1 s.2.2.1 s.2.2.2.1 s.2.2.2.2.1 s.2.2.2.2.2⟩
def xk(eta:Ex->Ex)(g:Sh->(R:Type)->Option R->Option R)(f:Q2->Option Q3)(e:Q2->Option Q3)(l:Q6)(at_:Int)(names:aF)(c:Int)(d:Int)(b:Int):Option Q3:= (rH f e ([18]:zg) l at_ names c d b).bind λa=> some ((eta a.1),a.2.1,a.2.2.1,a.2.2.2.1,a.2.2.2.2)
theorem PA(a:cd)(c:gi a)(b:XM)(d:OK9 b):Ko (WM a b):=
 aY .o call90 func90 (al (F0 a c b d) aj) aj aj λs=>(show _=xk bf aN a b s.1 s.2.1 s.2.2.1 s.2.2.2.1 s.2.2.2.2.1 s.2.2.2.2.2 from by kernel_rfl).trans ((congrArg (λeta=>xk eta aN a b s.1 s.2.1 s.2.2.1 s.2.2.2.1 s.2.2.2.2.1 s.2.2.2.2.2) aL).trans ((congrArg (λe=>xk id e a b s.1 s.2.1 s.2.2.1 s.2.2.2.1 s.2.2.2.2.1 s.2.2.2.2.2) aO).trans (by kernel_rfl)))
def xu(a:cd):aq:=⟨30,[fN,(.fn 90 [] [])],bI,[(true,0,cR)],λs=>rX a s.1 s.2.1 s.2.2.1 s.2.2.2.1 s.2.2.2.2.1 s.2.2.2.2.2⟩
def mP(eta:Ex->Ex)(h:Sh->(R:Type)->Option R->Option R)(g:Q2->Option Q3)(f:Q2->Option Q3)(l:Q6)(at_:Int)(names:aF)(a:Int)(e:Int)(c:Int):Option Q3:= bif decide (320<=a) then (bX 9 l at_ names a e c).bind λd=> some ((eta d.1),at_,a,d.2.1,d.2.2) else (jZ g f l at_ names (i64.wrap (a+1)) e c).bind λb=> some ((eta b.1),b.2.1,(i64.wrap (b.2.2.1-1)),b.2.2.2.1,b.2.2.2.2)
def wJ(a:cd):XM->XM:=λb s=>om a b s.1 s.2.1 s.2.2.1 s.2.2.2.1 s.2.2.2.2.1 s.2.2.2.2.2
theorem CB(a:cd)(c:gi a)(b:XM)(d:OK9 b):(jQ (wJ a b)).Ok X0.P X0.Γ:=
 aY .o call30 func30 (al gC (al (PA a c b d) aj)) aj aj λs=>(show _=mP bf aN a b s.1 s.2.1 s.2.2.1 s.2.2.2.1 s.2.2.2.2.1 s.2.2.2.2.2 from by kernel_rfl).trans ((congrArg (λeta=>mP eta aN a b s.1 s.2.1 s.2.2.1 s.2.2.2.1 s.2.2.2.2.1 s.2.2.2.2.2) aL).trans ((congrArg (λe=>mP id e a b s.1 s.2.1 s.2.2.1 s.2.2.2.1 s.2.2.2.2.1 s.2.2.2.2.2) aO).trans (by kernel_rfl)))
theorem FP(a:cd)(b:gi a):Ko (xu a):=(show xu a=jQ (aw (wJ a) ax) by kernel_rfl)▸dR (X:=X0) (E:=jQ) ⟨call30,λ_ _ h=>nomatch h⟩ (CB a b) ax
def M5(a:cd):aq:=⟨56,[fN],bI,[(true,0,cR)],λs=>gu a s.1 s.2.1 s.2.2.1 s.2.2.2.1 s.2.2.2.2.1 s.2.2.2.2.2⟩
def pC(eta:Ex->Ex)(f:Sh->(R:Type)->Option R->Option R)(e:Q2->Option Q3)(l:Q6)(at_:Int)(names:aF)(c:Int)(d:Int)(b:Int):Option Q3:= (rX e l at_ names c d b).bind λa=> some ((eta a.1),a.2.1,a.2.2.1,a.2.2.2.1,a.2.2.2.2)
theorem Ho(a:cd)(b:gi a):Ko (M5 a):=
 aY .o call56 func56 (al (FP a b) aj) aj aj λs=>(show _=pC bf aN a s.1 s.2.1 s.2.2.1 s.2.2.2.1 s.2.2.2.2.1 s.2.2.2.2.2 from by kernel_rfl).trans ((congrArg (λeta=>pC eta aN a s.1 s.2.1 s.2.2.1 s.2.2.2.1 s.2.2.2.2.1 s.2.2.2.2.2) aL).trans ((congrArg (λc=>pC id c a s.1 s.2.1 s.2.2.1 s.2.2.2.1 s.2.2.2.2.1 s.2.2.2.2.2) aO).trans (by kernel_rfl)))
def QR(a:cd):aq:=⟨55,[fN,(.fn 56 [] []),(.fn 31 [] []),aV],bI,[(true,0,cR)],λs=>xI a s.2.2.2.2.2.2 s.1 s.2.1 s.2.2.1 s.2.2.2.1 s.2.2.2.2.1 s.2.2.2.2.2.1⟩
def tQ(eta:Ex->Ex)(m:Sh->(R:Type)->Option R->Option R)(k:Q2->Option Q3)(ops:Q1)(l:Q6)(at_:Int)(names:aF)(e:Int)(g:Int)(c:Int):Option Q3:= (gu k l at_ names e g c).bind λa=> (br ops l a.2.1 names a.2.2.1 a.2.2.2.1 a.2.2.2.2).bind λd=> ah (a.2.2.2.1 != 0) λj=> ah (!d.2) λi=> ah (j||i) λh=> bif h then ( some ((eta a.1),a.2.1,a.2.2.1,a.2.2.2.1,a.2.2.2.2)) else ( (aX l a.2.1 names a.2.2.1 a.2.2.2.1 a.2.2.2.2).bind λf=> (k (l,(i64.wrap (a.2.1+1)),names,a.2.2.1,a.2.2.2.1,a.2.2.2.2)).bind λb=> some ((Ex.mk d.1 0 f.2.2.2 ([(eta a.1),(eta b.1)]:List Ex)),b.2.1,b.2.2.1,b.2.2.2.1,b.2.2.2.2))
theorem Ly(a:cd)(b:gi a):Ko (QR a):=
 aY .o call55 func55 (al (Ho a b) (al dD (al cE (al b aj)))) aj aj λs=>(show _=tQ bf aN a s.2.2.2.2.2.2 s.1 s.2.1 s.2.2.1 s.2.2.2.1 s.2.2.2.2.1 s.2.2.2.2.2.1 from by kernel_rfl).trans ((congrArg (λeta=>tQ eta aN a s.2.2.2.2.2.2 s.1 s.2.1 s.2.2.1 s.2.2.2.1 s.2.2.2.2.1 s.2.2.2.2.2.1) aL).trans ((congrArg (λc=>tQ id c a s.2.2.2.2.2.2 s.1 s.2.1 s.2.2.1 s.2.2.2.1 s.2.2.2.2.1 s.2.2.2.2.2.1) aO).trans (by kernel_rfl)))
def XN(a:cd):aq:=⟨31,[fN],bI,[(true,0,cR)],λs=>kc a s.1 s.2.1 s.2.2.1 s.2.2.2.1 s.2.2.2.2.1 s.2.2.2.2.2⟩
def wQ(eta:Ex->Ex)(f:Sh->(R:Type)->Option R->Option R)(e:Q2->Option Q3)(l:Q6)(at_:Int)(names:aF)(c:Int)(d:Int)(b:Int):Option Q3:= (xI e ([19]:zg) l at_ names c d b).bind λa=> some ((eta a.1),a.2.1,a.2.2.1,a.2.2.2.1,a.2.2.2.2)
theorem O6(a:cd)(b:gi a):Ko (XN a):=
 aY .o call31 func31 (al (Ly a b) aj) aj aj λs=>(show _=wQ bf aN a s.1 s.2.1 s.2.2.1 s.2.2.2.1 s.2.2.2.2.1 s.2.2.2.2.2 from by kernel_rfl).trans ((congrArg (λeta=>wQ eta aN a s.1 s.2.1 s.2.2.1 s.2.2.2.1 s.2.2.2.2.1 s.2.2.2.2.2) aL).trans ((congrArg (λc=>wQ id c a s.1 s.2.1 s.2.2.1 s.2.2.2.1 s.2.2.2.2.1 s.2.2.2.2.2) aO).trans (by kernel_rfl)))
def B3:aq:=⟨30,[fN,(.fn 31 [] [])],bI,[(true,0,cR)],U6 rh⟩
def pG(eta:Ex->Ex)(g:Sh->(R:Type)->Option R->Option R)(f:Q2->Option Q3)(l:Q6)(at_:Int)(names:aF)(a:Int)(e:Int)(c:Int):Option Q3:= bif decide (320<=a) then (bX 9 l at_ names a e c).bind λd=> some ((eta d.1),at_,a,d.2.1,d.2.2) else (kc f l at_ names (i64.wrap (a+1)) e c).bind λb=> some ((eta b.1),b.2.1,(i64.wrap (b.2.2.1-1)),b.2.2.2.1,b.2.2.2.2)
def Cb:cd->cd:=λa s=>nw a s.1 s.2.1 s.2.2.1 s.2.2.2.1 s.2.2.2.2.1 s.2.2.2.2.2
theorem Ii(a:cd)(b:gi a):(mn (Cb a)).Ok X0.P X0.Γ:=
 aY .o call30 func30 (al gC (al (O6 a b) aj)) aj aj λs=>(show _=pG bf aN a s.1 s.2.1 s.2.2.1 s.2.2.2.1 s.2.2.2.2.1 s.2.2.2.2.2 from by kernel_rfl).trans ((congrArg (λeta=>pG eta aN a s.1 s.2.1 s.2.2.1 s.2.2.2.1 s.2.2.2.2.1 s.2.2.2.2.2) aL).trans ((congrArg (λc=>pG id c a s.1 s.2.1 s.2.2.1 s.2.2.2.1 s.2.2.2.2.1 s.2.2.2.2.2) aO).trans (by kernel_rfl)))
theorem K0:Ko B3:=(show B3=mn (aw (Cb) ax) by kernel_rfl)▸dR (X:=X0) (E:=mn) ⟨call30,λ_ _ h=>nomatch h⟩ (Ii) ax
def afN:aq:=⟨12,[(.sli j4),an,uC],(.cQ [bI,an,an,an]),[],U3 sO⟩
def Ez(eta:Ex->Ex)(b:Sh->(R:Type)->Option R->Option R)(l:Q6)(at_:Int)(names:aF):Option eY:= (rh l at_ names 0 0 0).bind λa=> bif a.2.2.2.1 != 0 then some ((Ex.mk 0 0 0 []),0,a.2.2.2.1,a.2.2.2.2) else some ((eta a.1),a.2.1,0,0)
theorem Yu:Ko afN:=
 aY (.c (.r [6] .o) (.r [6] .o)) call12 func12 (al K0 aj) aj aj λs=>(show _=Ez bf aN s.1 s.2.1 s.2.2 from by kernel_rfl).trans ((congrArg (λeta=>Ez eta aN s.1 s.2.1 s.2.2) aL).trans ((congrArg (λa=>Ez id a s.1 s.2.1 s.2.2) aO).trans (by kernel_rfl)))
def amS:aq:=⟨73,[dy],.bool,[],λs=>nG s⟩
def On(eta:Ex->Ex)(f:Sh->(R:Type)->Option R->Option R)(e:Ex):x6:= (kO (eta e)).bind λc=> ah (c.2.1==0) λd=> ah (c.1==2) λb=> ah (d&&b) λa=> some a
theorem Ek:Ko amS:=
 aY .o call73 func73 (al sW aj) aj aj λs=>(show _=On bf aN s from by kernel_rfl).trans ((congrArg (λeta=>On eta aN s) aL).trans ((congrArg (λa=>On id a s) aO).trans (by kernel_rfl)))
def abZ(a:Lq):aq:=⟨91,[an,.bool,Zb,(.bx 144 0 true [D9])],dy,[(true,3,adu),(true,1003,D9)],λs=>bp a s.1 s.2.1 s.2.2.1 s.2.2.2.1 s.2.2.2.2.1 s.2.2.2.2.2.1 s.2.2.2.2.2.2⟩
def By(eta:Ex->Ex)(d:Sh->(R:Type)->Option R->Option R)(c:SD->Option ia)(i:Int)(not:Bool)(e:Int)(g:Int)(f:Int)(L:(List Ex))(x:Int):Option ia:= (idx L i).bind λb=> (c ((eta b),not,x)).bind λa=> some ((eta a.1),a.2)
theorem Ei(a:Lq)(b:apn a):Ko (abZ a):=
 aY (.r [3,6] .o) call91 func91 (al b aj) aj aj λs=>(show _=By bf aN a s.1 s.2.1 s.2.2.1 s.2.2.2.1 s.2.2.2.2.1 s.2.2.2.2.2.1 s.2.2.2.2.2.2 from by kernel_rfl).trans ((congrArg (λeta=>By eta aN a s.1 s.2.1 s.2.2.1 s.2.2.2.1 s.2.2.2.2.1 s.2.2.2.2.2.1 s.2.2.2.2.2.2) aL).trans ((congrArg (λc=>By id c a s.1 s.2.1 s.2.2.1 s.2.2.2.1 s.2.2.2.2.1 s.2.2.2.2.2.1 s.2.2.2.2.2.2) aO).trans (by kernel_rfl)))
def abV:aq:=⟨92,[an,an,dy,dy,P9,Zb],bI,[],U9 eM⟩
def UU(eta:Ex->Ex)(d:Sh->(R:Type)->Option R->Option R)(a:Ex)(b:Ex)(At:Int)(c:Int):Option Ex:= some (Ex.mk c 0 At ([(eta a),(eta b)]:List Ex))
def BC(eta:Ex->Ex)(f:Sh->(R:Type)->Option R->Option R)(op:Int)(d:Int)(a:Ex)(b:Ex)(x:Bool)(g:Int)(h:Int)(At:Int)(i:(List Ex)):Option Ex:= ah (λ(e:Int)=>UU eta f a b At e) λc=> bif x then ( c d) else ( c op)
theorem Vr:Ko abV:=
 aY (.s (.j ⟨[(false,0,an)],[]⟩ .o .o)) call92 func92 aj aj aj λs=>(show _=BC bf aN s.1 s.2.1 s.2.2.1 s.2.2.2.1 s.2.2.2.2.1 s.2.2.2.2.2.1 s.2.2.2.2.2.2.1 s.2.2.2.2.2.2.2.1 s.2.2.2.2.2.2.2.2 from by kernel_rfl).trans ((congrArg (λeta=>BC eta aN s.1 s.2.1 s.2.2.1 s.2.2.2.1 s.2.2.2.2.1 s.2.2.2.2.2.1 s.2.2.2.2.2.2.1 s.2.2.2.2.2.2.2.1 s.2.2.2.2.2.2.2.2) aL).trans ((congrArg (λa=>BC id a s.1 s.2.1 s.2.2.1 s.2.2.2.1 s.2.2.2.2.1 s.2.2.2.2.2.1 s.2.2.2.2.2.2.1 s.2.2.2.2.2.2.2.1 s.2.2.2.2.2.2.2.2) aO).trans (by kernel_rfl)))
def acB(a:Lq):aq:=⟨94,[.bool,.bool,Zb,(.bx 208 0 true [(.fn 91 [] [(.ptr 0 0),(.bx 144 0 true [D9])])])],bI,[(true,3,(.bx 208 0 true [.same])),(true,1003,adu),(true,1004,D9)],λs=>px a s.1 s.2.1 s.2.2.1 s.2.2.2.1 s.2.2.2.2.1 s.2.2.2.2.2.1 s.2.2.2.2.2.2⟩
def BL(eta:Ex->Ex)(f:Sh->(R:Type)->Option R->Option R)(d:SD->Option ia)(x:Bool)(y:Bool)(e:Int)(N:Int)(At:Int)(L:(List Ex))(c:Int):Option ia:= (bp d 0 x e N At L c).bind λb=> (bp d 1 y e N At L b.2).bind λa=> some ((Ex.mk 16 0 At ([(eta b.1),(eta a.1)]:List Ex)),a.2)
theorem VW(a:Lq)(b:apn a):Ko (acB a):=
 aY (.r [3,6] .o) call94 func94 (al (Ei a b) aj) aj aj λs=>(show _=BL bf aN a s.1 s.2.1 s.2.2.1 s.2.2.2.1 s.2.2.2.2.1 s.2.2.2.2.2.1 s.2.2.2.2.2.2 from by kernel_rfl).trans ((congrArg (λeta=>BL eta aN a s.1 s.2.1 s.2.2.1 s.2.2.2.1 s.2.2.2.2.1 s.2.2.2.2.2.1 s.2.2.2.2.2.2) aL).trans ((congrArg (λc=>BL id c a s.1 s.2.1 s.2.2.1 s.2.2.2.1 s.2.2.2.2.1 s.2.2.2.2.2.1 s.2.2.2.2.2.2) aO).trans (by kernel_rfl)))
def abL:aq:=⟨93,[an,an,(.bx 144 0 true [D9]),P9,Zb],bI,[(true,2,adu),(true,1001,D9)],λs=>pz s.1 s.2.1 s.2.2.2.1 s.2.2.2.2.1 s.2.2.2.2.2.1 s.2.2.2.2.2.2.1 s.2.2.2.2.2.2.2 s.2.2.1⟩
theorem Vp:Ko abL:=
 aA .o call93 func93 aj
def Xl:aq:=⟨57,[dy,.bool,D9],dy,[(true,2,D9)],U3 K6⟩
def abT(eta:Ex->Ex)(h:Sh->(R:Type)->Option R->Option R)(g:SD->Option ia)(e:Ex)(not:Bool)(b:Int)(a:Bool):Option ia:= (bp g 0 a e.op e.n e.at_ e.l (i64.wrap (b-1))).bind λd=> (bp g 1 not e.op e.n e.at_ e.l d.2).bind λc=> (eM 17 16 (eta d.1) (eta c.1) not e.op e.n e.at_ e.l).bind λf=> some ((eta f),c.2)
def Dh(eta:Ex->Ex)(B:Sh->(R:Type)->Option R->Option R)(b:SD->Option ia)(e:Ex)(not:Bool)(a:Int):Option ia:= bif decide ((i64.wrap (a-1))<0) then some ((Ex.mk 0 0 0 []),(i64.wrap (a-1))) else (nG (eta e)).bind λA=> bif A then ( bif not then ( some ((Ex.mk 15 0 e.at_ ([(eta e)]:List Ex)),(i64.wrap (a-1)))) else ( some ((eta e),(i64.wrap (a-1))))) else ( ah (λ(y:Bool)=>abT eta B b e not a y) λm=> bif e.op==15 then (bp b 0 (!not) e.op e.n e.at_ e.l (i64.wrap ((i64.wrap (a-1))+1))).bind λt=> some ((eta t.1),t.2) else bif e.op==18 then m (!not) else bif e.op==17 then m not else bif e.op==16 then (bp b 0 not e.op e.n e.at_ e.l (i64.wrap (a-1))).bind λs=> (bp b 1 not e.op e.n e.at_ e.l s.2).bind λr=> (eM 16 17 (eta s.1) (eta r.1) not e.op e.n e.at_ e.l).bind λz=> some ((eta z),r.2) else bif e.op==19 then (px b false not e.op e.n e.at_ e.l (i64.wrap ((i64.wrap (a-1))-2))).bind λq=> (px b true (!not) e.op e.n e.at_ e.l q.2).bind λp=> some ((Ex.mk 17 0 e.at_ ([(eta q.1),(eta p.1)]:List Ex)),p.2) else bif e.op==20 then (bp b 0 not e.op e.n e.at_ e.l (i64.wrap (a-1))).bind λo=> some ((Ex.mk 20 0 e.at_ ([(eta o.1)]:List Ex)),o.2) else bif e.op==21 then (pz 13 14 not e.op e.n e.at_ e.l (i64.wrap (a-1))).bind λk=> (bp b 0 not e.op e.n e.at_ e.l k.2).bind λj=> (eM 23 24 (eta k.1) (eta j.1) not e.op e.n e.at_ e.l).bind λx=> some ((eta x),j.2) else bif e.op==22 then (pz 14 13 not e.op e.n e.at_ e.l (i64.wrap (a-1))).bind λi=> (bp b 0 not e.op e.n e.at_ e.l i.2).bind λh=> (eM 24 23 (eta i.1) (eta h.1) not e.op e.n e.at_ e.l).bind λw=> some ((eta w),h.2) else bif e.op==23 then (bp b 0 not e.op e.n e.at_ e.l (i64.wrap (a-1))).bind λg=> (bp b 1 not e.op e.n e.at_ e.l g.2).bind λf=> (eM 23 24 (eta g.1) (eta f.1) not e.op e.n e.at_ e.l).bind λv=> some ((eta v),f.2) else (bp b 0 not e.op e.n e.at_ e.l (i64.wrap (a-1))).bind λd=> (bp b 1 not e.op e.n e.at_ e.l d.2).bind λc=> (eM 24 23 (eta d.1) (eta c.1) not e.op e.n e.at_ e.l).bind λu=> some ((eta u),c.2))
def WA:Lq->Lq:=λa s=>gI a s.1 s.2.1 s.2.2
theorem Yf(a:Lq)(b:apn a):(AF (WA a)).Ok X0.P X0.Γ:=
 aY (.c .o (.c .o (.s (.s (.s (.s (.s (.s (.s (.s (.s (.s (.s (.s (.j ⟨[(true,6,EG),(true,7,(.bx 208 0 true [.same])),(true,5,adu),(true,2,(.bx 3 0 true [.same])),(false,10,.bool)],[]⟩ (.c .o (.c .o (.c .o (.c (.r [9,6] .o) (.c (.r [11,6] .o) (.c (.r [7,6] .o) (.c (.r [9,6] .o) (.c (.r [9,6] .o) (.c (.r [7,4,6] .o) (.r [7,4,6] .o)))))))))) (.r [7,4,6] .o)))))))))))))))) call57 func57 (al Ek (al (Ei a b) (al Vr (al (VW a b) (al Vp aj))))) aj aj λs=>(show _=Dh bf aN a s.1 s.2.1 s.2.2 from by kernel_rfl).trans ((congrArg (λeta=>Dh eta aN a s.1 s.2.1 s.2.2) aL).trans ((congrArg (λd=>Dh id d a s.1 s.2.1 s.2.2) aO).trans (by kernel_rfl)))
theorem acF:Ko Xl:=(show Xl=AF (aw (WA) ax) by kernel_rfl)▸dR (X:=X0) (E:=AF) ⟨call57,λ_ _ h=>nomatch h⟩ (Yf) ax
def alf:aq:=⟨32,[dy,.bool],(.cQ [dy,an]),[],U2 EH⟩
def Lp(eta:Ex->Ex)(b:Sh->(R:Type)->Option R->Option R)(e:Ex)(not:Bool):Option ia:= (K6 (eta e) not 24).bind λa=> bif decide (a.2<0) then some ((Ex.mk 0 0 0 []),9) else some ((eta a.1),0)
theorem acX:Ko alf:=
 aY .o call32 func32 (al acF aj) aj aj λs=>(show _=Lp bf aN s.1 s.2 from by kernel_rfl).trans ((congrArg (λeta=>Lp eta aN s.1 s.2) aL).trans ((congrArg (λa=>Lp id a s.1 s.2) aO).trans (by kernel_rfl)))
def anu:aq:=⟨14,[dy],(.cQ [dy,an]),[],λs=>Db s⟩
def Pq(eta:Ex->Ex)(b:Sh->(R:Type)->Option R->Option R)(e:Ex):Option ia:= (EH (eta e) true).bind λa=> some ((eta a.1),a.2)
theorem N5:Ko anu:=
 aY .o call14 func14 (al acX aj) aj aj λs=>(show _=Pq bf aN s from by kernel_rfl).trans ((congrArg (λeta=>Pq eta aN s) aL).trans ((congrArg (λa=>Pq id a s) aO).trans (by kernel_rfl)))
def Wi:aq:=⟨5,[.str,uC],(.cQ [dy,an,an]),[],U2 j8⟩
def wO(eta:Ex->Ex)(g:Sh->(R:Type)->Option R->Option R)(text:aD)(names:aF):Option Q63:= (sS text).bind λc=> bif c.2.1 != 0 then some ((Ex.mk 0 0 0 []),c.2.1,c.2.2) else (sO c.1 0 names).bind λa=> bif a.2.2.1 != 0 then some ((Ex.mk 0 0 0 []),a.2.2.1,a.2.2.2) else (idx c.1 a.2.1).bind λf=> bif f.1 != 4 then (idx c.1 a.2.1).bind λe=> some ((Ex.mk 0 0 0 []),2,e.2.2.2) else (kO (eta a.1)).bind λb=> bif b.2.1 != 0 then some ((Ex.mk 0 0 0 []),b.2.1,b.2.2) else bif b.1==1 then some ((Ex.mk 0 0 0 []),4,a.1.at_) else (Db (eta a.1)).bind λd=> bif d.2 != 0 then some ((Ex.mk 0 0 0 []),d.2,a.1.at_) else some ((eta a.1),0,0)
theorem sE:Ko Wi:=
 aY (.c .o (.c .o (.c (.r [4] .o) (.c .o (.c (.r [4] .o) (.c (.r [4] .o) .o)))))) call5 func5 (al Hb (al Yu (al sW (al N5 aj)))) aj aj λs=>(show _=wO bf aN s.1 s.2 from by kernel_rfl).trans ((congrArg (λeta=>wO eta aN s.1 s.2) aL).trans ((congrArg (λa=>wO id a s.1 s.2) aO).trans (by kernel_rfl)))
def MW:aq:=⟨38,[ak6,an,an,aV],.bool,[(true,0,ak7)],λs=>kx (d8 (d8 s)).2.2.2.2.2.2.2.1 (d8 (d8 (d8 s))).1 (d8 (d8 (d8 s))).2 s.1 s.2.1 s.2.2.1 s.2.2.2.1 s.2.2.2.2.1 s.2.2.2.2.2.1 s.2.2.2.2.2.2.1 s.2.2.2.2.2.2.2.1 s.2.2.2.2.2.2.2.2.1 (d8 s).2.1 (d8 s).2.2.1 (d8 s).2.2.2.1 (d8 s).2.2.2.2.1 (d8 s).2.2.2.2.2.1 (d8 s).2.2.2.2.2.2.1 (d8 s).2.2.2.2.2.2.2.1 (d8 (d8 s)).1 (d8 (d8 s)).2.1 (d8 (d8 s)).2.2.1 (d8 (d8 s)).2.2.2.1 (d8 (d8 s)).2.2.2.2.1 (d8 (d8 s)).2.2.2.2.2.1 (d8 (d8 s)).2.2.2.2.2.2.1⟩
theorem jn:Ko MW:=
 aA .o call38 func38 aj
def QL:aq:=⟨19,[(.bx 72 0 true [.str,.str,an,an,an,rE,an,an,BV,Ky,gH,BV,VH,an,an,an,(.own .ex 26 true),an,an,an,gH,jc,jc])],.bool,[(true,0,(.bx 72 0 true [.same,.same,.same,.same,.same,.same,.same,.same,uC,iN,aV,uC,(.sli vh),an,an,an,(.sli .ex),an,an,an,aV,jc,jc]))],λs=>wP s.1 s.2.1 s.2.2.1 s.2.2.2.1 s.2.2.2.2.1 s.2.2.2.2.2.1 s.2.2.2.2.2.2.1 s.2.2.2.2.2.2.2.1 s.2.2.2.2.2.2.2.2.1 (d8 s).2.1 (d8 s).2.2.1 (d8 s).2.2.2.1 (d8 s).2.2.2.2.1 (d8 s).2.2.2.2.2.1 (d8 s).2.2.2.2.2.2.1 (d8 s).2.2.2.2.2.2.2.1 (d8 (d8 s)).1 (d8 (d8 s)).2.1 (d8 (d8 s)).2.2.1 (d8 (d8 s)).2.2.2.1 (d8 (d8 s)).2.2.2.2.1 (d8 (d8 s)).2.2.2.2.2.1 (d8 (d8 s)).2.2.2.2.2.2⟩
theorem xX:Ko QL:=
 aA (.c .o (.r [40000] .o)) call19 func19 (al V8 (al MO (al sE (al jn aj))))
def Im:aq:=⟨40,[aV],gH,[],λs=>cZ s⟩
def Hs(s:Q1):Option Q1:= yK s ( some []) ( aM (aI (List.length ([]:zg)+List.length s) 8)<| some (([]:zg)++s))
theorem dH:Ko Im:=
 aY .o call40 func40 aj aj aj λs=>(show _=Hs s from by kernel_rfl).trans mo
def Bj:aq:=⟨139,[(.bx 218 0 true [.sfp,(.own aT 5 false)])],fD,[(true,0,(.bx 218 0 true [.sfp,.same]))],U2 kH⟩
theorem ml:Ko Bj:=
 aA .o call139 func139 aj
def x7:aq:=⟨103,[ZJ,.str],(.cQ [an,(.kr (.raw .nilIface))]),[(true,0,ZJ)],λs=>n6 s.2.2 s.1 s.2.1⟩
theorem vf:Ko x7:=
 aA .o call103 func103 (al ml aj)
def AJ:aq:=⟨105,[ZJ,je],(.kr (.raw .nilIface)),[(true,0,ZJ)],λs=>rf s.2.2 s.1 s.2.1⟩
theorem xW:Ko AJ:=
 aA .o call105 func105 (al ml aj)
def EY:aq:=⟨106,[ZJ],.str,[],U2 uw⟩
theorem Bl:Ko EY:=
 aA (.r [0] .o) call106 func106 aj
def ahu:aq:=⟨66,[aV],.str,[],λs=>abo s⟩
theorem Zl:Ko ahu:=
 aA (.l ⟨[(true,3,ZJ),(false,8,an)],[]⟩ .o) call66 func66 (al alR (al vf (al xW (al Bl aj))))
def XO:aq:=⟨39,[afx,aV],fD,[(true,0,afx)],λs=>lX s.2.2 s.1 s.2.1⟩
theorem Bn:Ko XO:=
 aA (.j ⟨[(true,0,(.bx 102 0 true [.same,(.mp .s .bo true)]))],[]⟩ .o .o) call39 func39 (al Zl aj)
def afv:aq:=⟨67,[yJ,aV],(.fn 107 [] [(.bx 70 0 true [uC,iN,aV,uC,(.sli vh)]),adt]),[],U2 Yn⟩
theorem Yx:Ko afv:=
 aA .o call67 func67 aj
def agn:aq:=⟨177,[.bool],an,[],λs=>CN s⟩
theorem Wh:Ko agn:=
 aA .o call177 func177 aj
def S5:aq:=⟨141,[dy,aV],an,[],U2 nY⟩
def aaz(eta:Ex->Ex)(z:Sh->(R:Type)->Option R->Option R)(y:(Ex×Q1)->y2)(e:Ex)(q:Q1)(b:gO->y2):Int×Int×Int->y2:=λ⟨a,c,d⟩=> bif decide (d<(List.length (bN e.l 0 (min (List.length e.l:Int) 2)):Int)) then (idx (bN e.l 0 (min (List.length e.l:Int) 2)) d).bind λt=> (y ((eta t),q)).bind λk=> bif d==0 then b (k,c,(i64.wrap (d+1))) else bif d==1 then b (a,k,(i64.wrap (d+1))) else none else ah (λ(j:Int×Int×Bool)=>O5 j.1 j.2.1 j.2.2) λp=> ah (λ(i:Int×Int×Bool)=>Pf i.1 i.2.1 i.2.2) λo=> ah (λ(h:Int×Int×Bool)=>OQ h.1 h.2.1 h.2.2) λg=> bif e.op==1 then some e.n else bif e.op==2 then ah (decide (e.n<0)) λw=> ah (decide ((q.length:Int)<=e.n)) λv=> ah (w||v) λu=> bif u then ( some 0) else ( (idx q e.n).bind λs=> some s) else bif e.op==3 then some (i64.wrap (a+c)) else bif e.op==5 then some (i64.wrap (a*c)) else bif e.op==6 then some (i64.wrap (0-a)) else bif e.op==4 then some (i64.wrap (a-c)) else bif e.op==8 then g (a,c,true) else ah (λ(x:Unit)=>Og e a c p o) λm=> ah (λ(r:Bool)=>NU a c g m r) λf=> bif e.op==7 then f (e.op==7) else f (e.op==19)
def BG(eta:Ex->Ex)(c:Sh->(R:Type)->Option R->Option R)(b:(Ex×Q1)->y2)(e:Ex)(a:Q1):y2:= aM (dV 0 (min (List.length e.l:Int) 2) (List.length e.l))<| aw (aaz eta c b e a) ax (0,0,0)
def Sb:aeY->aeY:=λa s=>SZ a s.1 s.2
theorem UR(a:aeY)(b:ave a):(xw (Sb a)).Ok X0.P X0.Γ:=
 aY (.l ⟨[(true,5,(.bx 297 0 true [an,an])),(false,19,an)],[]⟩ (.c .o (.r [] (.s (.s (.s (.s (.s (.s (.s (.s (.j ⟨[(false,8,an),(false,9,an),(false,10,.bool)],[2]⟩ (.s (.j ⟨[(false,8,an),(false,9,an),(false,10,.bool)],[2]⟩ (.s (.j ⟨[(false,8,an),(false,9,an),(false,10,.bool)],[2]⟩ (.c .o (.c .o (.c .o (.c .o (.c .o (.c .o (.c .o (.j ⟨[],[]⟩ (.j ⟨[(false,50,.bool)],[]⟩ .o .o) .o)))))))) .o)) .o)) .o)))))))))))) call141 func141 (al b (al Wh aj)) aj aj λs=>(show _=BG bf aN a s.1 s.2 from by kernel_rfl).trans ((congrArg (λeta=>BG eta aN a s.1 s.2) aL).trans ((congrArg (λd=>BG id d a s.1 s.2) aO).trans (by kernel_rfl)))
theorem sN:Ko S5:=(show S5=xw (aw (Sb) ax) by kernel_rfl)▸dR (X:=X0) (E:=xw) ⟨call141,λ_ _ h=>nomatch h⟩ (UR) ax
def Zq:aq:=⟨108,[yJ,aV],gH,[],U2 Od⟩
def RL(eta:Ex->Ex)(g:Sh->(R:Type)->Option R->Option R)(m:tB)(d:Q1)(a:gM->Option Q1):Q1×Int->Option Q1:=λ⟨b,c⟩=> bif decide (c<(m.2.2.2.2.length:Int)) then (idx m.2.2.2.2 c).bind λf=> (nY (eta f.2.1) d).bind λe=> bif e==1 then aM (aI (List.length b+List.length ([c]:zg)) 8)<| a ((b++([c]:zg)),(i64.wrap (c+1))) else a (b,(i64.wrap (c+1))) else some b
def Ae(eta:Ex->Ex)(b:Sh->(R:Type)->Option R->Option R)(m:tB)(a:Q1):Option Q1:= aw (RL eta b m a) ax ([],0)
theorem RV:Ko Zq:=
 aY (.l ⟨[(false,5,gH),(false,11,an)],[]⟩ .o) call108 func108 (al sN aj) aj aj λs=>(show _=Ae bf aN s.1 s.2 from by kernel_rfl).trans ((congrArg (λeta=>Ae eta aN s.1 s.2) aL).trans ((congrArg (λa=>Ae id a s.1 s.2) aO).trans (by kernel_rfl)))
def ZC:aq:=⟨116,[iN,Lt],an,[],U2 EF⟩
theorem Rp:Ko ZC:=
 aA (.c .o (.l ⟨[(false,14,an)],[]⟩ .o)) call116 func116 (al oX aj)
def ahl:aq:=⟨109,[yJ,aV,an],(.cQ [gH,an]),[],U3 abz⟩
def aaj(eta:Ex->Ex)(j:Sh->(R:Type)->Option R->Option R)(m:tB)(f:Q1)(e:Q68)(a:gM->Option gM):Q1×Int->Option gM:=λ⟨b,c⟩=> bif decide (c<(e.2.2.length:Int)) then (idx e.2.2 c).bind λd=> (nY (eta d.2) f).bind λh=> (idx b d.1).bind λi=> a ((List.set b (Int.toNat d.1) h),(i64.wrap (c+1))) else (EF m.2.1 b).bind λg=> bif g != 0 then some ([],6) else some (b,0)
def Ib(eta:Ex->Ex)(f:Sh->(R:Type)->Option R->Option R)(m:tB)(a:Q1)(k:Int):Option gM:= ah (decide (k<0)) λg=> ah (decide ((m.2.2.2.2.length:Int)<=k)) λe=> ah (g||e) λd=> bif d then ( some ([],10)) else ( (cZ a).bind λb=> (idx m.2.2.2.2 k).bind λc=> aw (aaj eta f m a c) ax (b,0))
theorem ZS:Ko ahl:=
 aY (.c .o (.l ⟨[(true,8,gH),(false,29,an)],[]⟩ (.c (.r [8] .o) .o))) call109 func109 (al dH (al sN (al Rp aj))) aj aj λs=>(show _=Ib bf aN s.1 s.2.1 s.2.2 from by kernel_rfl).trans ((congrArg (λeta=>Ib eta aN s.1 s.2.1 s.2.2) aL).trans ((congrArg (λa=>Ib id a s.1 s.2.1 s.2.2) aO).trans (by kernel_rfl)))
def ag4:aq:=⟨41,[yJ,aV],(.cQ [jc,an]),[],U2 Bq⟩
theorem amq:(⟨107,Tryz.f107⟩:lK).Ok X0.P:=⟨call107,func107⟩
theorem sR:Ko ag4:=
 aY (.c (.c (.l ⟨[(false,10,an),(true,10004,(.bx 40 0 true [.same])),(true,10005,(.bx 27 0 true [an])),(true,10006,afx)],[]⟩ .o) .o) (.r [70000,4,5,6] .o)) call41 func41 (al Yx (al RV (al ZS (al Bn (al dH aj))))) aj (al amq aj) λ_=>by kernel_rfl
def afb:aq:=⟨20,[yJ,an],(.cQ [jc,an,aV]),[],U2 WQ⟩
theorem W0:Ko afb:=
 aA (.l ⟨[(true,7,afx),(false,8,an)],[]⟩ (.c (.r [] (.c .o (.l ⟨[(true,7,afx),(false,51,an)],[]⟩ .o))) .o)) call20 func20 (al dH (al Bn (al sR aj)))
def jA(a:Ve):aq:=⟨142,[(.sli .ex),(.sli .ex),(.fn 111 [] [])],.bool,[],λs=>fc a s.1 s.2⟩
def iX(eta:Ex->Ex)(i:Sh->(R:Type)->Option R->Option R)(g:(Ex×Ex)->x6)(e:(List Ex))(f:(List Ex))(a:Int->x6)(b:Int):x6:= bif decide (b<(e.length:Int)) then (idx e b).bind λh=> (idx f b).bind λd=> (g ((eta h),(eta d))).bind λc=> bif !c then some false else a (i64.wrap (b+1)) else some true
def dj(eta:Ex->Ex)(d:Sh->(R:Type)->Option R->Option R)(c:(Ex×Ex)->x6)(b:(List Ex))(a:(List Ex)):x6:= bif (b.length:Int) != (a.length:Int) then some false else aw (iX eta d c b a) ax 0
theorem iW(a:Ve)(b:as1 a):Ko (jA a):=
 aY (.c .o (.l ⟨[(false,17,an)],[]⟩ .o)) call142 func142 (al b aj) aj aj λs=>(show _=dj bf aN a s.1 s.2 from by kernel_rfl).trans ((congrArg (λeta=>dj eta aN a s.1 s.2) aL).trans ((congrArg (λd=>dj id d a s.1 s.2) aO).trans (by kernel_rfl)))
def Sg:aq:=⟨111,[dy,dy],.bool,[],U2 Bo⟩
def Ug:Ve->Ve:=λa s=>Su a s.1 s.2
theorem Vt(a:Ve)(b:as1 a):(wu (Ug a)).Ok X0.P X0.Γ:=
 aA .o call111 func111 (al (iW a b) aj)
theorem JO:Ko Sg:=(show Sg=wu (aw (Ug) ax) by kernel_rfl)▸dR (X:=X0) (E:=wu) ⟨call111,λ_ _ h=>nomatch h⟩ (Vt) ax
def Rz:aq:=⟨70,[LL,dy],rE,[(true,0,LL)],λs=>iC s.2 s.1⟩
def L8(eta:Ex->Ex)(h:Sh->(R:Type)->Option R->Option R)(e:Ex)(l:(List Ex))(c:Int->Option Q70)(a:Int):Option Q70:= bif decide (a<(l.length:Int)) then (idx l a).bind λf=> (Bo (eta f) (eta e)).bind λd=> bif d then ( aM (decide (0<=a))<| some ((cu .u64 1 a),l)) else ( c (i64.wrap (a+1))) else aM (aI (List.length l+List.length ([(Ex.mk 0 0 0 [])]:List Ex)) 48)<| (idx (l++([(Ex.mk 0 0 0 [])]:List Ex)) (l.length:Int)).bind λg=> h (.b .l .l) _ ( aM (decide (0<=(i64.wrap ((List.length (List.set (l++([(Ex.mk 0 0 0 [])]:List Ex)) (Int.toNat (l.length:Int)) (eta e)):Int)-1))))<| some ((cu .u64 1 (i64.wrap ((List.length (List.set (l++([(Ex.mk 0 0 0 [])]:List Ex)) (Int.toNat (l.length:Int)) (eta e)):Int)-1))),(List.set (l++([(Ex.mk 0 0 0 [])]:List Ex)) (Int.toNat (l.length:Int)) (eta e))))
def tC(eta:Ex->Ex)(a:Sh->(R:Type)->Option R->Option R)(e:Ex)(l:(List Ex)):Option Q70:= aw (L8 eta a e l) ax 0
theorem xP:Ko Rz:=
 aY (.l ⟨[(true,0,(.bx 169 0 true [.same])),(false,12,an)],[]⟩ (.c .o (.r [0] .o))) call70 func70 (al JO aj) aj aj λs=>(show _=tC bf aN s.2 s.1 from by kernel_rfl).trans ((congrArg (λeta=>tC eta aN s.2 s.1) aL).trans ((congrArg (λa=>tC id a s.2 s.1) aO).trans (by kernel_rfl)))
def ug:aq:=⟨112,[rE,(.dat wR []),adg,Pw,(.bx 167 0 true [LL]),aq7],fD,[(true,2,adg),(true,3,Pw),(true,4,(.bx 167 0 true [.same])),(true,1005,LL),(true,5,(.bx 232 0 true [.same]))],U5 xS⟩
def CL(eta:Ex->Ex)(w:Sh->(R:Type)->Option R->Option R)(o:Q44->Option MA)(b:Int)(n:cI)(x:Q23)(e:Q8)(l:(List Ex))(m:Int->Option MA)(a:Int):Option MA:= aM (decide (0<=a))<| bif (tN .u64 (bS .u64 b n.1) (cu .u64 1 a))==0 then m (i64.wrap (a+1)) else (idx l a).bind λd=> aM (decide (0<=a))<| (nG (eta d)).bind λt=> bif t then ( (o ((bS .u64 (bS .u64 b n.1) (cu .u64 1 a)),((fe .u64 n.1 (cu .u64 1 a)),n.2),x,e,l)).bind λs=> some (s.1,s.2.1,s.2.2)) else ( (idx d.l 0).bind λv=> (iC (eta v) l).bind λf=> bif d.op==20 then (o ((bS .u64 (bS .u64 b n.1) (cu .u64 1 a)),((fe .u64 n.1 (cu .u64 1 a)),(fe .u64 n.2 f.1)),x,e,f.2)).bind λr=> some (r.1,r.2.1,r.2.2) else (idx d.l 1).bind λu=> (iC (eta u) f.2).bind λc=> bif d.op==16 then (o ((fe .u64 (fe .u64 (bS .u64 (bS .u64 b n.1) (cu .u64 1 a)) f.1) c.1),((fe .u64 n.1 (cu .u64 1 a)),n.2),x,e,c.2)).bind λq=> some (q.1,q.2.1,q.2.2) else bif d.op==17 then (o ((fe .u64 (bS .u64 (bS .u64 b n.1) (cu .u64 1 a)) f.1),((fe .u64 n.1 (cu .u64 1 a)),n.2),x,e,c.2)).bind λp=> (o ((fe .u64 (bS .u64 (bS .u64 b n.1) (cu .u64 1 a)) c.1),((fe .u64 n.1 (cu .u64 1 a)),n.2),p.1,p.2.1,p.2.2)).bind λk=> some (k.1,k.2.1,k.2.2) else bif d.op==23 then (o ((fe .u64 (bS .u64 (bS .u64 b n.1) (cu .u64 1 a)) c.1),((fe .u64 n.1 (cu .u64 1 a)),n.2),x,e,c.2)).bind λj=> (o ((fe .u64 (bS .u64 (bS .u64 b n.1) (cu .u64 1 a)) f.1),((fe .u64 n.1 (cu .u64 1 a)),(fe .u64 n.2 (cu .u64 1 a))),j.1,j.2.1,j.2.2)).bind λi=> some (i.1,i.2.1,i.2.2) else bif d.op==24 then (o ((fe .u64 (fe .u64 (bS .u64 (bS .u64 b n.1) (cu .u64 1 a)) f.1) c.1),((fe .u64 n.1 (cu .u64 1 a)),n.2),x,e,c.2)).bind λh=> (o ((fe .u64 (bS .u64 (bS .u64 b n.1) (cu .u64 1 a)) c.1),((fe .u64 n.1 (cu .u64 1 a)),(fe .u64 n.2 (cu .u64 1 a))),h.1,h.2.1,h.2.2)).bind λg=> some (g.1,g.2.1,g.2.2) else some (x,e,c.2))
def lj(eta:Ex->Ex)(d:Sh->(R:Type)->Option R->Option R)(e:Q44->Option MA)(b:Int)(n:cI)(x:Q23)(a:Q8)(l:(List Ex)):Option MA:= bif (bS .u64 b n.1)==0 then bif !(nn x n false) then (x).bind λc=> aM (aI (List.length a+List.length ([n]:List cI)) 16)<| some ((some (nQ c n true)),(a++([n]:List cI)),l) else some (x,a,l) else aw (CL eta d e b n x a l) ax 0
def ua:ael->ael:=λa s=>uj a s.1 s.2.1 s.2.2.1 s.2.2.2.1 s.2.2.2.2
theorem Bk(a:ael)(b:au8 a):(iV (ua a)).Ok X0.P X0.Γ:=
 aY (.c .o (.l ⟨[(true,7,(.bx 174 0 true [.same,.same])),(false,8,an)],[]⟩ (.c .o (.r [40000] (.c .o (.r [4,40000] (.c .o (.r [4,40000] .o)))))))) call112 func112 (al Ek (al b (al xP aj))) aj aj λs=>(show _=lj bf aN a s.1 s.2.1 s.2.2.1 s.2.2.2.1 s.2.2.2.2 from by kernel_rfl).trans ((congrArg (λeta=>lj eta aN a s.1 s.2.1 s.2.2.1 s.2.2.2.1 s.2.2.2.2) aL).trans ((congrArg (λd=>lj id d a s.1 s.2.1 s.2.2.1 s.2.2.2.1 s.2.2.2.2) aO).trans (by kernel_rfl)))
theorem CC:Ko ug:=(show ug=iV (aw (ua) ax) by kernel_rfl)▸dR (X:=X0) (E:=iV) ⟨call112,λ_ _ h=>nomatch h⟩ (Bk) ax
def MK:aq:=⟨72,[LL,rE],(.own wR 174 true),[(true,0,LL)],λs=>kB s.2 s.1⟩
theorem HM:Ko MK:=
 aA .o call72 func72 (al CC aj)
def ahi:aq:=⟨71,[(.sli wR),ac4,Pw],gH,[(true,1,ac4),(true,2,Pw)],U3 A7⟩
theorem Y9:Ko ahi:=
 aA (.l ⟨[(true,1,ac4),(true,2,Pw),(false,5,gH),(false,12,an)],[]⟩ .o) call71 func71 aj
def Ls:aq:=⟨70,[(.bx 169 0 false [(.sli .ex)]),dy],rE,[],λs=>sK s.2 s.1⟩
def Fy(eta:Ex->Ex)(f:Sh->(R:Type)->Option R->Option R)(e:Ex)(l:(List Ex))(a:Int->y2)(b:Int):y2:= bif decide (b<(l.length:Int)) then (idx l b).bind λd=> (Bo (eta d) (eta e)).bind λc=> bif c then ( aM (decide (0<=b))<| some (cu .u64 1 b)) else ( a (i64.wrap (b+1))) else none
def n8(eta:Ex->Ex)(a:Sh->(R:Type)->Option R->Option R)(e:Ex)(l:(List Ex)):y2:= aw (Fy eta a e l) ax 0
theorem F4:Ko Ls:=
 aY (.l ⟨[(false,12,an)],[]⟩ .o) call70 func70 (al JO aj) aj aj λs=>(show _=n8 bf aN s.2 s.1 from by kernel_rfl).trans ((congrArg (λeta=>n8 eta aN s.2 s.1) aL).trans ((congrArg (λa=>n8 id a s.2 s.1) aO).trans (by kernel_rfl)))
def an4:aq:=⟨43,[dy],aj1,[],λs=>adL s⟩
def ahr(eta:Ex->Ex)(m:Sh->(R:Type)->Option R->Option R)(i:(List Ex))(h:me)(k:Int)(e:(me×Int)->Option dU)(l:cI)(b:((List Ex)×Int)->Option dU):(List Ex)×Int->Option dU:=λ⟨c,a⟩=> bif decide (a<(i.length:Int)) then (idx i a).bind λd=> aM (decide (0<=a))<| ah ((tN .u64 l.1 (cu .u64 1 a)) != 0) λf=> bl f default (nG (eta d)) λg=> ah (f&&g) λj=> bif j then ( aM (aI (List.length c+List.length ([(eta d)]:List Ex)) 48)<| b ((c++([(eta d)]:List Ex)),(i64.wrap (a+1)))) else ( b (c,(i64.wrap (a+1)))) else aM (aI (List.length h+List.length ([c]:List (List Ex))) 24)<| e ((h++([c]:List (List Ex))),(i64.wrap (k+1)))
def ahL(eta:Ex->Ex)(p:Sh->(R:Type)->Option R->Option R)(k:XB)(e:(List Ex))(n:(List Q1))(o:Q8)(m:me)(a:iZ->Option dU):(List Q1)×Int->Option dU:=λ⟨c,b⟩=> bif decide (b<(e.length:Int)) then (idx e b).bind λd=> (nG (eta d)).bind λg=> ah (d.op != 23) λj=> ah (g||j) λi=> bif i then ( a (c,(i64.wrap (b+1)))) else ( (idx d.l 1).bind λh=> (sK (eta h) e).bind λf=> aw (abc o c b a f) ax (([]:zg),0)) else some (m,n,k.1,c)
def ag8(eta:Ex->Ex)(i:Sh->(R:Type)->Option R->Option R)(f:XB)(e:(List Ex))(g:(List Q1))(c:Q8)(a:(me×Int)->Option dU):me×Int->Option dU:=λ⟨d,b⟩=> bif decide (b<(c.length:Int)) then (idx c b).bind λh=> aw (ahr eta i e d b a h) ax ([],0) else aw (ahL eta i f e g c d) ax ([],0)
def ahV(eta:Ex->Ex)(k:Sh->(R:Type)->Option R->Option R)(h:XB)(a:((List Ex)×(List Q1)×Q8×Sx×Int)->Option dU):(List Ex)×(List Q1)×Q8×Sx×Int->Option dU:=λ⟨g,d,c,i,e⟩=> bif decide (e<(c.length:Int)) then (idx c e).bind λj=> (kB j.2 g).bind λf=> (A7 f.1 i c).bind λb=> aM (aI (List.length d+List.length ([b.1]:List Q1)) 24)<| a (f.2,(d++([b.1]:List Q1)),b.2.2,b.2.1,(i64.wrap (e+1))) else aw (ag8 eta k h g d c) ax ([],0)
def VK(eta:Ex->Ex)(d:Sh->(R:Type)->Option R->Option R)(e:Ex):Option dU:= (iC (eta e) []).bind λc=> (kB c.1 c.2).bind λb=> (A7 b.1 (some []:Sx) []).bind λa=> aw (ahV eta d a) ax (b.2,[],a.2.2,a.2.1,0)
theorem ah3:Ko an4:=
 aY (.l ⟨[(true,3,LL),(true,5,(.bx 77 0 true [.same,jc,.same,.same])),(true,6,Pw),(true,8,(.fn 71 [] [ac4,.same])),(false,9,an)],[]⟩ (.c (.r [8,3,5,40000] .o) (.l ⟨[(true,5,(.bx 77 0 true [(.own (.l .ex) 24 true),.same,.same,.same])),(false,56,an)],[]⟩ (.c (.l ⟨[(true,5,Zh),(false,12,(.own .ex 26 true)),(false,65,an)],[]⟩ (.c (.r [40000] .o) .o)) (.r [30000,20003] (.l ⟨[(true,2,Zh),(true,5,(.bx 77 0 true [.same,.same,.same,jc])),(false,97,an)],[]⟩ (.c (.c .o (.l ⟨[(true,5,Zh),(false,18,gH),(false,118,an)],[]⟩ (.c (.r [40000] .o) .o))) .o))))))) call43 func43 (al xP (al HM (al Y9 (al Ek (al F4 aj))))) aj aj λs=>(show _=VK bf aN s from by kernel_rfl).trans ((congrArg (λeta=>VK eta aN s) aL).trans ((congrArg (λa=>VK id a s) aO).trans (by kernel_rfl)))
def Kf:aq:=⟨68,[(.dat gr []),an],an,[],U2 mm⟩
theorem F2:Ko Kf:=
 aA .o call68 func68 aj
def H3:aq:=⟨110,[aV,an],an,[],U2 wG⟩
theorem Cq:Ko H3:=
 aA (.l ⟨[(false,8,an)],[]⟩ .o) call110 func110 aj
def CH:aq:=⟨69,[aV,an],.bool,[],U2 iQ⟩
theorem nD:Ko CH:=
 aA .o call69 func69 (al Cq aj)
def akw:aq:=⟨42,[O1],aj1,[],λs=>V4 s⟩
theorem abN:Ko akw:=
 aA (.s (.s (.s (.j ⟨[(false,4,BU)],[]⟩ (.c (.l ⟨[(true,5,gH),(false,31,an)],[]⟩ .o) .o) (.l ⟨[(true,9,ara),(false,44,an)],[]⟩ (.c (.l ⟨[(true,9,ara),(false,48,an)],[]⟩ (.c (.s (.s (.s (.j ⟨[(false,12,an)],[]⟩ .o (.l ⟨[(true,9,Zh),(false,13,gH),(false,69,an)],[]⟩ (.c .o (.r [9] .o))))))) .o)) (.l ⟨[(true,9,(.bx 77 0 true [.same,.same,gH,.same])),(false,104,an)],[]⟩ (.c (.r [9] .o) (.l ⟨[(true,2,Zh),(true,9,Zh),(false,18,gH),(false,121,an)],[]⟩ .o))))))))) call42 func42 (al F2 (al nD aj))
def QF:aq:=⟨21,[dy],aj1,[],λs=>wC s⟩
def tI(eta:Ex->Ex)(d:Sh->(R:Type)->Option R->Option R)(e:Ex):Option dU:= (Db (eta e)).bind λc=> (adL (eta c.1)).bind λb=> (V4 b).bind λa=> some a
theorem w9:Ko QF:=
 aY .o call21 func21 (al N5 (al ah3 (al abN aj))) aj aj λs=>(show _=tI bf aN s from by kernel_rfl).trans ((congrArg (λeta=>tI eta aN s) aL).trans ((congrArg (λa=>tI id a s) aO).trans (by kernel_rfl)))
def ZZ:aq:=⟨8,[.str,.str],(.cQ [an,an]),[],U2 Dn⟩
theorem QP:Ko ZZ:=
 aA (.c .o (.s (.j ⟨[(false,8,an)],[]⟩ .o .o))) call8 func8 (al xX (al W0 (al w9 aj)))
def OJ:aq:=⟨114,[iN,(.fn 115 [] [])],eZ,[],λs=>Em s⟩
theorem IL:Ko OJ:=
 aA (.l ⟨[(true,5,eZ),(false,13,an)],[]⟩ .o) call114 func114 (al xG aj)
def ZA:aq:=⟨74,[iN],.bool,[],λs=>ET s⟩
theorem Cg:Ko ZA:=
 aA .o call74 func74 (al IL (al iA aj))
def acC:aq:=⟨75,[],(.sli .n),[],λ_=>AG⟩
theorem Fa:Ko acC:=
 aA .o call75 func75 aj
def tU:aq:=⟨76,[iN],Ky,[],λs=>gP s⟩
def tM(s:Q8):Option Q8:= yK s ( some []) ( aM (aI (List.length ([]:List cI)+List.length s) 16)<| some (([]:List cI)++s))
theorem jg:Ko tU:=
 aY .o call76 func76 aj aj aj λs=>(show _=tM s from by kernel_rfl).trans mo
def S7:aq:=⟨249,[an],(.cQ [(.dat fP [some 223,some 7]),an]),[],λs=>rN s⟩
theorem Ap:Ko S7:=
 aA .o call249 func249 aj
def aln:aq:=⟨244,[an],(.cQ [(.dat (.p fP iL) [some 223,some 7,some 11]),an]),[],λs=>aee s⟩
theorem acW:Ko aln:=
 aA .o call244 func244 (al Ap aj)
def M8:aq:=⟨238,[nP,nc,CD],(.cQ [(.dat Wp [none,some 223,some 7,some 11,none,none,none,none,none,none,none,none,none,none,none,none,none,none,none]),an]),[],U3 Cn⟩
theorem HH:Ko M8:=
 aA .o call238 func238 (al acW aj)
def Mc:aq:=⟨284,[iN,an],(.cQ [(.dat WV [some 221,some 223,some 7,some 11]),an]),[],U2 ad4⟩
def abW(g:Nat)(s:Q8)(e:Int)(f:(Q7×Int))(a:((List Q7)×Int)->Option (yz×Int)):(List Q7)×Int->Option (yz×Int):=λ⟨b,c⟩=> bif decide (c<(i64.wrap (Int.tdiv (i64.wrap ((i64.wrap ((s.length:Int)+2))-1)) 2))) then (rN e).bind λd=> aM (aI (List.length b+List.length ([d.1]:List Q7)) 56)<| a ((b++([d.1]:List Q7)),(i64.wrap (c+1))) else some ((b,f.1,[]),0)
def aj3(fl:Nat)(s:Q8)(a:Int):Option (yz×Int):= (rN a).bind λb=> bif b.2 != 0 then some (([],(0,[],[]),[]),b.2) else aw (abW fl s a b) fl ([],0)
theorem aac(fl:Nat)(s:fy (oN Mc.ps)):adK { X0 with fl:=fl } [S7] [] [] (.c .o (.l ⟨[(true,4,ak4),(true,8,ajr),(false,27,an)],[]⟩ .o)) Tryz.f284 Mc s=aj3 fl s.1 s.2:=by kernel_rfl
theorem acm:Ko Mc:=
 aY (.c .o (.l ⟨[(true,4,ak4),(true,8,ajr),(false,27,an)],[]⟩ .o)) call284 func284 (al Ap aj) aj aj λs=>(aac ax s).trans (by kernel_rfl)
def K9:aq:=⟨278,[nP,nc,CD],(.cQ [(.dat Wp [none,none,none,none,some 221,some 223,some 7,some 11,none,none,none,none,none,none,none,none,none,none,none]),an]),[],U3 AR⟩
theorem Fj:Ko K9:=
 aA .o call278 func278 (al acm aj)
def ahe:aq:=⟨306,[an],(.cQ [(.dat fP [some 223,some 7]),an]),[],λs=>abF s⟩
theorem ZF:Ko ahe:=
 aA .o call306 func306 (al Ap aj)
def SN:aq:=⟨307,[an],an,[],λs=>GQ s⟩
def SE:adF->adF:=λa s=>Sw a s
theorem UB(a:adF)(b:avd a):(xz (SE a)).Ok X0.P X0.Γ:=
 aA .o call307 func307 (al b aj)
theorem Ab:Ko SN:=(show SN=xz (aw (SE) ax) by kernel_rfl)▸dR (X:=X0) (E:=xz) ⟨call307,λ_ _ h=>nomatch h⟩ (UB) ax
def ak5:aq:=⟨302,[iN,an],(.cQ [(.dat XI [some 691,some 11]),an]),[],U2 aeD⟩
theorem acv:Ko ak5:=
 aA (.c .o (.r [30000,20006] (.l ⟨[(true,4,(.bx 119 0 true [.same,.same])),(true,8,(.bx 119 0 true [(.own fP 345 true),.same])),(false,23,an)],[]⟩ .o))) call302 func302 (al ZF (al Ab aj))
def Kn:aq:=⟨296,[nP,nc,CD],(.cQ [(.dat Wp [none,none,none,none,none,none,none,none,some 691,some 11,none,none,none,none,none,none,none,none,none]),an]),[],U3 AU⟩
theorem FF:Ko Kn:=
 aA .o call296 func296 (al acv aj)
def ah4:aq:=⟨268,[rE],an,[],λs=>O2 s⟩
theorem Jy:Ko ah4:=
 aA (.l ⟨[(false,0,rE),(false,3,an)],[]⟩ .o) call268 func268 aj
def O3:aq:=⟨260,[(.dat gr [])],an,[],λs=>E4 s⟩
theorem JH:Ko O3:=
 aA .o call260 func260 (al Jy aj)
def Rg:aq:=⟨259,[iN,(.fn 260 [] [])],gH,[],λs=>wW s⟩
theorem xZ:Ko Rg:=
 aA (.l ⟨[(true,5,gH),(false,13,an)],[]⟩ .o) call259 func259 (al JH aj)
def acQ:aq:=⟨271,[iN],an,[],λs=>SK s⟩
theorem U1:Ko acQ:=
 aA (.l ⟨[(false,3,an),(false,9,an)],[]⟩ .o) call271 func271 (al xZ aj)
def aad:aq:=⟨262,[iN],an,[],λs=>ED s⟩
theorem B5:Ko aad:=
 aA .o call262 func262 (al U1 aj)
def amy:aq:=⟨329,[an],(.cQ [(.dat yT [some 697,some 7]),an]),[],λs=>aio s⟩
theorem agx:Ko amy:=
 aA .o call329 func329 aj
def MB:aq:=⟨323,[nP,nc,CD],CU,[],U3 B7⟩
theorem Io:Ko MB:=
 aA (.c .o (.l ⟨[(true,4,(.bx 128 0 true [.same,.same,.same,.same,.same,.same,.same,.same,.same,.same,.same,.same,.same,.same,an,(.sli mO),an,an,aV,an,(.sli mO),an,an,aV,an,(.sli mO),an,an,aV,.same,.same,.same,.same,.same,.same])),(true,6,(.bx 128 0 true [.same,.same,.same,.same,.same,.same,.same,.same,.same,.same,.same,.same,.same,.same,.same,.same,.same,.same,.same,.same,.same,.same,.same,.same,.same,.same,.same,.same,.same,.same,.same,.same,.same,.same,.same])),(false,18,an)],[]⟩ .o)) call323 func323 (al B5 (al agx aj))
def akz:aq:=⟨363,[an,an,rE],(.cQ [(.dat Iv [some 11,some 11,some 11]),an]),[],U3 afa⟩
theorem abR:Ko akz:=
 aA (.c .o (.l ⟨[(true,6,(.bx 126 0 true [.same,.same,.same,.same,.same,.same])),(true,8,(.bx 126 0 true [.same,.same,.same,iy,iy,iy])),(false,29,an)],[]⟩ .o)) call363 func363 aj
def Nk:aq:=⟨357,[nP,nc,CD],CU,[],U3 Cd⟩
theorem HY:Ko Nk:=
 aA .o call357 func357 (al abR aj)
def ahj:aq:=⟨44,[iN,CD],CU,[],U2 GL⟩
theorem yF:Ko ahj:=
 aA (.r [] (.c .o (.r [3,40000] .o))) call44 func44 (al Cg (al Fa (al jg (al HH (al Fj (al FF (al Io (al HY aj))))))))
def ME:aq:=⟨23,[ak6],.bool,[(true,0,ak7)],λs=>Cm s.1 s.2.1 s.2.2.1 s.2.2.2.1 s.2.2.2.2.1 s.2.2.2.2.2.1 s.2.2.2.2.2.2.1 s.2.2.2.2.2.2.2.1 s.2.2.2.2.2.2.2.2.1 (d8 s).2.1 (d8 s).2.2.1 (d8 s).2.2.2.1 (d8 s).2.2.2.2.1 (d8 s).2.2.2.2.2.1 (d8 s).2.2.2.2.2.2.1 (d8 s).2.2.2.2.2.2.2.1 (d8 (d8 s)).1 (d8 (d8 s)).2.1 (d8 (d8 s)).2.2.1 (d8 (d8 s)).2.2.2.1 (d8 (d8 s)).2.2.2.2.1 (d8 (d8 s)).2.2.2.2.2.1 (d8 (d8 s)).2.2.2.2.2.2⟩
theorem Hw:Ko ME:=
 aA (.r [40000] (.j ⟨[(false,4,an)],[]⟩ .o .o)) call23 func23 (al yF (al jn aj))
def R3:aq:=⟨116,[iN,aV],an,[],U2 jB⟩
theorem ga:Ko R3:=
 aA (.c .o (.l ⟨[(false,14,an)],[]⟩ .o)) call116 func116 (al oX aj)
def ajt:aq:=⟨117,[nc],.ifn,[],λs=>Lr s⟩
theorem BD:Ko ajt:=
 aA (.r [1] .o) call117 func117 (al Fa aj)
def acH:aq:=⟨264,[dS],iy,[],λs=>Hl s⟩
def ab6(b:Q1):Option Q1:= yK b ( some []) ( aM (aI (List.length ([]:zg)+List.length b) 1)<| some (([]:zg)++b))
theorem EE:Ko acH:=
 aY .o call264 func264 aj aj aj λs=>(show _=ab6 s from by kernel_rfl).trans mo
def amE:aq:=⟨269,[(.dat uT [none])],ac3,[],λs=>ajm s⟩
theorem agt:Ko amE:=
 aA .o call269 func269 (al EE aj)
def Z5:aq:=⟨270,[ac3,.bool],fD,[(true,0,ac3)],λs=>PX s.2.2 s.1 s.2.1⟩
theorem RD:Ko Z5:=
 aA (.j ⟨[(true,0,(.bx 391 0 true [iy,.same]))],[]⟩ .o (.j ⟨[(true,0,(.bx 391 0 true [iy,.same]))],[]⟩ (.c (.r [0] .o) .o) .o)) call270 func270 aj
def ajG:aq:=⟨261,[(.dat uT [none]),rE,an],(.cQ [(.dat uT [none]),an]),[],U3 ae4⟩
theorem acK:Ko ajG:=
 aA (.c .o (.c .o (.l ⟨[(true,6,(.bx 370 0 true [.same,.same])),(true,8,ac3),(false,9,an)],[]⟩ (.c (.r [8] .o) .o)))) call261 func261 (al Jy (al agt (al RD aj)))
def G9:aq:=⟨252,[iN,aV],(.cQ [iy,an]),[],U2 o9⟩
theorem rR:Ko G9:=
 aA (.c .o (.l ⟨[(true,7,(.bx 370 0 true [dS,an])),(false,20,an)],[]⟩ (.c (.r [7] .o) .o))) call252 func252 (al ga (al xZ (al acK (al B5 aj))))
def ahw:aq:=⟨246,[nc,aV],dS,[],U2 fU⟩
theorem fj:Ko ahw:=
 aA .o call246 func246 (al rR aj)
def acz:aq:=⟨275,[LN],fD,[(true,0,LN)],λs=>S1 s⟩
theorem Um:Ko acz:=
 aA .o call275 func275 aj
def ac2:aq:=⟨276,[LN],fD,[(true,0,LN)],λs=>S4 s⟩
theorem VG:Ko ac2:=
 aA .o call276 func276 aj
def acg:aq:=⟨277,[LN],fD,[(true,0,LN)],λs=>Sr s⟩
theorem VM:Ko acg:=
 aA .o call277 func277 aj
def akq:aq:=⟨273,[dS,rE],rE,[],U2 Kw⟩
theorem BS:Ko akq:=
 aA (.l ⟨[(true,5,LN),(false,15,an)],[]⟩ (.c .o (.n 50 .o))) call273 func273 (al Um (al VG (al VM aj)))
def ag7:aq:=⟨272,[rE,an],an,[],U2 F7⟩
theorem y6:Ko ag7:=
 aA .o call272 func272 aj
def aco:aq:=⟨274,[dS,dS],.bool,[],U2 IB⟩
theorem Eo:Ko aco:=
 aA .o call274 func274 aj
def Rn:aq:=⟨266,[Ik,dS],an,[],U2 wm⟩
theorem xL:Ko Rn:=
 aA (.n 0 (.j ⟨[(false,5,an)],[]⟩ .o .o)) call266 func266 (al BS (al y6 (al Eo aj)))
def Rx:aq:=⟨267,[Ik,dS],HJ,[],U2 G5⟩
theorem Lm:Ko Rx:=
 aA .o call267 func267 (al xL aj)
def afs:aq:=⟨258,[Ik,dS],HJ,[],U2 mg⟩
theorem mz:Ko afs:=
 aA .o call258 func258 (al Lm aj)
def K5:aq:=⟨266,[(.dat fP [some 222,some 6]),dS],an,[],U2 Bb⟩
theorem FE:Ko K5:=
 aA (.n 0 (.j ⟨[(false,5,an)],[]⟩ .o .o)) call266 func266 (al BS (al y6 (al Eo aj)))
def Nr:aq:=⟨265,[(.bx 380 0 true [an,(.own iL 111 true),aV]),an],fD,[(true,0,(.bx 380 0 true [.same,(.own iL 111 true),aV]))],λs=>Fe s.2.2.2 s.1 s.2.1 s.2.2.1⟩
theorem JQ:Ko Nr:=
 aA (.l ⟨[(true,0,(.bx 380 0 true [.same,(.own iL 111 true),gH])),(false,18,(.slr 1)),(false,20,an)],[]⟩ (.c (.r [0] .o) .o)) call265 func265 (al FE aj)
def Jr:aq:=⟨253,[Ik,dS],(.cQ [Ik,an,.bool,an]),[],U2 ix⟩
theorem tX:Ko Jr:=
 aA (.c .o (.c .o (.s (.s (.j ⟨[(true,11,(.bx 380 0 true [.same,(.own iL 111 true),aV]))],[2]⟩ (.c .o (.r [11] .o)) .o))))) call253 func253 (al mz (al EE (al JQ (al dH (al xL aj)))))
def acV:aq:=⟨247,[Vb,dS],(.cQ [Vb,.bool,an]),[],U2 S2⟩
theorem VV:Ko acV:=
 aA (.c .o (.r [4,40000] .o)) call247 func247 (al tX aj)
def Kl:aq:=⟨240,[nP,nc,aV],P4,[],U3 AX⟩
theorem FB:Ko Kl:=
 aA (.r [40000] .o) call240 func240 (al fj (al VV aj))
def Ml:aq:=⟨292,[iN,aV],(.fn 295 [] [(.bx 67 0 true [iN]),adt]),[],U2 Aw⟩
theorem Dr:Ko Ml:=
 aA .o call292 func292 aj
def Mk:aq:=⟨293,[iy,aV],iy,[],U2 AD⟩
theorem Dx:Ko Mk:=
 aA (.l ⟨[(false,0,iy),(false,10,an)],[]⟩ (.c (.l ⟨[(false,0,iy),(false,14,an)],[]⟩ .o) .o)) call293 func293 aj
def Sv:aq:=⟨289,[O7,iN,aV],an,[],U3 Gl⟩
theorem abA:(⟨295,Tryz.f295⟩:lK).Ok X0.P:=⟨call295,func295⟩
theorem IG:Ko Sv:=
 aY (.c (.c (.l ⟨[(false,4,an),(true,10006,D9),(true,10007,(.bx 111 0 true [iy]))],[]⟩ .o) .o) (.r [70000,6,7] .o)) call289 func289 (al Dr (al rR (al mz (al Dx aj)))) aj (al abA aj) λ_=>by kernel_rfl
def afD:aq:=⟨294,[Ik],an,[],λs=>Kv s⟩
theorem G2:Ko afD:=
 aA .o call294 func294 aj
def Sn:aq:=⟨290,[O7],an,[],λs=>PT s⟩
theorem Zp:Ko Sn:=
 aA .o call290 func290 (al G2 aj)
def kA:aq:=⟨291,[(.sli fP)],(.own fP 110 true),[],λs=>gR s⟩
def tV(s:(List Q7)):Option (List Q7):= yK s ( some []) ( aM (aI (List.length ([]:List Q7)+List.length s) 56)<| some (([]:List Q7)++s))
theorem ry:Ko kA:=
 aY .o call291 func291 aj aj aj λs=>(show _=tV s from by kernel_rfl).trans mo
def BQ:aq:=⟨286,[O7,iN,aV],(.cQ [O7,.bool,an]),[],U3 SA⟩
def Vh(n:Nat)(c:yz)(o:Q8)(b:(Q8×Q1))(e:(Int×(List Q7)×Q1)->Option Q66):Int×(List Q7)×Q1->Option Q66:=λ⟨a,d,j⟩=> bif decide ((i64.wrap (a*2))<(b.1.length:Int)) then aM (dV (i64.wrap (a*2)) (min (b.1.length:Int) (i64.wrap ((i64.wrap (a+1))*2))) (List.length b.1))<| aM (dV (i64.wrap (a*2)) (min (b.1.length:Int) (i64.wrap ((i64.wrap (a+1))*2))) (List.length b.2))<| (o9 (bN b.1 (i64.wrap (a*2)) (min (b.1.length:Int) (i64.wrap ((i64.wrap (a+1))*2)))) (bN b.2 (i64.wrap (a*2)) (min (b.1.length:Int) (i64.wrap ((i64.wrap (a+1))*2))))).bind λk=> (idx d a).bind λl=> (ix l k.1).bind λf=> (AD j ([f.2.1]:zg)).bind λg=> (idx d a).bind λm=> bif !true then (ix c.2.1 g).bind λi=> aM (lG 0 (c.2.2.length:Int) (c.2.2.length:Int) (List.length c.2.2)&&((c.2.2.length:Int)==(c.2.2.length:Int)))<| aM (aI (List.length (bN c.2.2 0 (c.2.2.length:Int))+List.length ([0]:zg)) 1)<| some (((List.set d (Int.toNat a) f.1),i.1,((bN c.2.2 0 (c.2.2.length:Int))++([0]:zg))),true,0) else e ((i64.wrap (a+1)),(List.set d (Int.toNat a) f.1),g) else (ix c.2.1 j).bind λh=> aM (lG 0 (c.2.2.length:Int) (c.2.2.length:Int) (List.length c.2.2)&&((c.2.2.length:Int)==(c.2.2.length:Int)))<| aM (aI (List.length (bN c.2.2 0 (c.2.2.length:Int))+List.length ([0]:zg)) 1)<| some ((d,h.1,((bN c.2.2 0 (c.2.2.length:Int))++([0]:zg))),true,0)
def acM(fl:Nat)(c:yz)(s:Q8)(a:Q1):Option Q66:= (jB s a).bind λb=> bif b != 0 then some (c,false,b) else (Gl c s a).bind λg=> bif decide (0<=g) then some (c,false,0) else (PT c).bind λf=> bif decide (c.2.1.1<=f) then some (c,false,7) else (gR c.1).bind λe=> (Aw s a).bind λd=> aw (Vh fl c s d) fl (0,e,[])
theorem RJ(fl:Nat)(s:fy (oN BQ.ps)):adK { X0 with fl:=fl } [R3,Sv,Sn,kA,Ml,G9,Jr,Mk] [] [⟨295,Tryz.f295⟩] (.c .o (.c .o (.r [] (.c .o (.c (.c (.l ⟨[(false,4,an),(true,10003,ajr),(true,10006,ak4),(true,10010,(.bx 111 0 true [iy]))],[]⟩ .o) (.r [10,3] .o)) (.r [70000,3,6,10] .o)))))) Tryz.f286 BQ s=acM fl s.1 s.2.1 s.2.2:=by kernel_rfl
theorem UA:Ko BQ:=
 aY (.c .o (.c .o (.r [] (.c .o (.c (.c (.l ⟨[(false,4,an),(true,10003,ajr),(true,10006,ak4),(true,10010,(.bx 111 0 true [iy]))],[]⟩ .o) (.r [10,3] .o)) (.r [70000,3,6,10] .o)))))) call286 func286 (al ga (al IG (al Zp (al ry (al Dr (al rR (al tX (al Dx aj)))))))) aj (al abA aj) λs=>(RJ ax s).trans (by kernel_rfl)
def JU:aq:=⟨280,[nP,nc,aV],P4,[],U3 yf⟩
theorem DT:Ko JU:=
 aA .o call280 func280 (al UA aj)
def ZV:aq:=⟨314,[iN,aV],(.own (.i .u32) 323 true),[],U2 D8⟩
theorem B4:Ko ZV:=
 aA (.l ⟨[(false,5,(.own (.i .u32) 323 true)),(false,10,an)],[]⟩ .o) call314 func314 aj
def alc:aq:=⟨321,[lA,lA],(.dat YV []),[],U2 UJ⟩
theorem Ms:Ko alc:=
 aA (.l ⟨[(true,4,(.bx 438 0 true [.same,.same,.same,.same,.same,.same,.same,.same])),(true,5,(.bx 438 0 true [je,je,je,je,je,je,je,je])),(false,7,an)],[]⟩ (.c (.r [5] .o) .o)) call321 func321 aj
def We:aq:=⟨322,[(.dat YV [])],dS,[],λs=>y9 s⟩
theorem yk:Ko We:=
 aA .o call322 func322 aj
def ae9:aq:=⟨320,[Ik,lA,lA],HJ,[],U3 WG⟩
theorem Wo:Ko ae9:=
 aA .o call320 func320 (al Ms (al yk (al mz aj)))
def UD:bR:=⟨316,[ajW,an,lA,lA],Gy,none,false,false,lA,[],λs=>Al s.2.1 s.2.2.1 s.2.2.2 s.1⟩
theorem yx:tv UD:=
 af1 .o call316 func316 (al Wo aj)
def Ef:bR:=⟨319,[ajW,an,QC],Gy,none,false,false,lA,[],λs=>J3 s.2.1 s.2.2 s.1⟩
def EI:agf->agf:=λa s=>E3 a s.1 s.2.1 s.2.2
theorem JD(a:agf)(b:avr a):(nu (EI a)).Ok X0.P X0.Γ:=
 sJ (.c .o (.r [0] .o)) call319 func319 (al Ab aj) (al b (al yx aj)) aj λ_=>by kernel_rfl
theorem Ng:tv Ef:=(show Ef=nu (aw (EI) ax) by kernel_rfl)▸adH (X:=X0) (E:=nu) ⟨call319,λ_ _ h=>nomatch h⟩ (JD) ax
def Rc:bR:=⟨313,[ajW,QC],Gy,none,false,false,lA,[],λs=>GN s.2 s.1⟩
theorem KE:tv Rc:=
 sJ (.c (.r [0] .o) .o) call313 func313 aj (al yx (al Ng aj)) aj λ_=>by kernel_rfl
def ahA:aq:=⟨309,[NR,iN,aV],HJ,[],U3 Ph⟩
theorem am5:(⟨315,Tryz.f315⟩:lK).Ok X0.P:=⟨call315,func315⟩
theorem Jj:Ko ahA:=
 aY .o call309 func309 (al B4 aj) (al KE aj) (al am5 aj) λ_=>by kernel_rfl
def aeL:aq:=⟨317,[Ik],an,[],λs=>Xf s⟩
theorem Ys:Ko aeL:=
 aA .o call317 func317 (al G2 aj)
def ag1:aq:=⟨310,[NR],an,[],λs=>aaU s⟩
theorem ZI:Ko ag1:=
 aA .o call310 func310 (al Ys aj)
def tH:aq:=⟨311,[(.sli fP)],(.own fP 345 true),[],λs=>lh s⟩
def tK(s:(List Q7)):Option (List Q7):= yK s ( some []) ( aM (aI (List.length ([]:List Q7)+List.length s) 56)<| some (([]:List Q7)++s))
theorem ru:Ko tH:=
 aY .o call311 func311 aj aj aj λs=>(show _=tK s from by kernel_rfl).trans mo
def Z3:aq:=⟨318,[Ik,lA,lA],(.cQ [Ik,an,.bool,an]),[],U3 Po⟩
theorem QZ:Ko Z3:=
 aA (.r [40000] .o) call318 func318 (al Ms (al yk (al tX aj)))
def PH:aq:=⟨312,[alb,an,lA,lA],lA,[(true,0,ala)],λs=>va s.2.1 s.2.2.1 s.2.2.2 s.1⟩
theorem vG:Ko PH:=
 aA (.r [0] .o) call312 func312 (al QZ aj)
def yg:aq:=⟨319,[alb,an,QC],lA,[(true,0,ala)],λs=>B2 s.2.1 s.2.2 s.1⟩
def yj:agu->agu:=λa s=>yl a s.1 s.2.1 s.2.2
theorem DA(a:agu)(b:avE a):(kL (yj a)).Ok X0.P X0.Γ:=
 aA (.c .o (.r [0] .o)) call319 func319 (al b (al Ab (al vG aj)))
theorem HQ:Ko yg:=(show yg=kL (aw (yj) ax) by kernel_rfl)▸dR (X:=X0) (E:=kL) ⟨call319,λ_ _ h=>nomatch h⟩ (DA) ax
def K3:aq:=⟨313,[alb,QC],lA,[(true,0,ala)],λs=>AT s.2 s.1⟩
theorem Fl:Ko K3:=
 aA (.c (.r [0] .o) .o) call313 func313 (al vG (al HQ aj))
def acY:aq:=⟨304,[NR,iN,aV],(.cQ [NR,.bool,an]),[],U3 SP⟩
theorem Un:Ko acY:=
 aA (.c .o (.c .o (.r [] (.c .o (.r [6,40000] .o))))) call304 func304 (al ga (al Jj (al ZI (al ru (al B4 (al Fl aj))))))
def JT:aq:=⟨298,[nP,nc,aV],P4,[],U3 yA⟩
theorem EK:Ko JT:=
 aA .o call298 func298 (al Un aj)
def VO:aq:=⟨346,[je],.bool,[],λs=>yU s⟩
theorem M7:Ko VO:=
 aA .o call346 func346 aj
def NO:aq:=⟨340,[je,je],an,[],U2 vp⟩
theorem vA:Ko NO:=
 aA .o call340 func340 (al M7 aj)
def ahD:aq:=⟨339,[(.dat lV []),je],an,[],U2 N4⟩
theorem aaG:Ko ahD:=
 aA .o call339 func339 (al vA aj)
def kW:aq:=⟨338,[(.sli lV),je,(.fn 339 [] [])],HJ,[],U2 dW⟩
theorem fu:Ko kW:=
 aA (.l ⟨[(false,9,an),(false,10,an)],[]⟩ .o) call338 func338 (al aaG aj)
def ao5:aq:=⟨334,[W9,an,je],an,[],U3 anD⟩
theorem ahk:Ko ao5:=
 aA .o call334 func334 (al fu aj)
def alP:aq:=⟨331,[W9,dS],.bool,[],U2 y5⟩
theorem wy:Ko alP:=
 aA (.l ⟨[(false,5,an),(false,12,an)],[]⟩ .o) call331 func331 (al ahk aj)
def alB:aq:=⟨332,[W9],an,[],λs=>adP s⟩
theorem ab9:Ko alB:=
 aA .o call332 func332 aj
def vj:aq:=⟨335,[(.sli mO)],(.own mO 348 true),[],λs=>mu s⟩
def u4(s:Q4):Option Q4:= yK s ( some []) ( aM (aI (List.length ([]:List (Q8×Int))+List.length s) 32)<| some (([]:List (Q8×Int))++s))
theorem sT:Ko vj:=
 aY .o call335 func335 aj aj aj λs=>(show _=u4 s from by kernel_rfl).trans mo
def vr:aq:=⟨352,[(.sli lV),(.sli lV)],.bool,[],U2 mh⟩
theorem ta:Ko vr:=
 aA (.c .o (.l ⟨[(false,13,an)],[]⟩ .o)) call352 func352 aj
def X8:aq:=⟨347,[(.bx 452 0 false [an,(.own mO 348 false),an,an,Lt,(.mp bh .bo false)]),(.sli lV)],HJ,[],λs=>Mm s.2.2.2.2.2.2 s.1 s.2.1 s.2.2.1 s.2.2.2.1 s.2.2.2.2.1 s.2.2.2.2.2.1⟩
theorem Pr:Ko X8:=
 aA (.l ⟨[(false,14,an)],[]⟩ .o) call347 func347 (al ta aj)
def K2:aq:=⟨377,[Lt],an,[],λs=>ss s⟩
theorem tn:Ko K2:=
 aA .o call377 func377 aj
def JA:aq:=⟨379,[gH,an,an],fD,[(true,0,gH)],U3 lC⟩
theorem lv:Ko JA:=
 aA (.r [0] .o) call379 func379 aj
def Jd:aq:=⟨378,[Lt,an,an],.bool,[],U3 lD⟩
theorem rF:Ko Jd:=
 aA .o call378 func378 aj
def Jb:aq:=⟨355,[Hi,an,an],.bool,[(true,0,Hi)],λs=>yv s.2.1 s.2.2 s.1⟩
theorem Dz:Ko Jb:=
 aA (.l ⟨[(true,0,Hi),(false,7,an)],[]⟩ (.c .o (.s (.j ⟨[(false,9,an)],[]⟩ .o .o)))) call355 func355 (al rF (al lv aj))
def Ri:aq:=⟨380,[ac5],Gy,[(true,0,ac5)],λs=>GY s⟩
theorem Mb:Ko Ri:=
 aA .o call380 func380 aj
def Ka:aq:=⟨353,[Hi],Gy,[(true,0,Hi)],λs=>AM s⟩
theorem Fz:Ko Ka:=
 aA .o call353 func353 (al tn (al lv (al Dz (al Mb aj))))
def Vj:aq:=⟨348,[aoY],an,[(true,0,adX)],U6 Jx⟩
theorem Na:Ko Vj:=
 aA .o call348 func348 (al Fz aj)
def Xv:aq:=⟨341,[apA,(.sli lV)],an,[(true,0,apu)],λs=>BM s.2.2.2.2.2.2 s.1 s.2.1 s.2.2.1 s.2.2.2.1 s.2.2.2.2.1 s.2.2.2.2.2.1⟩
theorem NQ:Ko Xv:=
 aA (.c .o (.l ⟨[(true,0,(.bx 452 0 true [.same,(.own mO 348 true),.same,.same,.same,.same])),(false,35,an)],[]⟩ (.c (.r [0] .o) .o))) call341 func341 (al Pr (al Na aj))
def ahv:aq:=⟨334,[(.dat yT [some 696,some 6]),an,je],an,[],U3 aa7⟩
theorem Z0:Ko ahv:=
 aA .o call334 func334 (al fu aj)
def RH:aq:=⟨343,[(.dat lV []),je],an,[],U2 wL⟩
theorem KX:Ko RH:=
 aA .o call343 func343 (al vA aj)
def kz:aq:=⟨338,[(.own lV 457 false),je,(.fn 343 [] [])],HJ,[],U2 fI⟩
theorem jx:Ko kz:=
 aA (.l ⟨[(false,9,an),(false,10,an)],[]⟩ .o) call338 func338 (al KX aj)
def uZ:aq:=⟨342,[(.sli lV)],(.own lV 457 true),[],λs=>mD s⟩
def uJ(s:Q8):Option Q8:= yK s ( some []) ( aM (aI (List.length ([]:List cI)+List.length s) 16)<| some (([]:List cI)++s))
theorem sY:Ko uZ:=
 aY .o call342 func342 aj aj aj λs=>(show _=uJ s from by kernel_rfl).trans mo
def Jl:aq:=⟨336,[apA,an,dS],an,[(true,0,apu)],λs=>Pn s.2.2.2.2.2.2.1 s.2.2.2.2.2.2.2 s.1 s.2.1 s.2.2.1 s.2.2.2.1 s.2.2.2.2.1 s.2.2.2.2.2.1⟩
def IE:adI->adI:=λa s=>JC a s.1 s.2.1 s.2.2.1 s.2.2.2.1 s.2.2.2.2.1 s.2.2.2.2.2.1 s.2.2.2.2.2.2.1 s.2.2.2.2.2.2.2
theorem M1(a:adI)(b:avs a):(rb (IE a)).Ok X0.P X0.Γ:=
 aA (.c .o (.s (.j ⟨[(false,7,(.own lV 457 true))],[]⟩ .o (.r [0,40000] (.s (.j ⟨[(false,7,(.own lV 457 true))],[8]⟩ .o .o)))))) call336 func336 (al NQ (al Z0 (al b (al jx (al agS (al sY aj))))))
theorem Rf:Ko Jl:=(show Jl=rb (aw (IE) ax) by kernel_rfl)▸dR (X:=X0) (E:=rb) ⟨call336,λ_ _ h=>nomatch h⟩ (M1) ax
def OX:aq:=⟨381,[ac5,Gy],fD,[(true,0,ac5)],λs=>Ed s.2 s.1⟩
theorem JR:Ko OX:=
 aA (.r [0] .o) call381 func381 aj
def HE:aq:=⟨351,[Hi,an],fD,[(true,0,Hi)],λs=>wE s.2 s.1⟩
theorem CM:Ko HE:=
 aA (.l ⟨[(true,0,Hi),(false,1,an)],[]⟩ .o) call351 func351 (al rF (al lv aj))
def I0:aq:=⟨345,[Hi,Gy],fD,[(true,0,Hi)],λs=>yw s.2 s.1⟩
theorem El:Ko I0:=
 aA .o call345 func345 (al JR (al tn (al CM aj)))
def DI:aq:=⟨337,[aoY,an],fD,[(true,0,adX)],λs=>J8 s.2.2.2.2.2.2 s.1 s.2.1 s.2.2.1 s.2.2.2.1 s.2.2.2.2.1 s.2.2.2.2.2.1⟩
def EB:adB->adB:=λa s=>DK a s.1 s.2.1 s.2.2.1 s.2.2.2.1 s.2.2.2.2.1 s.2.2.2.2.2.1 s.2.2.2.2.2.2
theorem Jp(a:adB)(b:avx a):(nq (EB a)).Ok X0.P X0.Γ:=
 aA (.c .o (.l ⟨[(true,0,adX),(false,42,an)],[]⟩ .o)) call337 func337 (al b (al El aj))
theorem Nd:Ko DI:=(show DI=nq (aw (EB) ax) by kernel_rfl)▸dR (X:=X0) (E:=nq) ⟨call337,λ_ _ h=>nomatch h⟩ (Jp) ax
def afj:aq:=⟨333,[W9,dS],(.cQ [W9,.bool,an]),[],U2 wK⟩
theorem GM:Ko afj:=
 aA (.c .o (.c .o (.r [7] (.r [7] (.j ⟨[(true,7,adX)],[]⟩ .o .o))))) call333 func333 (al wy (al sT (al dH (al Rf (al Nd aj)))))
def K8:aq:=⟨325,[nP,nc,aV],P4,[],U3 Bm⟩
theorem Fv:Ko K8:=
 aA .o call325 func325 (al fj (al wy (al ab9 (al GM aj))))
def adM:aq:=⟨374,[dS,rE,an,an],gH,[],U4 sU⟩
theorem mb:Ko adM:=
 aA (.l ⟨[(false,9,gH),(false,13,an)],[]⟩ .o) call374 func374 (al BS (al y6 aj))
def ag6:aq:=⟨371,[wT,dS,(.kr (.int .i64 0)),aai],fD,[(true,3,aai)],U3 aa2⟩
theorem Zm:Ko ag6:=
 aA (.l ⟨[(true,3,aai),(false,19,an)],[]⟩ (.c (.r [3] .o) .o)) call371 func371 (al mb aj)
def akn:aq:=⟨368,[wT,dS,(.kr (.int .i64 0))],.bool,[],U2 aeq⟩
theorem acT:Ko akn:=
 aA .o call368 func368 (al Zm aj)
def ab3:aq:=⟨369,[wT,dS],.bool,[],U2 Hp⟩
theorem Ew:Ko ab3:=
 aA .o call369 func369 (al acT aj)
def DQ:aq:=⟨256,[dS],iy,[],λs=>dK s⟩
def Di(s:Q1):Option Q1:= yK s ( some []) ( aM (aI (List.length ([]:zg)+List.length s) 1)<| some (([]:zg)++s))
theorem eR:Ko DQ:=
 aY .o call256 func256 aj aj aj λs=>(show _=Di s from by kernel_rfl).trans mo
def ZE:aq:=⟨371,[(.dat Iv [some 11,none,none]),dS,(.kr (.int .i64 0)),(.fn 373 [] [])],fD,[(true,0,(.agg [.same,.same,.same,iy,.same,.same]))],U2 E9⟩
theorem Ce:Ko ZE:=
 aA (.l ⟨[(true,0,(.agg [.same,.same,.same,iy,.same,.same])),(false,19,an)],[]⟩ (.c (.r [4,0] .o) .o)) call371 func371 (al mb aj)
def alu:aq:=⟨370,[wT,dS,(.kr (.int .i64 0))],(.dat Iv [some 11,none,none]),[],U2 ad2⟩
theorem aci:Ko alu:=
 aA .o call370 func370 (al eR (al Ce aj))
def acA:aq:=⟨365,[wT,dS],(.cQ [wT,.bool]),[],U2 Sz⟩
theorem Vs:Ko acA:=
 aA .o call365 func365 (al Ew (al aci aj))
def Kr:aq:=⟨359,[nP,nc,aV],P4,[],U3 AQ⟩
theorem FO:Ko Kr:=
 aA (.r [40000] .o) call359 func359 (al fj (al Vs aj))
def ZO:aq:=⟨77,[nc,aV],P4,[],U2 wD⟩
theorem B6:Ko ZO:=
 aA (.c .o (.r [2,4] .o)) call77 func77 (al ga (al BD (al FB (al DT (al EK (al Fv (al FO aj)))))))
def acj:aq:=⟨45,[yJ,CD],(.cQ [an,aV]),[],U2 SF⟩
theorem Ux:Ko acj:=
 aA (.c .o (.l ⟨[(true,6,atI),(false,10,an),(false,11,jc)],[]⟩ (.c (.r [] (.c .o (.l ⟨[(true,6,atI),(false,10,an),(false,11,jc),(false,61,an)],[]⟩ .o))) .o))) call45 func45 (al yF (al B6 (al sR aj)))
def JG:aq:=⟨24,[ak6],.bool,[(true,0,ak7)],λs=>yh s.1 s.2.1 s.2.2.1 s.2.2.2.1 s.2.2.2.2.1 s.2.2.2.2.2.1 s.2.2.2.2.2.2.1 s.2.2.2.2.2.2.2.1 s.2.2.2.2.2.2.2.2.1 (d8 s).2.1 (d8 s).2.2.1 (d8 s).2.2.2.1 (d8 s).2.2.2.2.1 (d8 s).2.2.2.2.2.1 (d8 s).2.2.2.2.2.2.1 (d8 s).2.2.2.2.2.2.2.1 (d8 (d8 s)).1 (d8 (d8 s)).2.1 (d8 (d8 s)).2.2.1 (d8 (d8 s)).2.2.2.1 (d8 (d8 s)).2.2.2.2.1 (d8 (d8 s)).2.2.2.2.2.1 (d8 (d8 s)).2.2.2.2.2.2⟩
theorem Ej:Ko JG:=
 aA .o call24 func24 (al Ux (al jn aj))
def ac1:aq:=⟨78,[yJ,O1],(.cQ [Ky,an]),[],U2 Sq⟩
theorem UM:Ko ac1:=
 aA (.c .o (.r [40000] .o)) call78 func78 (al Cg (al jg aj))
def agR:aq:=⟨145,[O1,aV,aV],(.fn 178 [] [adt,(.bx 77 0 true [(.sli (.l .ex)),BU,aV,BU]),adt]),[],U3 Ou⟩
theorem IF:Ko agR:=
 aA .o call145 func145 aj
def acw:aq:=⟨197,[dy,NM],.bool,[],U2 HS⟩
def B0(eta:Ex->Ex)(b:Sh->(R:Type)->Option R->Option R)(e:Ex)(x:Q1):x6:= (nY (eta e) x).bind λa=> some (a != 1)
theorem Vz:Ko acw:=
 aY .o call197 func197 (al sN aj) aj aj λs=>(show _=B0 bf aN s.1 s.2 from by kernel_rfl).trans ((congrArg (λeta=>B0 eta aN s.1 s.2) aL).trans ((congrArg (λa=>B0 id a s.1 s.2) aO).trans (by kernel_rfl)))
def sg:aq:=⟨209,[(.sli .ex),(.fn 197 [] [NM])],an,[],U2 kl⟩
def ph(eta:Ex->Ex)(f:Sh->(R:Type)->Option R->Option R)(s:(List Ex))(c:Q1)(a:Int->y2)(b:Int):y2:= bif decide (b<(s.length:Int)) then (idx s b).bind λe=> (HS (eta e) c).bind λd=> bif d then ( some b) else ( a (i64.wrap (b+1))) else some (-1)
def fO(eta:Ex->Ex)(a:Sh->(R:Type)->Option R->Option R)(s:(List Ex))(c:Q1):y2:= aw (ph eta a s c) ax 0
theorem pg:Ko sg:=
 aY (.l ⟨[(false,8,an)],[]⟩ .o) call209 func209 (al Vz aj) aj aj λs=>(show _=fO bf aN s.1 s.2 from by kernel_rfl).trans ((congrArg (λeta=>fO eta aN s.1 s.2) aL).trans ((congrArg (λa=>fO id a s.1 s.2) aO).trans (by kernel_rfl)))
def pd:aq:=⟨196,[(.sli .ex),(.fn 197 [] [NM])],.bool,[],U2 jh⟩
theorem nL:Ko pd:=
 aA .o call196 func196 (al pg aj)
def ale:aq:=⟨179,[O1,an,aV],.bool,[],U3 Up⟩
theorem Mi:Ko ale:=
 aA .o call179 func179 (al nL aj)
def wh:aq:=⟨198,[iy,an,an],iy,[],U3 ng⟩
theorem tR:Ko wh:=
 aA (.s (.s (.j ⟨[(false,0,iy),(false,7,rE)],[]⟩ .o .o))) call198 func198 (al ang aj)
def Ht:aq:=⟨180,[iy,an,an],iy,[],U3 xD⟩
theorem Cs:Ko Ht:=
 aA .o call180 func180 (al tR aj)
def Y1:aq:=⟨146,[aex,aV],fD,[(true,0,aex)],λs=>DP s.2.2 s.1 s.2.1⟩
theorem Ck:Ko Y1:=
 aA (.j ⟨[(true,0,(.bx 272 0 true [.same,(.mp .s .bo true)]))],[]⟩ .o (.l ⟨[(true,0,(.bx 272 0 true [.same,.same])),(false,4,iy),(false,18,an)],[]⟩ (.c .o (.r [] (.c (.r [0] .o) .o))))) call146 func146 (al Cs aj)
def agP:aq:=⟨118,[yJ,O1],jc,[],U2 abC⟩
theorem abx:(⟨178,Tryz.f178⟩:lK).Ok X0.P:=⟨call178,func178⟩
theorem Y7:Ko agP:=
 aY (.c (.c (.l ⟨[(false,9,an),(true,10005,aex)],[]⟩ (.c (.n 4 (.c .o .o)) .o)) .o) (.r [70000,5] .o)) call118 func118 (al IF (al Mi (al dH (al Ck aj)))) aj (al abx aj) λ_=>by kernel_rfl
def Nc:bR:=⟨119,[P6,aV],UL,none,false,false,.bool,[(true,0,L6)],λs=>nr (d8 (d8 (d8 (d8 (d8 s))))).2.2.2.2.2 s.1 s.2.1 s.2.2.1 s.2.2.2.1 s.2.2.2.2.1 s.2.2.2.2.2.1 s.2.2.2.2.2.2.1 s.2.2.2.2.2.2.2.1 s.2.2.2.2.2.2.2.2.1 (d8 s).2.1 (d8 s).2.2.1 (d8 s).2.2.2.1 (d8 s).2.2.2.2.1 (d8 s).2.2.2.2.2.1 (d8 s).2.2.2.2.2.2.1 (d8 s).2.2.2.2.2.2.2.1 (d8 (d8 s)).1 (d8 (d8 s)).2.1 (d8 (d8 s)).2.2.1 (d8 (d8 s)).2.2.2.1 (d8 (d8 s)).2.2.2.2.1 (d8 (d8 s)).2.2.2.2.2.1 (d8 (d8 s)).2.2.2.2.2.2.1 (d8 (d8 s)).2.2.2.2.2.2.2.1 (d8 (d8 (d8 s))).1 (d8 (d8 (d8 s))).2.1 (d8 (d8 (d8 s))).2.2.1 (d8 (d8 (d8 s))).2.2.2.1 (d8 (d8 (d8 s))).2.2.2.2.1 (d8 (d8 (d8 s))).2.2.2.2.2.1 (d8 (d8 (d8 s))).2.2.2.2.2.2.1 (d8 (d8 (d8 s))).2.2.2.2.2.2.2.1 (d8 (d8 (d8 (d8 s)))).1 (d8 (d8 (d8 (d8 s)))).2.1 (d8 (d8 (d8 (d8 s)))).2.2.1 (d8 (d8 (d8 (d8 s)))).2.2.2.1 (d8 (d8 (d8 (d8 s)))).2.2.2.2.1 (d8 (d8 (d8 (d8 s)))).2.2.2.2.2.1 (d8 (d8 (d8 (d8 s)))).2.2.2.2.2.2.1 (d8 (d8 (d8 (d8 s)))).2.2.2.2.2.2.2.1 (d8 (d8 (d8 (d8 (d8 s))))).1 (d8 (d8 (d8 (d8 (d8 s))))).2.1 (d8 (d8 (d8 (d8 (d8 s))))).2.2.1 (d8 (d8 (d8 (d8 (d8 s))))).2.2.2.1 (d8 (d8 (d8 (d8 (d8 s))))).2.2.2.2.1⟩
theorem mQ:tv Nc:=
 af1 (.s (.s (.j ⟨[],[]⟩ .o .o))) call119 func119 (al B6 aj)
def agp:aq:=⟨182,[aV],(.cQ [aV,an]),[],λs=>Kd s⟩
theorem Gh:Ko agp:=
 aA .o call182 func182 aj
def ah2:aq:=⟨181,[yJ,O1,aV],(.cQ [jc,an]),[],U3 abu⟩
theorem Z6:Ko ah2:=
 aY (.c .o (.l ⟨[(true,12,aex),(false,32,an)],[]⟩ (.c (.r [] (.c (.c (.l ⟨[(false,9,an),(true,10012,aex)],[]⟩ (.c (.n 4 (.c .o .o)) .o)) .o) (.r [70000,12] .o))) .o))) call181 func181 (al Gh (al sR (al IF (al Mi (al dH (al Ck aj)))))) aj (al abx aj) λ_=>by kernel_rfl
def IN:bR:=⟨147,[(.bx 198 0 false QL6),(.own Bz 279 true),aV],UL,none,false,false,(.own Bz 279 true),[],λs=>ja (d8 (d8 (d8 (d8 (d8 s))))).2.2.2.2.2.1 (d8 (d8 (d8 (d8 (d8 s))))).2.2.2.2.2.2 s.1 s.2.1 s.2.2.1 s.2.2.2.1 s.2.2.2.2.1 s.2.2.2.2.2.1 s.2.2.2.2.2.2.1 s.2.2.2.2.2.2.2.1 s.2.2.2.2.2.2.2.2.1 (d8 s).2.1 (d8 s).2.2.1 (d8 s).2.2.2.1 (d8 s).2.2.2.2.1 (d8 s).2.2.2.2.2.1 (d8 s).2.2.2.2.2.2.1 (d8 s).2.2.2.2.2.2.2.1 (d8 (d8 s)).1 (d8 (d8 s)).2.1 (d8 (d8 s)).2.2.1 (d8 (d8 s)).2.2.2.1 (d8 (d8 s)).2.2.2.2.1 (d8 (d8 s)).2.2.2.2.2.1 (d8 (d8 s)).2.2.2.2.2.2.1 (d8 (d8 s)).2.2.2.2.2.2.2.1 (d8 (d8 (d8 s))).1 (d8 (d8 (d8 s))).2.1 (d8 (d8 (d8 s))).2.2.1 (d8 (d8 (d8 s))).2.2.2.1 (d8 (d8 (d8 s))).2.2.2.2.1 (d8 (d8 (d8 s))).2.2.2.2.2.1 (d8 (d8 (d8 s))).2.2.2.2.2.2.1 (d8 (d8 (d8 s))).2.2.2.2.2.2.2.1 (d8 (d8 (d8 (d8 s)))).1 (d8 (d8 (d8 (d8 s)))).2.1 (d8 (d8 (d8 (d8 s)))).2.2.1 (d8 (d8 (d8 (d8 s)))).2.2.2.1 (d8 (d8 (d8 (d8 s)))).2.2.2.2.1 (d8 (d8 (d8 (d8 s)))).2.2.2.2.2.1 (d8 (d8 (d8 (d8 s)))).2.2.2.2.2.2.1 (d8 (d8 (d8 (d8 s)))).2.2.2.2.2.2.2.1 (d8 (d8 (d8 (d8 (d8 s))))).1 (d8 (d8 (d8 (d8 (d8 s))))).2.1 (d8 (d8 (d8 (d8 (d8 s))))).2.2.1 (d8 (d8 (d8 (d8 (d8 s))))).2.2.2.1 (d8 (d8 (d8 (d8 (d8 s))))).2.2.2.2.1⟩
theorem rU:tv IN:=
 af1 (.s (.j ⟨[],[]⟩ .o (.r [] (.j ⟨[],[]⟩ .o .o)))) call147 func147 (al Z6 aj)
def agi:aq:=⟨148,[O1,aV],.bool,[],U2 Yr⟩
theorem Ww:Ko agi:=
 aA .o call148 func148 (al Gh (al nD aj))
def CO:aq:=⟨152,[Ql],fD,[],λs=>tw s⟩
theorem Ag:Ko CO:=
 aA .o call152 func152 aj
def Ih:aq:=⟨126,[aV,aV],.bool,[],U2 kK⟩
theorem kG:Ko Ih:=
 aA (.c .o (.l ⟨[(false,13,an)],[]⟩ .o)) call126 func126 aj
def ab4:aq:=⟨150,[(.sli Bz)],jc,[],λs=>HV s⟩
theorem Uu:Ko ab4:=
 aA (.l ⟨[(false,3,jc),(false,8,an)],[]⟩ .o) call150 func150 aj
def CY:bR:=⟨149,[Ql,aV,NM,(.bx 250 0 false [Ql])],YO,none,false,true,fD,[],U4 tz⟩
theorem yD:tv CY:=
 af1 (.c (.r [80000] .o) .o) call149 func149 (al kG (al Uu aj))
def alH:aq:=⟨257,[an],je,[],λs=>V1 s⟩
theorem Mn:Ko alH:=
 aA .o call257 func257 aj
def acp:aq:=⟨251,[an,je,ajA,ada],fD,[(true,3,ada)],U7 Ud⟩
theorem V0:Ko acp:=
 aA .o call251 func251 aj
def am7:aq:=⟨250,[Vb,dS,an,(.fn 251 [] [ajA,ada])],an,[(true,3,(.fn 251 [] [.same,ada]))],U8 aiu⟩
theorem agL:Ko am7:=
 aA .o call250 func250 (al Mn (al mz (al V0 aj)))
def akR:aq:=⟨245,[Vb,dS,an],Hz,[],U3 afz⟩
theorem acf:Ko akR:=
 aA .o call245 func245 (al agL aj)
def Rb:aq:=⟨239,[nP,nc,aV,an],Hz,[],U4 GG⟩
theorem LC:Ko Rb:=
 aA (.r [5] .o) call239 func239 (al fj (al acf aj))
def am9:aq:=⟨288,[O7,iN,aV,an],(.cQ [an,an]),[],U4 Zu⟩
theorem Nv:Ko am9:=
 aA .o call288 func288 (al ga (al IG aj))
def ajQ:aq:=⟨285,[O7,iN,aV,an],Hz,[],U4 afm⟩
theorem acy:Ko ajQ:=
 aA .o call285 func285 (al Nv aj)
def OZ:aq:=⟨279,[nP,nc,aV,an],Hz,[],U4 EM⟩
theorem J5:Ko OZ:=
 aA .o call279 func279 (al acy aj)
def ams:aq:=⟨308,[NR,iN,aV,an],(.cQ [an,an]),[],U4 aaQ⟩
theorem OG:Ko ams:=
 aA .o call308 func308 (al ga (al Jj aj))
def aj6:aq:=⟨303,[NR,iN,aV,an],Hz,[],U4 afB⟩
theorem ab0:Ko aj6:=
 aA .o call303 func303 (al OG aj)
def OR:aq:=⟨297,[nP,nc,aV,an],Hz,[],U4 DL⟩
theorem I9:Ko OR:=
 aA .o call297 func297 (al ab0 aj)
def Xm:aq:=⟨330,[nc,aV,an],an,[],U3 BZ⟩
theorem Bc:Ko Xm:=
 aA (.c .o (.r [3] .o)) call330 func330 (al fj (al wy aj))
def RO:aq:=⟨324,[nP,nc,aV,an],Hz,[],U4 Ha⟩
theorem LS:Ko RO:=
 aA (.c .o (.r [5] .o)) call324 func324 (al Bc (al fj (al wy aj)))
def akl:aq:=⟨367,[wT,dS,an],an,[],U3 Us⟩
theorem Mz:Ko akl:=
 aA .o call367 func367 (al Ew aj)
def Zc:aq:=⟨371,[wT,dS,an,aai],fD,[(true,3,aai)],U4 Pm⟩
theorem RQ:Ko Zc:=
 aA (.l ⟨[(true,3,aai),(false,19,an)],[]⟩ (.c (.r [3] .o) .o)) call371 func371 (al mb aj)
def acu:aq:=⟨368,[wT,dS,an],.bool,[],U3 Sk⟩
theorem UP:Ko acu:=
 aA .o call368 func368 (al RQ aj)
def akU:aq:=⟨364,[wT,dS,an],Hz,[],U3 agK⟩
theorem abY:Ko akU:=
 aA .o call364 func364 (al Mz (al UP aj))
def QX:aq:=⟨358,[nP,nc,aV,an],Hz,[],U4 Gj⟩
theorem Kg:Ko QX:=
 aA (.r [5] .o) call358 func358 (al fj (al abY aj))
def ahZ:aq:=⟨183,[nc,aV,an],Hz,[],U3 aa0⟩
theorem ZN:Ko ahZ:=
 aA (.c .o (.r [3] .o)) call183 func183 (al ga (al BD (al LC (al J5 (al I9 (al LS (al Kg aj)))))))
def acq:aq:=⟨255,[an,je,ajA,ajN],fD,[(true,3,(.bx 113 0 true [.same,.same,.same,dS]))],λs=>Uf s.1 s.2.1 s.2.2.1 s.2.2.2.1 s.2.2.2.2.1 s.2.2.2.2.2.1 s.2.2.2.2.2.2.1 s.2.2.2.2.2.2.2.1 s.2.2.2.2.2.2.2.2.1 (d8 s).2⟩
theorem Vc:Ko acq:=
 aA .o call255 func255 (al eR aj)
def aeo:aq:=⟨250,[Vb,dS,an,(.fn 255 [] [ajA,ajN])],an,[(true,3,(.fn 255 [] [.same,ajN]))],λs=>XL s.1 s.2.1 s.2.2.1 s.2.2.2.1 s.2.2.2.2.1 s.2.2.2.2.2.1 s.2.2.2.2.2.2.1 s.2.2.2.2.2.2.2.1 s.2.2.2.2.2.2.2.2.1 (d8 s).2.1 (d8 s).2.2⟩
theorem YQ:Ko aeo:=
 aA .o call250 func250 (al Mn (al mz (al Vc aj)))
def akE:aq:=⟨248,[Vb,dS,an],(.cQ [Vb,an]),[],U3 adw⟩
theorem ab7:Ko akE:=
 aA .o call248 func248 (al YQ aj)
def Rr:aq:=⟨243,[nP,nc,aV,an],CU,[],U4 Ga⟩
theorem Lb:Ko Rr:=
 aA (.r [40000] .o) call243 func243 (al fj (al ab7 aj))
def akL:aq:=⟨287,[O7,iN,aV,an],(.cQ [O7,an]),[],U4 ad5⟩
theorem ab8:Ko akL:=
 aA (.c .o (.r [4] .o)) call287 func287 (al Nv (al eR aj))
def Nt:aq:=⟨283,[nP,nc,aV,an],CU,[],U4 DX⟩
theorem IT:Ko Nt:=
 aA .o call283 func283 (al ab8 aj)
def ajP:aq:=⟨305,[NR,iN,aV,an],(.cQ [NR,an]),[],U4 ago⟩
theorem abX:Ko ajP:=
 aA (.c .o (.r [4] .o)) call305 func305 (al OG (al eR aj))
def Pc:aq:=⟨301,[nP,nc,aV,an],CU,[],U4 DM⟩
theorem IY:Ko Pc:=
 aA .o call301 func301 (al abX aj)
def QM:aq:=⟨328,[nP,nc,aV,an],CU,[],U4 Gf⟩
theorem Lk:Ko QM:=
 aA (.c .o (.r [5] .o)) call328 func328 (al Bc (al fj (al GM aj)))
def aaC:aq:=⟨371,[(.dat Iv [none,some 11,none]),dS,(.kr (.int .i64 1)),(.fn 373 [] [])],fD,[(true,0,(.agg [.same,.same,.same,.same,iy,.same]))],U2 Ow⟩
theorem RA:Ko aaC:=
 aA (.l ⟨[(true,0,(.agg [.same,.same,.same,.same,iy,.same])),(false,19,an)],[]⟩ (.c (.r [4,0] .o) .o)) call371 func371 (al mb aj)
def aaw:aq:=⟨371,[(.dat Iv [none,none,some 11]),dS,(.kr (.int .i64 2)),(.fn 373 [] [])],fD,[(true,0,(.agg [.same,.same,.same,.same,.same,iy]))],U2 NT⟩
theorem Rh:Ko aaw:=
 aA (.l ⟨[(true,0,(.agg [.same,.same,.same,.same,.same,iy])),(false,19,an)],[]⟩ (.c (.r [4,0] .o) .o)) call371 func371 (al mb aj)
def acs:aq:=⟨370,[wT,dS,an],wT,[],U3 SC⟩
theorem UY:Ko acs:=
 aA (.r [60000,2,0,0,1,2] (.c .o (.c .o (.c .o (.n 77777 .o))))) call370 func370 (al eR (al Ce (al RA (al Rh aj))))
def ajZ:aq:=⟨366,[wT,dS,an],(.cQ [wT,an]),[],U3 af8⟩
theorem acd:Ko ajZ:=
 aA .o call366 func366 (al Mz (al UY aj))
def QG:aq:=⟨362,[nP,nc,aV,an],CU,[],U4 GS⟩
theorem Lu:Ko QG:=
 aA (.r [40000] .o) call362 func362 (al fj (al acd aj))
def agZ:aq:=⟨184,[nc,aV,an],CU,[],U3 aaS⟩
theorem Zw:Ko agZ:=
 aA (.c .o (.r [3,6] .o)) call184 func184 (al ga (al BD (al Lb (al IT (al IY (al Lk (al Lu aj)))))))
def MX:bR:=⟨151,[P6,aV],UL,none,false,false,.bool,[(true,0,L6)],λs=>Ca (d8 (d8 (d8 (d8 (d8 s))))).2.2.2.2.2 s.1 s.2.1 s.2.2.1 s.2.2.2.1 s.2.2.2.2.1 s.2.2.2.2.2.1 s.2.2.2.2.2.2.1 s.2.2.2.2.2.2.2.1 s.2.2.2.2.2.2.2.2.1 (d8 s).2.1 (d8 s).2.2.1 (d8 s).2.2.2.1 (d8 s).2.2.2.2.1 (d8 s).2.2.2.2.2.1 (d8 s).2.2.2.2.2.2.1 (d8 s).2.2.2.2.2.2.2.1 (d8 (d8 s)).1 (d8 (d8 s)).2.1 (d8 (d8 s)).2.2.1 (d8 (d8 s)).2.2.2.1 (d8 (d8 s)).2.2.2.2.1 (d8 (d8 s)).2.2.2.2.2.1 (d8 (d8 s)).2.2.2.2.2.2.1 (d8 (d8 s)).2.2.2.2.2.2.2.1 (d8 (d8 (d8 s))).1 (d8 (d8 (d8 s))).2.1 (d8 (d8 (d8 s))).2.2.1 (d8 (d8 (d8 s))).2.2.2.1 (d8 (d8 (d8 s))).2.2.2.2.1 (d8 (d8 (d8 s))).2.2.2.2.2.1 (d8 (d8 (d8 s))).2.2.2.2.2.2.1 (d8 (d8 (d8 s))).2.2.2.2.2.2.2.1 (d8 (d8 (d8 (d8 s)))).1 (d8 (d8 (d8 (d8 s)))).2.1 (d8 (d8 (d8 (d8 s)))).2.2.1 (d8 (d8 (d8 (d8 s)))).2.2.2.1 (d8 (d8 (d8 (d8 s)))).2.2.2.2.1 (d8 (d8 (d8 (d8 s)))).2.2.2.2.2.1 (d8 (d8 (d8 (d8 s)))).2.2.2.2.2.2.1 (d8 (d8 (d8 (d8 s)))).2.2.2.2.2.2.2.1 (d8 (d8 (d8 (d8 (d8 s))))).1 (d8 (d8 (d8 (d8 (d8 s))))).2.1 (d8 (d8 (d8 (d8 (d8 s))))).2.2.1 (d8 (d8 (d8 (d8 (d8 s))))).2.2.2.1 (d8 (d8 (d8 (d8 (d8 s))))).2.2.2.2.1⟩
theorem Hr:tv MX:=
 sJ .o call151 func151 (al ZN (al Zw aj)) (al mQ aj) aj λ_=>by kernel_rfl
def J4:bR:=⟨120,[P6,aV,(.fn 151 [(.ptr 0 0)] []),(.fn 149 [] [NM,(.bx 250 0 false [Ql])]),(.fn 152 [] [])],UL,some YO,false,true,fD,[(true,0,L6)],λs=>yu (d8 (d8 (d8 (d8 (d8 s))))).2.2.2.2.2.1 s.1 s.2.1 s.2.2.1 s.2.2.2.1 s.2.2.2.2.1 s.2.2.2.2.2.1 s.2.2.2.2.2.2.1 s.2.2.2.2.2.2.2.1 s.2.2.2.2.2.2.2.2.1 (d8 s).2.1 (d8 s).2.2.1 (d8 s).2.2.2.1 (d8 s).2.2.2.2.1 (d8 s).2.2.2.2.2.1 (d8 s).2.2.2.2.2.2.1 (d8 s).2.2.2.2.2.2.2.1 (d8 (d8 s)).1 (d8 (d8 s)).2.1 (d8 (d8 s)).2.2.1 (d8 (d8 s)).2.2.2.1 (d8 (d8 s)).2.2.2.2.1 (d8 (d8 s)).2.2.2.2.2.1 (d8 (d8 s)).2.2.2.2.2.2.1 (d8 (d8 s)).2.2.2.2.2.2.2.1 (d8 (d8 (d8 s))).1 (d8 (d8 (d8 s))).2.1 (d8 (d8 (d8 s))).2.2.1 (d8 (d8 (d8 s))).2.2.2.1 (d8 (d8 (d8 s))).2.2.2.2.1 (d8 (d8 (d8 s))).2.2.2.2.2.1 (d8 (d8 (d8 s))).2.2.2.2.2.2.1 (d8 (d8 (d8 s))).2.2.2.2.2.2.2.1 (d8 (d8 (d8 (d8 s)))).1 (d8 (d8 (d8 (d8 s)))).2.1 (d8 (d8 (d8 (d8 s)))).2.2.1 (d8 (d8 (d8 (d8 s)))).2.2.2.1 (d8 (d8 (d8 (d8 s)))).2.2.2.2.1 (d8 (d8 (d8 (d8 s)))).2.2.2.2.2.1 (d8 (d8 (d8 (d8 s)))).2.2.2.2.2.2.1 (d8 (d8 (d8 (d8 s)))).2.2.2.2.2.2.2.1 (d8 (d8 (d8 (d8 (d8 s))))).1 (d8 (d8 (d8 (d8 (d8 s))))).2.1 (d8 (d8 (d8 (d8 (d8 s))))).2.2.1 (d8 (d8 (d8 (d8 (d8 s))))).2.2.2.1 (d8 (d8 (d8 (d8 (d8 s))))).2.2.2.2.1 (d8 (d8 (d8 (d8 (d8 s))))).2.2.2.2.2.2.1 (d8 (d8 (d8 (d8 (d8 s))))).2.2.2.2.2.2.2⟩
theorem DJ:tv J4:=
 sJ (.l ⟨[(true,0,L6),(false,11,(.own Bz 279 true))],[]⟩ .o) call120 func120 (al Ag aj) (al rU (al yD (al Hr aj))) aj λ_=>by kernel_rfl
def Is:bR:=⟨122,[P6,Ql],UL,some YO,false,true,fD,[(true,0,L6)],λs=>xo (d8 (d8 (d8 (d8 (d8 s))))).2.2.2.2.2 s.1 s.2.1 s.2.2.1 s.2.2.2.1 s.2.2.2.2.1 s.2.2.2.2.2.1 s.2.2.2.2.2.2.1 s.2.2.2.2.2.2.2.1 s.2.2.2.2.2.2.2.2.1 (d8 s).2.1 (d8 s).2.2.1 (d8 s).2.2.2.1 (d8 s).2.2.2.2.1 (d8 s).2.2.2.2.2.1 (d8 s).2.2.2.2.2.2.1 (d8 s).2.2.2.2.2.2.2.1 (d8 (d8 s)).1 (d8 (d8 s)).2.1 (d8 (d8 s)).2.2.1 (d8 (d8 s)).2.2.2.1 (d8 (d8 s)).2.2.2.2.1 (d8 (d8 s)).2.2.2.2.2.1 (d8 (d8 s)).2.2.2.2.2.2.1 (d8 (d8 s)).2.2.2.2.2.2.2.1 (d8 (d8 (d8 s))).1 (d8 (d8 (d8 s))).2.1 (d8 (d8 (d8 s))).2.2.1 (d8 (d8 (d8 s))).2.2.2.1 (d8 (d8 (d8 s))).2.2.2.2.1 (d8 (d8 (d8 s))).2.2.2.2.2.1 (d8 (d8 (d8 s))).2.2.2.2.2.2.1 (d8 (d8 (d8 s))).2.2.2.2.2.2.2.1 (d8 (d8 (d8 (d8 s)))).1 (d8 (d8 (d8 (d8 s)))).2.1 (d8 (d8 (d8 (d8 s)))).2.2.1 (d8 (d8 (d8 (d8 s)))).2.2.2.1 (d8 (d8 (d8 (d8 s)))).2.2.2.2.1 (d8 (d8 (d8 (d8 s)))).2.2.2.2.2.1 (d8 (d8 (d8 (d8 s)))).2.2.2.2.2.2.1 (d8 (d8 (d8 (d8 s)))).2.2.2.2.2.2.2.1 (d8 (d8 (d8 (d8 (d8 s))))).1 (d8 (d8 (d8 (d8 (d8 s))))).2.1 (d8 (d8 (d8 (d8 (d8 s))))).2.2.1 (d8 (d8 (d8 (d8 (d8 s))))).2.2.2.1 (d8 (d8 (d8 (d8 (d8 s))))).2.2.2.2.1⟩
theorem CT:tv Is:=
 sJ .o call122 func122 (al Ww aj) (al DJ aj) aj λ_=>by kernel_rfl
def C4:aq:=⟨121,[Ql,aV],fD,[],U2 tl⟩
theorem yW:Ko C4:=
 aA .o call121 func121 aj
def Nn:bR:=⟨120,[P6,aV,(.fn 119 [(.ptr 0 0)] []),(.fn 121 [] []),(.fn 122 [(.ptr 0 0)] [])],UL,some YO,false,false,fD,[(true,0,L6)],λs=>Dt (d8 (d8 (d8 (d8 (d8 s))))).2.2.2.2.2 s.1 s.2.1 s.2.2.1 s.2.2.2.1 s.2.2.2.2.1 s.2.2.2.2.2.1 s.2.2.2.2.2.2.1 s.2.2.2.2.2.2.2.1 s.2.2.2.2.2.2.2.2.1 (d8 s).2.1 (d8 s).2.2.1 (d8 s).2.2.2.1 (d8 s).2.2.2.2.1 (d8 s).2.2.2.2.2.1 (d8 s).2.2.2.2.2.2.1 (d8 s).2.2.2.2.2.2.2.1 (d8 (d8 s)).1 (d8 (d8 s)).2.1 (d8 (d8 s)).2.2.1 (d8 (d8 s)).2.2.2.1 (d8 (d8 s)).2.2.2.2.1 (d8 (d8 s)).2.2.2.2.2.1 (d8 (d8 s)).2.2.2.2.2.2.1 (d8 (d8 s)).2.2.2.2.2.2.2.1 (d8 (d8 (d8 s))).1 (d8 (d8 (d8 s))).2.1 (d8 (d8 (d8 s))).2.2.1 (d8 (d8 (d8 s))).2.2.2.1 (d8 (d8 (d8 s))).2.2.2.2.1 (d8 (d8 (d8 s))).2.2.2.2.2.1 (d8 (d8 (d8 s))).2.2.2.2.2.2.1 (d8 (d8 (d8 s))).2.2.2.2.2.2.2.1 (d8 (d8 (d8 (d8 s)))).1 (d8 (d8 (d8 (d8 s)))).2.1 (d8 (d8 (d8 (d8 s)))).2.2.1 (d8 (d8 (d8 (d8 s)))).2.2.2.1 (d8 (d8 (d8 (d8 s)))).2.2.2.2.1 (d8 (d8 (d8 (d8 s)))).2.2.2.2.2.1 (d8 (d8 (d8 (d8 s)))).2.2.2.2.2.2.1 (d8 (d8 (d8 (d8 s)))).2.2.2.2.2.2.2.1 (d8 (d8 (d8 (d8 (d8 s))))).1 (d8 (d8 (d8 (d8 (d8 s))))).2.1 (d8 (d8 (d8 (d8 (d8 s))))).2.2.1 (d8 (d8 (d8 (d8 (d8 s))))).2.2.2.1 (d8 (d8 (d8 (d8 (d8 s))))).2.2.2.2.1⟩
theorem Ji:tv Nn:=
 sJ (.l ⟨[(true,0,L6),(false,11,(.own Bz 279 true))],[]⟩ .o) call120 func120 (al yW aj) (al rU (al CT (al mQ aj))) aj λ_=>by kernel_rfl
def MD:bR:=⟨80,[P6],UL,some YO,false,false,fD,[(true,0,L6)],λs=>Cc s.1 s.2.1 s.2.2.1 s.2.2.2.1 s.2.2.2.2.1 s.2.2.2.2.2.1 s.2.2.2.2.2.2.1 s.2.2.2.2.2.2.2.1 s.2.2.2.2.2.2.2.2.1 (d8 s).2.1 (d8 s).2.2.1 (d8 s).2.2.2.1 (d8 s).2.2.2.2.1 (d8 s).2.2.2.2.2.1 (d8 s).2.2.2.2.2.2.1 (d8 s).2.2.2.2.2.2.2.1 (d8 (d8 s)).1 (d8 (d8 s)).2.1 (d8 (d8 s)).2.2.1 (d8 (d8 s)).2.2.2.1 (d8 (d8 s)).2.2.2.2.1 (d8 (d8 s)).2.2.2.2.2.1 (d8 (d8 s)).2.2.2.2.2.2.1 (d8 (d8 s)).2.2.2.2.2.2.2.1 (d8 (d8 (d8 s))).1 (d8 (d8 (d8 s))).2.1 (d8 (d8 (d8 s))).2.2.1 (d8 (d8 (d8 s))).2.2.2.1 (d8 (d8 (d8 s))).2.2.2.2.1 (d8 (d8 (d8 s))).2.2.2.2.2.1 (d8 (d8 (d8 s))).2.2.2.2.2.2.1 (d8 (d8 (d8 s))).2.2.2.2.2.2.2.1 (d8 (d8 (d8 (d8 s)))).1 (d8 (d8 (d8 (d8 s)))).2.1 (d8 (d8 (d8 (d8 s)))).2.2.1 (d8 (d8 (d8 (d8 s)))).2.2.2.1 (d8 (d8 (d8 (d8 s)))).2.2.2.2.1 (d8 (d8 (d8 (d8 s)))).2.2.2.2.2.1 (d8 (d8 (d8 (d8 s)))).2.2.2.2.2.2.1 (d8 (d8 (d8 (d8 s)))).2.2.2.2.2.2.2.1 (d8 (d8 (d8 (d8 (d8 s))))).1 (d8 (d8 (d8 (d8 (d8 s))))).2.1 (d8 (d8 (d8 (d8 (d8 s))))).2.2.1 (d8 (d8 (d8 (d8 (d8 s))))).2.2.2.1 (d8 (d8 (d8 (d8 (d8 s))))).2.2.2.2⟩
theorem Hv:tv MD:=
 sJ (.r [] (.l ⟨[(true,0,L6),(false,14,an)],[]⟩ .o)) call80 func80 (al Y7 aj) (al mQ (al Ji aj)) aj λ_=>by kernel_rfl
def ahH:aq:=⟨46,[yJ,O1,CD],(.cQ [.bool,aag,an,aV]),[],U3 abb⟩
theorem apI:(⟨79,Tryz.f79⟩:lK).Ok X0.P:=⟨call79,func79⟩
theorem Zd:Ko ahH:=
 aY (.c (.r [6,7,8,9] .o) .o) call46 func46 (al UM (al yF aj)) (al Hv aj) (al apI aj) λ_=>by kernel_rfl
def acE:aq:=⟨81,[aV],aV,[],λs=>SG s⟩
theorem Vy:Ko acE:=
 aA .o call81 func81 aj
def Li:aq:=⟨82,[BU,(.fn 81 [] [])],jc,[],λs=>rO s⟩
theorem FN:Ko Li:=
 aA (.l ⟨[(false,5,jc),(false,10,an)],[]⟩ .o) call82 func82 (al Vy aj)
def alm:aq:=⟨47,[aag],aag,[],λs=>afy s⟩
theorem acL:Ko alm:=
 aA (.r [2] .o) call47 func47 (al FN aj)
def Ff:aq:=⟨123,[(.sli pV)],jc,[],λs=>nT s⟩
theorem pn:Ko Ff:=
 aA (.l ⟨[(false,3,an),(false,11,an)],[]⟩ (.c .o (.l ⟨[(false,6,jc),(false,27,an)],[]⟩ .o))) call123 func123 (al anV aj)
def Y5:aq:=⟨125,[aV,ajy],.bool,[],U6 Pl⟩
theorem QW:Ko Y5:=
 aA .o call125 func125 (al ga aj)
def Jv:aq:=⟨124,[BU,(.fn 125 [] [ajy])],eZ,[],U6 yn⟩
theorem Dw:Ko Jv:=
 aA (.l ⟨[(false,5,eZ),(false,10,an)],[]⟩ .o) call124 func124 (al QW aj)
def QO:aq:=⟨130,[aV,NM],.bool,[],U2 GD⟩
theorem Lf:Ko QO:=
 aA .o call130 func130 (al kG aj)
def Bt:aq:=⟨154,[BU,(.fn 130 [] [NM])],an,[],U2 rL⟩
theorem yb:Ko Bt:=
 aA (.l ⟨[(false,8,an)],[]⟩ .o) call154 func154 (al Lf aj)
def x5:aq:=⟨129,[BU,(.fn 130 [] [NM])],.bool,[],U2 n5⟩
theorem uU:Ko x5:=
 aA .o call129 func129 (al yb aj)
def Zk:aq:=⟨128,[aV,aV,ajy],.bool,[],U7 Oo⟩
theorem Ro:Ko Zk:=
 aA .o call128 func128 (al sR (al uU aj))
def V7:aq:=⟨127,[BU,(.fn 128 [] [ajy])],.bool,[],U6 J7⟩
theorem Nf:Ko V7:=
 aA (.l ⟨[(false,5,an)],[]⟩ (.c (.r [1] .o) .o)) call127 func127 (al Ro aj)
def ahI:aq:=⟨83,[yJ,aag],.bool,[],U2 NX⟩
theorem Za:Ko ahI:=
 aA (.c .o (.r [] (.r [6] .o))) call83 func83 (al pn (al Dw (al iA (al kG (al Nf aj)))))
def aeT:aq:=⟨85,[aag],(.dat (.p pV bh) [some 79]),[],λs=>LW s⟩
theorem Yi:Ko aeT:=
 aA (.r [2] .o) call85 func85 (al pn aj)
def al2:aq:=⟨155,[dy],.bool,[],λs=>ZT s⟩
def Nz(eta:Ex->Ex)(f:Sh->(R:Type)->Option R->Option R)(e:Ex):x6:= (kO (eta e)).bind λc=> ah (c.2.1==0) λd=> ah (c.1==2) λb=> ah (d&&b) λa=> some a
theorem aei:Ko al2:=
 aY .o call155 func155 (al sW aj) aj aj λs=>(show _=Nz bf aN s from by kernel_rfl).trans ((congrArg (λeta=>Nz eta aN s) aL).trans ((congrArg (λa=>Nz id a s) aO).trans (by kernel_rfl)))
def afT:aq:=⟨157,[an,Zb,PK],.bool,[],U7 XG⟩
theorem Yq:Ko afT:=
 aA .o call157 func157 (al sN aj)
def akm:aq:=⟨156,[an,(.fn 157 [] [Zb,PK])],eZ,[],U7 Vu⟩
theorem acx:Ko akm:=
 aA (.l ⟨[(true,5,eZ),(false,11,an)],[]⟩ .o) call156 func156 (al Yq aj)
def aeg:aq:=⟨160,[an,kC],.bool,[],U2 YR⟩
theorem Wr:Ko aeg:=
 aA .o call160 func160 aj
def acr:aq:=⟨156,[an,(.fn 160 [] [kC])],eZ,[],U2 Sc⟩
theorem V9:Ko acr:=
 aA (.l ⟨[(true,5,eZ),(false,11,an)],[]⟩ .o) call156 func156 (al Wr aj)
def ags:aq:=⟨161,[an,kC,kC],.bool,[],U3 WH⟩
theorem Yw:Ko ags:=
 aA .o call161 func161 aj
def ach:aq:=⟨156,[an,(.fn 161 [] [kC,kC])],eZ,[],U3 S8⟩
theorem Vv:Ko ach:=
 aA (.l ⟨[(true,5,eZ),(false,11,an)],[]⟩ .o) call156 func156 (al Yw aj)
def adZ:aq:=⟨162,[an,kC,kC],.bool,[],U3 W2⟩
theorem XP:Ko adZ:=
 aA .o call162 func162 aj
def acZ:aq:=⟨156,[an,(.fn 162 [] [kC,kC])],eZ,[],U3 Sj⟩
theorem UQ:Ko acZ:=
 aA (.l ⟨[(true,5,eZ),(false,11,an)],[]⟩ .o) call156 func156 (al XP aj)
def afS:aq:=⟨163,[an,kC,kC],.bool,[],U3 YH⟩
theorem W3:Ko afS:=
 aA .o call163 func163 aj
def acS:aq:=⟨156,[an,(.fn 163 [] [kC,kC])],eZ,[],U3 S6⟩
theorem US:Ko acS:=
 aA (.l ⟨[(true,5,eZ),(false,11,an)],[]⟩ .o) call156 func156 (al W3 aj)
def afW:aq:=⟨164,[an,kC,kC],.bool,[],U3 WU⟩
theorem XU:Ko afW:=
 aA .o call164 func164 aj
def abS:aq:=⟨156,[an,(.fn 164 [] [kC,kC])],eZ,[],U3 SQ⟩
theorem V6:Ko abS:=
 aA (.l ⟨[(true,5,eZ),(false,11,an)],[]⟩ .o) call156 func156 (al XU aj)
def alw:aq:=⟨166,[OE,an],an,[],U2 KH⟩
theorem Br:Ko alw:=
 aA .o call166 func166 aj
def ae0:aq:=⟨165,[an,kC,PK],.bool,[],U4 XW⟩
theorem Yc:Ko ae0:=
 aA .o call165 func165 (al Br aj)
def abQ:aq:=⟨156,[an,(.fn 165 [] [kC,PK])],eZ,[],U4 Ua⟩
theorem VT:Ko abQ:=
 aA (.l ⟨[(true,5,eZ),(false,11,an)],[]⟩ .o) call156 func156 (al Yc aj)
def Wt:aq:=⟨159,[an,P9],.bool,[],U2 Mw⟩
theorem Pg:Ko Wt:=
 aA .o call159 func159 aj
def ab2:aq:=⟨156,[an,(.fn 159 [] [P9])],eZ,[],U2 RZ⟩
theorem Uw:Ko ab2:=
 aA (.l ⟨[(true,5,eZ),(false,11,an)],[]⟩ .o) call156 func156 (al Pg aj)
def ady:aq:=⟨158,[.bool,(.bx 3 0 false [an])],eZ,[],U2 LK⟩
theorem Yp:Ko ady:=
 aA .o call158 func158 (al Uw aj)
def YZ:aq:=⟨199,[an,P9],.bool,[],U2 Oa⟩
theorem RG:Ko YZ:=
 aA .o call199 func199 aj
def acN:aq:=⟨156,[an,(.fn 199 [] [P9])],eZ,[],U2 HB⟩
theorem EA:Ko acN:=
 aA (.l ⟨[(true,5,eZ),(false,11,an)],[]⟩ .o) call156 func156 (al RG aj)
def QU:aq:=⟨186,[an,(.own .bo 4 false),PG,PG,PK],.bool,[],U6 Gi⟩
theorem Me:Ko QU:=
 aA .o call186 func186 (al Br aj)
def aao:aq:=⟨200,[an,(.bx 309 0 false [aj9]),kC],.bool,[],λs=>NP s.1 s.2.2.2.2.2 s.2.1 s.2.2.1 s.2.2.2.1 s.2.2.2.2.1⟩
theorem Rv:Ko aao:=
 aA .o call200 func200 (al Me aj)
def Zt:aq:=⟨156,[an,(.fn 200 [] [(.bx 309 0 false [aj9]),kC])],eZ,[],λs=>Ov s.1 s.2.2.2.2.2 s.2.1 s.2.2.1 s.2.2.2.1 s.2.2.2.2.1⟩
theorem RK:Ko Zt:=
 aA (.l ⟨[(true,5,eZ),(false,11,an)],[]⟩ .o) call156 func156 (al Rv aj)
def wS:aq:=⟨201,[(.own .bo 4 false),(.own .bo 4 false)],.bool,[],U2 jf⟩
theorem kS:Ko wS:=
 aA (.c .o (.l ⟨[(false,13,an)],[]⟩ .o)) call201 func201 aj
def ahJ:aq:=⟨185,[OE,.bool,aj9],eZ,[],U6 abl⟩
theorem aaF:Ko ahJ:=
 aA (.n 0 (.j ⟨[(true,7,(.bx 285 0 true [eZ]))],[]⟩ .o .o)) call185 func185 (al EA (al RK (al kS aj)))
def ag0:aq:=⟨167,[OE,(.sli .bo),(.sli .bo)],eZ,[],U3 Oq⟩
theorem aaO:Ko ag0:=
 aA .o call167 func167 (al aaF aj)
def MM:aq:=⟨187,[an,(.own .bo 4 false),PG,PG,PK],.bool,[],U6 B8⟩
theorem H9:Ko MM:=
 aA .o call187 func187 (al Br aj)
def QY:aq:=⟨200,[an,(.bx 309 0 false [akF]),kC],.bool,[],λs=>GU s.1 s.2.2.2.2.2 s.2.1 s.2.2.1 s.2.2.2.1 s.2.2.2.2.1⟩
theorem LV:Ko QY:=
 aA .o call200 func200 (al H9 aj)
def aaa:aq:=⟨156,[an,(.fn 200 [] [(.bx 309 0 false [akF]),kC])],eZ,[],λs=>N0 s.1 s.2.2.2.2.2 s.2.1 s.2.2.1 s.2.2.2.1 s.2.2.2.2.1⟩
theorem RC:Ko aaa:=
 aA (.l ⟨[(true,5,eZ),(false,11,an)],[]⟩ .o) call156 func156 (al LV aj)
def aab:aq:=⟨185,[OE,.bool,akF],eZ,[],U6 PB⟩
theorem Re:Ko aab:=
 aA (.n 0 (.j ⟨[(true,7,(.bx 285 0 true [eZ]))],[]⟩ .o .o)) call185 func185 (al EA (al RC (al kS aj)))
def abM:aq:=⟨168,[OE,(.sli .bo),(.sli .bo)],eZ,[],U3 Ip⟩
theorem UC:Ko abM:=
 aA .o call168 func168 (al Re aj)
def abi:aq:=⟨131,[dy,OE],eZ,[],U2 Zz⟩
def Hh(eta:Ex->Ex)(m:Sh->(R:Type)->Option R->Option R)(k:(Ex×iZ)->Option ba)(e:Ex)(b:iZ):Option ba:= (ZT (eta e)).bind λi=> bif i then ( (Vu (b.1.length:Int) e.op e.n e.at_ e.l b.1 b.2).bind λh=> some h) else ( (idx e.l 0).bind λj=> (k ((eta j),b)).bind λg=> ah (λ(c:ba)=>X7 e b g c) λa=> bif decide (1<(List.length e.l:Int)) then (idx e.l 1).bind λf=> (k ((eta f),b)).bind λd=> a d else a [])
def aa3:aff->aff:=λa s=>abr a s.1 s.2
theorem aae(a:aff)(b:avl a):(C2 (aa3 a)).Ok X0.P X0.Γ:=
 aY (.c .o (.r [40000] (.s (.j ⟨[(true,7,(.bx 285 0 true [eZ]))],[]⟩ (.c (.r [7] .o) .o) (.c .o (.c .o (.c .o (.c .o (.c .o (.c .o (.c (.r [6,8] .o) (.c (.r [6,8] .o) .o)))))))))))) call131 func131 (al aei (al acx (al b (al V9 (al Vv (al UQ (al US (al V6 (al VT (al Yp (al aaO (al UC aj)))))))))))) aj aj λs=>(show _=Hh bf aN a s.1 s.2 from by kernel_rfl).trans ((congrArg (λeta=>Hh eta aN a s.1 s.2) aL).trans ((congrArg (λd=>Hh id d a s.1 s.2) aO).trans (by kernel_rfl)))
theorem afo:Ko abi:=(show abi=C2 (aw (aa3) ax) by kernel_rfl)▸dR (X:=X0) (E:=C2) ⟨call131,λ_ _ h=>nomatch h⟩ (aae) ax
def ahK:aq:=⟨84,[dy,OE],.bool,[],U2 Pj⟩
def It(eta:Ex->Ex)(d:Sh->(R:Type)->Option R->Option R)(e:Ex)(b:iZ):x6:= (Zz (eta e) b).bind λc=> (idx c 0).bind λa=> some a
theorem ZX:Ko ahK:=
 aY .o call84 func84 (al afo aj) aj aj λs=>(show _=It bf aN s.1 s.2 from by kernel_rfl).trans ((congrArg (λeta=>It eta aN s.1 s.2) aL).trans ((congrArg (λa=>It id a s.1 s.2) aO).trans (by kernel_rfl)))
def acR:aq:=⟨48,[yJ,dy,aag],.bool,[],U3 SB⟩
def BE(eta:Ex->Ex)(g:Sh->(R:Type)->Option R->Option R)(m:tB)(e:Ex)(l:xB):x6:= (NX m l).bind λa=> bl a default (LW l) λc=> bl a default (Pj (eta e) c) λb=> ah (!b) λf=> ah (a&&f) λd=> some d
theorem UW:Ko acR:=
 aY .o call48 func48 (al Za (al Yi (al ZX aj))) aj aj λs=>(show _=BE bf aN s.1 s.2.1 s.2.2 from by kernel_rfl).trans ((congrArg (λeta=>BE eta aN s.1 s.2.1 s.2.2) aL).trans ((congrArg (λa=>BE id a s.1 s.2.1 s.2.2) aO).trans (by kernel_rfl)))
def MZ:aq:=⟨25,[ak6],.bool,[(true,0,(.bx 72 0 true [.same,.same,.same,.same,.same,.same,.same,.same,.same,.same,.same,.same,.same,.same,.same,.same,.same,an,an,an,aV,BU,BU]))],λs=>B9 s.1 s.2.1 s.2.2.1 s.2.2.2.1 s.2.2.2.2.1 s.2.2.2.2.2.1 s.2.2.2.2.2.2.1 s.2.2.2.2.2.2.2.1 s.2.2.2.2.2.2.2.2.1 (d8 s).2.1 (d8 s).2.2.1 (d8 s).2.2.2.1 (d8 s).2.2.2.2.1 (d8 s).2.2.2.2.2.1 (d8 s).2.2.2.2.2.2.1 (d8 s).2.2.2.2.2.2.2.1 (d8 (d8 s)).1 (d8 (d8 s)).2.1 (d8 (d8 s)).2.2.1 (d8 (d8 s)).2.2.2.1 (d8 (d8 s)).2.2.2.2.1 (d8 (d8 s)).2.2.2.2.2.1 (d8 (d8 s)).2.2.2.2.2.2⟩
theorem Iz:Ko MZ:=
 aA (.r [40000] (.c .o (.r [40000] .o))) call25 func25 (al w9 (al Zd (al jn (al acL (al UW aj)))))
def ab1:aq:=⟨9,[.str,.str,CD],(.dat aaN [none,none,none]),[],U3 uf⟩
theorem aqd:(⟨22,Tryz.f22⟩:lK).Ok X0.P:=⟨call22,func22⟩
theorem VU:Ko ab1:=
 aY (.n 50 .o) call9 func9 (al xX (al Hw (al Ej (al Iz aj)))) aj (al aqd aj) λ_=>by kernel_rfl
def MS:aq:=⟨10,[aV,aV],.bool,[],U2 Ci⟩
theorem H2:Ko MS:=
 aA (.c .o (.l ⟨[(false,5,an)],[]⟩ .o)) call10 func10 aj
def JL:aq:=⟨4,[],.bool,[],λ_=>lz⟩
theorem DY:Ko JL:=
 aA .o call4 func4 (al QP (al VU (al sE (al H2 aj))))
def L9:aq:=⟨33,[je],an,[],λs=>fS s⟩
theorem FH:Ko L9:=
 aA .o call33 func33 aj
def Jw:aq:=⟨34,[],BV,[],λ_=>pX⟩
theorem Eh:Ko Jw:=
 aA .o call34 func34 aj
def Hm:aq:=⟨15,[.str],(.cQ [(.own j4 53 true),an,an]),[],λs=>iw s⟩
theorem Cw:Ko Hm:=
 aA (.c .o (.l ⟨[(false,5,(.own j4 53 true)),(false,6,an)],[]⟩ (.c (.c .o (.c (.l ⟨[(false,6,an)],[]⟩ .o) (.c (.l ⟨[(false,6,an)],[]⟩ .o) (.c (.l ⟨[(false,6,an),(false,9,an)],[]⟩ .o) (.l ⟨[(false,11,.str),(false,12,an)],[]⟩ .o))))) .o))) call15 func15 (al FH (al Eh aj))
def HI:aq:=⟨58,[an],.bool,[],λs=>kD s⟩
theorem C8:Ko HI:=
 aA .o call58 func58 aj
def CZ:aq:=⟨59,[akp,an],bI,[(true,0,(.bx 94 0 true [.same,.same,.same,an,an]))],λs=>cf s.2.2.2.2.2 s.1 s.2.1 s.2.2.1 s.2.2.2.1 s.2.2.2.2.1⟩
theorem nF:Ko CZ:=
 aA (.c (.r [0] .o) .o) call59 func59 aj
def MT:aq:=⟨95,[.str],.bool,[],λs=>ku s⟩
theorem HG:Ko MT:=
 aA (.s (.s (.s (.j ⟨[(false,4,.bool)],[]⟩ .o .o)))) call95 func95 aj
def NL:aq:=⟨61,[(.dat j4 []),an],an,[],U2 cX⟩
theorem II:Ko NL:=
 aA (.c (.c .o (.c .o (.c .o (.c .o (.c .o (.c (.l ⟨[(false,7,an)],[]⟩ .o) .o)))))) .o) call61 func61 aj
def EC(a:Uk):aq:=⟨60,[akp,an],bI,[(true,0,ac8)],λs=>fm a s.2.2.2.2.2 s.1 s.2.1 s.2.2.1 s.2.2.2.1 s.2.2.2.2.1⟩
def AO(eta:Ex->Ex)(h:Sh->(R:Type)->Option R->Option R)(l:Q6)(at_:Int)(names:aF)(f:Int)(a:Int)(e:jK)(b:Int->Option eY)(c:Int):Option eY:= bif decide (c<(names.length:Int)) then (idx names c).bind λg=> bif g==e.2.1 then some ((Ex.mk 2 c e.2.2.2 []),(i64.wrap (at_+1)),f,a) else b (i64.wrap (c+1)) else (cf 3 l at_ names f a).bind λd=> some ((eta d.1),at_,d.2.1,d.2.2)
def lf(eta:Ex->Ex)(A:Sh->(R:Type)->Option R->Option R)(B:yr->Option eY)(g:Int)(l:Q6)(at_:Int)(names:aF)(d:Int)(c:Int):Option eY:= (idx l at_).bind λb=> bif b.1==2 then some ((Ex.mk 1 b.2.2.1 b.2.2.2 []),(i64.wrap (at_+1)),d,c) else ah (b.1==1) λz=> ah (b.2.1==[116,114,117,101]) λy=> ah (z&&y) λx=> bif x then ( some ((Ex.mk 13 0 b.2.2.2 []),(i64.wrap (at_+1)),d,c)) else ( ah (b.1==1) λw=> ah (b.2.1==[102,97,108,115,101]) λv=> ah (w&&v) λu=> bif u then ( some ((Ex.mk 14 0 b.2.2.2 []),(i64.wrap (at_+1)),d,c)) else ( (ku b.2.1).bind λi=> ah (b.1==1) λt=> ah (!i) λs=> ah (t&&s) λr=> bif r then ( aw (AO eta A l at_ names d c b) ax 0) else ( ah (b.1 != 3) λq=> ah (b.2.1 != [40]) λp=> ah (q||p) λo=> bif o then ( (cf 2 l at_ names d c).bind λf=> some ((eta f.1),at_,f.2.1,f.2.2)) else ( (B (1,g,l,(i64.wrap (at_+1)),names,d,c)).bind λa=> bif a.2.2.1 != 0 then some ((Ex.mk 0 0 0 []),a.2.1,a.2.2.1,a.2.2.2) else (idx l a.2.1).bind λk=> ah (k.1 != 3) λh=> bl (!h) (0,[],0,0) (idx l a.2.1) λj=> ah (j.2.1 != [41]) λn=> ah (h||n) λm=> bif m then ( (cf 2 l a.2.1 names a.2.2.1 a.2.2.2).bind λe=> some ((eta e.1),a.2.1,e.2.1,e.2.2)) else ( some ((eta a.1),(i64.wrap (a.2.1+1)),a.2.2.1,a.2.2.2))))))
theorem AZ(a:Uk)(b:as6 a):Ko (EC a):=
 aY (.r [] (.c .o (.c .o (.c .o (.c (.l ⟨[(true,0,(.bx 94 0 true [.same,.same,.same,.same,.same])),(true,4,EG),(false,7,an)],[]⟩ .o) .o))))) call60 func60 (al HG (al nF (al b aj))) aj aj λs=>(show _=lf bf aN a s.2.2.2.2.2 s.1 s.2.1 s.2.2.1 s.2.2.2.1 s.2.2.2.2.1 from by kernel_rfl).trans ((congrArg (λeta=>lf eta aN a s.2.2.2.2.2 s.1 s.2.1 s.2.2.1 s.2.2.2.1 s.2.2.2.2.1) aL).trans ((congrArg (λd=>lf id d a s.2.2.2.2.2 s.1 s.2.1 s.2.2.1 s.2.2.2.1 s.2.2.2.2.1) aO).trans (by kernel_rfl)))
def ri:aq:=⟨35,[akp,an,an],bI,[(true,0,ac8)],λs=>iU s.2.2.2.2.2.1 s.2.2.2.2.2.2 s.1 s.2.1 s.2.2.1 s.2.2.2.1 s.2.2.2.2.1⟩
def yQ(eta:Ex->Ex)(i:Sh->(R:Type)->Option R->Option R)(h:yr->Option eY)(l:Q6)(at_:Int)(names:aF)(f:Int)(b:Int)(a:Int)(g:jK)(e:Int):Option eY:= bif e==0 then (h (7,a,l,at_,names,f,b)).bind λd=> some ((eta d.1),d.2.1,d.2.2.1,d.2.2.2) else (h (6,a,l,(i64.wrap (at_+1)),names,f,b)).bind λc=> some ((Ex.mk e 0 g.2.2.2 ([(eta c.1)]:List Ex)),c.2.1,c.2.2.1,c.2.2.2)
def yE(eta:Ex->Ex)(k:Sh->(R:Type)->Option R->Option R)(m:yr->Option eY)(l:Q6)(at_:Int)(names:aF)(g:Int)(c:Int)(a:Int)(d:jK)(f:Int):Option eY:= ah (λ(e:Int)=>yQ eta k m l at_ names g c a d e) λb=> ah (d.1==1) λj=> ah (d.2.1==[71]) λi=> ah (j&&i) λh=> bif h then ( b 22) else ( b f)
def yL(eta:Ex->Ex)(k:Sh->(R:Type)->Option R->Option R)(m:yr->Option eY)(l:Q6)(at_:Int)(names:aF)(g:Int)(c:Int)(a:Int)(d:jK)(f:Int):Option eY:= ah (λ(e:Int)=>yE eta k m l at_ names g c a d e) λb=> ah (d.1==1) λj=> ah (d.2.1==[70]) λi=> ah (j&&i) λh=> bif h then ( b 21) else ( b f)
def yV(eta:Ex->Ex)(k:Sh->(R:Type)->Option R->Option R)(m:yr->Option eY)(l:Q6)(at_:Int)(names:aF)(g:Int)(c:Int)(a:Int)(d:jK)(f:Int):Option eY:= ah (λ(e:Int)=>yL eta k m l at_ names g c a d e) λb=> ah (d.1==1) λj=> ah (d.2.1==[88]) λi=> ah (j&&i) λh=> bif h then ( b 20) else ( b f)
def yY(eta:Ex->Ex)(v:Sh->(R:Type)->Option R->Option R)(u:yr->Option eY)(a:Int)(l:Q6)(names:aF)(m:Int)(o:(Int×Int×Int×Int×Int×Int×(List Ex))->Option eY):Int×Int×Int×Int×Int×Int×(List Ex)->Option eY:=λ⟨h,g,n,f,e,d,c⟩=> bif g==0 then (idx l h).bind λk=> (cX k a).bind λj=> bif j==0 then some ((Ex.mk f e d c),h,g,n) else ah (a==1) λt=> ah (a==2) λs=> ah (t||s) λr=> ah (a==5) λq=> ah (r||q) λp=> bif p then ( (u (a,m,l,(i64.wrap (h+1)),names,g,n)).bind λi=> some ((Ex.mk j 0 k.2.2.2 ([(Ex.mk f e d c),(eta i.1)]:List Ex)),i.2.1,i.2.2.1,i.2.2.2)) else ( (u ((i64.wrap (a+1)),m,l,(i64.wrap (h+1)),names,g,n)).bind λb=> bif a==7 then some ((Ex.mk j 0 k.2.2.2 ([(Ex.mk f e d c),(eta b.1)]:List Ex)),b.2.1,b.2.2.1,b.2.2.2) else o (b.2.1,b.2.2.1,b.2.2.2,j,0,k.2.2.2,([(Ex.mk f e d c),(eta b.1)]:List Ex))) else some ((Ex.mk f e d c),h,g,n)
def yB(eta:Ex->Ex)(x:Sh->(R:Type)->Option R->Option R)(p:yr->Option eY)(a:Int)(l:Q6)(at_:Int)(names:aF)(h:Int)(d:Int)(r:Bool)(b:Int):Option eY:= ah (decide (320<b)) λw=> ah (r&&w) λv=> bif v then ( (cf 9 l at_ names h d).bind λj=> some ((eta j.1),at_,j.2.1,j.2.2)) else ( (idx l at_).bind λg=> bif a==6 then ah (λ(q:Int)=>yV eta x p l at_ names h d b g q) λi=> ah (g.1==3) λu=> ah (g.2.1==[33]) λt=> ah (u&&t) λs=> bif s then ( i 15) else ( i 0) else bif a==10 then ah (g.1 != 3) λo=> ah (g.2.1 != [45]) λm=> ah (o||m) λk=> bif k then ( (fm p b l at_ names h d).bind λf=> some ((eta f.1),f.2.1,f.2.2.1,f.2.2.2)) else ( (p (10,b,l,(i64.wrap (at_+1)),names,h,d)).bind λe=> some ((Ex.mk 6 0 g.2.2.2 ([(eta e.1)]:List Ex)),e.2.1,e.2.2.1,e.2.2.2)) else (p ((i64.wrap (a+1)),b,l,at_,names,h,d)).bind λc=> aw (yY eta x p a l names b) ax (c.2.1,c.2.2.1,c.2.2.2,c.1.op,c.1.n,c.1.at_,c.1.l))
def jH(eta:Ex->Ex)(h:Sh->(R:Type)->Option R->Option R)(i:yr->Option eY)(a:Int)(d:Int)(l:Q6)(at_:Int)(names:aF)(e:Int)(b:Int):Option eY:= bif e != 0 then some ((Ex.mk 0 0 0 []),at_,e,b) else (kD a).bind λg=> ah (λ(f:Int)=>yB eta h i a l at_ names e b g f) λc=> bif g then ( c (i64.wrap (d+1))) else ( c d)
def p9:Uk->Uk:=λa s=>ei a s.1 s.2.1 s.2.2.1 s.2.2.2.1 s.2.2.2.2.1 s.2.2.2.2.2.1 s.2.2.2.2.2.2
theorem wU(a:Uk)(b:as6 a):(gK (p9 a)).Ok X0.P X0.Γ:=
 aY (.c .o (.s (.j ⟨[(false,2,an)],[]⟩ .o (.c .o (.r [] (.c (.s (.j ⟨[(false,9,an)],[]⟩ .o (.j ⟨[(false,9,an)],[]⟩ .o (.j ⟨[(false,9,an)],[]⟩ .o (.j ⟨[(false,9,an)],[]⟩ .o .o))))) (.c .o (.l ⟨[(true,0,ac8),(true,6,EG),(true,12,Ln)],[]⟩ .o)))))))) call35 func35 (al C8 (al nF (al b (al (AZ a b) (al II aj))))) aj aj λs=>(show _=jH bf aN a s.2.2.2.2.2.1 s.2.2.2.2.2.2 s.1 s.2.1 s.2.2.1 s.2.2.2.1 s.2.2.2.2.1 from by kernel_rfl).trans ((congrArg (λeta=>jH eta aN a s.2.2.2.2.2.1 s.2.2.2.2.2.2 s.1 s.2.1 s.2.2.1 s.2.2.2.1 s.2.2.2.2.1) aL).trans ((congrArg (λd=>jH id d a s.2.2.2.2.2.1 s.2.2.2.2.2.2 s.1 s.2.1 s.2.2.1 s.2.2.2.1 s.2.2.2.2.1) aO).trans (by kernel_rfl)))
theorem yZ:Ko ri:=(show ri=gK (aw (p9) ax) by kernel_rfl)▸dR (X:=X0) (E:=gK) ⟨call35,λ_ _ h=>nomatch h⟩ (wU) ax
def IV:aq:=⟨16,[(.sli j4),an,uC],(.cQ [bI,an,an,an]),[],U3 eo⟩
def nA(eta:Ex->Ex)(b:Sh->(R:Type)->Option R->Option R)(l:Q6)(at_:Int)(names:aF):Option eY:= (iU 1 0 l at_ names 0 0).bind λa=> bif a.2.2.1 != 0 then some ((Ex.mk 0 0 0 []),0,a.2.2.1,a.2.2.2) else some ((eta a.1),a.2.1,0,0)
theorem DV:Ko IV:=
 aY (.c (.r [6] .o) (.r [6] .o)) call16 func16 (al yZ aj) aj aj λs=>(show _=nA bf aN s.1 s.2.1 s.2.2 from by kernel_rfl).trans ((congrArg (λeta=>nA eta aN s.1 s.2.1 s.2.2) aL).trans ((congrArg (λa=>nA id a s.1 s.2.1 s.2.2) aO).trans (by kernel_rfl)))
def xd:aq:=⟨17,[dy],Xg,[],λs=>gZ s⟩
def Fo(eta:Ex->Ex)(G:Sh->(R:Type)->Option R->Option R)(F:Ex->Option gO)(e:Ex)(f:Q72->Option gO):Int×Int×Int×Int->Option gO:=λ⟨a,b,c,h⟩=> bif decide (h<(List.length e.l:Int)) then (idx e.l h).bind λj=> (F (eta j)).bind λd=> bif d.2.1 != 0 then some (0,d.2.1,d.2.2) else ah (λ(i:Int)=>nR b c h f d i) λg=> bif d.1==1 then g (i64.wrap (a+1)) else g a else ah (decide (e.op<=6)) λE=> ah (a==(List.length e.l:Int)) λD=> ah (E&&D) λC=> bif C then ( some (1,0,0)) else ( ah (decide (7<=e.op)) λB=> ah (decide (e.op<=12)) λA=> ah (B&&A) λz=> ah (a==(List.length e.l:Int)) λy=> ah (z&&y) λx=> ah (e.op==13) λw=> ah (x||w) λv=> ah (e.op==14) λu=> ah (v||u) λt=> bif t then ( some (2,0,0)) else ( ah (decide (15<=e.op)) λs=> ah (decide (e.op<=19)) λr=> ah (s&&r) λq=> ah (b==(List.length e.l:Int)) λp=> ah (q&&p) λo=> bif o then ( some (2,0,0)) else ( ah (decide (15<=e.op)) λn=> ah ((i64.wrap (b+c))==(List.length e.l:Int)) λm=> ah (n&&m) λk=> bif k then ( some (3,0,0)) else ( some (0,4,e.at_)))))
def mG(eta:Ex->Ex)(b:Sh->(R:Type)->Option R->Option R)(a:Ex->Option gO)(e:Ex):Option gO:= aw (Fo eta b a e) ax (0,0,0,0)
def xR:aeK->aeK:=λa s=>kN a s
theorem CF(a:aeK)(b:avo a):(jL (xR a)).Ok X0.P X0.Γ:=
 aY (.l ⟨[(false,5,an),(false,6,an),(false,7,an),(false,8,an)],[]⟩ (.c (.c .o (.j ⟨[(false,5,an)],[]⟩ .o (.j ⟨[(false,6,an)],[]⟩ .o .o))) .o)) call17 func17 (al b aj) aj aj λs=>(show _=mG bf aN a s from by kernel_rfl).trans ((congrArg (λeta=>mG eta aN a s) aL).trans ((congrArg (λd=>mG id d a s) aO).trans (by kernel_rfl)))
theorem tq:Ko xd:=(show xd=jL (aw (xR) ax) by kernel_rfl)▸dR (X:=X0) (E:=jL) ⟨call17,λ_ _ h=>nomatch h⟩ (CF) ax
def ML:aq:=⟨96,[dy],.bool,[],λs=>gm s⟩
def pT(eta:Ex->Ex)(f:Sh->(R:Type)->Option R->Option R)(e:Ex):x6:= (gZ (eta e)).bind λc=> ah (c.2.1==0) λd=> ah (c.1==2) λb=> ah (d&&b) λa=> some a
theorem uq:Ko ML:=
 aY .o call96 func96 (al tq aj) aj aj λs=>(show _=pT bf aN s from by kernel_rfl).trans ((congrArg (λeta=>pT eta aN s) aL).trans ((congrArg (λa=>pT id a s) aO).trans (by kernel_rfl)))
def xV:aq:=⟨62,[dy,an],an,[],U2 mE⟩
def mN(eta:Ex->Ex)(u:Sh->(R:Type)->Option R->Option R)(d:ia->y2)(e:Ex)(a:Int):y2:= (gm (eta e)).bind λs=> ah (decide (a<1)) λt=> ah (s||t) λr=> bif r then ( some 1) else ( bif e.op==15 then (idx e.l 0).bind λn=> (d ((eta n),a)).bind λh=> some h else ah (e.op==21) λq=> ah (e.op==22) λp=> ah (q||p) λo=> bif o then ( (idx e.l 0).bind λm=> (d ((eta m),(i64.wrap (a-1)))).bind λg=> some (i64.wrap (2+g))) else ( bif e.op==20 then (idx e.l 0).bind λk=> (d ((eta k),(i64.wrap (a-1)))).bind λf=> some (i64.wrap (1+f)) else (idx e.l 0).bind λj=> (d ((eta j),(i64.wrap (a-1)))).bind λc=> (idx e.l 1).bind λi=> (d ((eta i),(i64.wrap (a-1)))).bind λb=> bif e.op==19 then some (i64.wrap ((i64.wrap (3+(i64.wrap (2*c))))+(i64.wrap (2*b)))) else some (i64.wrap ((i64.wrap (1+c))+b))))
def xT:af6->af6:=λa s=>cq a s.1 s.2
theorem CE(a:af6)(b:avv a):(jN (xT a)).Ok X0.P X0.Γ:=
 aY .o call62 func62 (al uq (al b aj)) aj aj λs=>(show _=mN bf aN a s.1 s.2 from by kernel_rfl).trans ((congrArg (λeta=>mN eta aN a s.1 s.2) aL).trans ((congrArg (λc=>mN id c a s.1 s.2) aO).trans (by kernel_rfl)))
theorem Fk:Ko xV:=(show xV=jN (aw (xT) ax) by kernel_rfl)▸dR (X:=X0) (E:=jN) ⟨call62,λ_ _ h=>nomatch h⟩ (CE) ax
def M4:aq:=⟨97,[an,an,dy,dy],bI,[],U4 aJ⟩
def pP(eta:Ex->Ex)(c:Sh->(R:Type)->Option R->Option R)(op:Int)(at_:Int)(a:Ex)(b:Ex):Option Ex:= some (Ex.mk op 0 at_ ([(eta a),(eta b)]:List Ex))
theorem Ie:Ko M4:=
 aY .o call97 func97 aj aj aj λs=>(show _=pP bf aN s.1 s.2.1 s.2.2.1 s.2.2.2 from by kernel_rfl).trans ((congrArg (λeta=>pP eta aN s.1 s.2.1 s.2.2.1 s.2.2.2) aL).trans ((congrArg (λa=>pP id a s.1 s.2.1 s.2.2.1 s.2.2.2) aO).trans (by kernel_rfl)))
def wk:aq:=⟨63,[dy,.bool],dy,[],U2 l9⟩
def mM(eta:Ex->Ex)(b9:Sh->(R:Type)->Option R->Option R)(a:(Ex×Bool)->Option Ex)(e:Ex)(not:Bool):Option Ex:= (gm (eta e)).bind λr8=> ah (r8&&not) λb8=> bif b8 then ( some (Ex.mk 15 0 e.at_ ([(eta e)]:List Ex))) else ( bif r8 then ( some (eta e)) else ( bif e.op==15 then (idx e.l 0).bind λb7=> (a ((eta b7),(!not))).bind λb0=> some (eta b0) else bif e.op==16 then bif not then ( (idx e.l 0).bind λb6=> (idx e.l 1).bind λb5=> (a ((eta b6),true)).bind λaz=> (a ((eta b5),true)).bind λay=> (aJ 17 e.at_ (eta az) (eta ay)).bind λax=> some (eta ax)) else ( (idx e.l 0).bind λb4=> (idx e.l 1).bind λb3=> (a ((eta b4),false)).bind λaw=> (a ((eta b3),false)).bind λav=> (aJ 16 e.at_ (eta aw) (eta av)).bind λau=> some (eta au)) else bif e.op==17 then bif not then ( (idx e.l 0).bind λb2=> (idx e.l 1).bind λb1=> (a ((eta b2),true)).bind λY=> (a ((eta b1),true)).bind λX=> (aJ 16 e.at_ (eta Y) (eta X)).bind λW=> some (eta W)) else ( (idx e.l 0).bind λaq=> (idx e.l 1).bind λap=> (a ((eta aq),false)).bind λV=> (a ((eta ap),false)).bind λU=> (aJ 17 e.at_ (eta V) (eta U)).bind λT=> some (eta T)) else bif e.op==18 then bif not then ( (idx e.l 0).bind λao=> (idx e.l 1).bind λan=> (a ((eta ao),false)).bind λS=> (a ((eta an),true)).bind λQ=> (aJ 16 e.at_ (eta S) (eta Q)).bind λP=> some (eta P)) else ( (idx e.l 0).bind λam=> (idx e.l 1).bind λal=> (a ((eta am),true)).bind λO=> (a ((eta al),false)).bind λN=> (aJ 17 e.at_ (eta O) (eta N)).bind λM=> some (eta M)) else bif e.op==19 then bif not then ( (idx e.l 0).bind λak=> (idx e.l 1).bind λaj=> (idx e.l 0).bind λai=> (idx e.l 1).bind λag=> (a ((eta ak),false)).bind λL=> (a ((eta aj),true)).bind λK=> (aJ 16 e.at_ (eta L) (eta K)).bind λJ=> (a ((eta ai),true)).bind λI=> (a ((eta ag),false)).bind λH=> (aJ 16 e.at_ (eta I) (eta H)).bind λG=> (aJ 17 e.at_ (eta J) (eta G)).bind λF=> some (eta F)) else ( (idx e.l 0).bind λaf=> (idx e.l 1).bind λae=> (idx e.l 0).bind λad=> (idx e.l 1).bind λac=> (a ((eta af),false)).bind λE=> (a ((eta ae),false)).bind λD=> (aJ 16 e.at_ (eta E) (eta D)).bind λC=> (a ((eta ad),true)).bind λB=> (a ((eta ac),true)).bind λA=> (aJ 16 e.at_ (eta B) (eta A)).bind λz=> (aJ 17 e.at_ (eta C) (eta z)).bind λy=> some (eta y)) else bif e.op==20 then (idx e.l 0).bind λab=> (a ((eta ab),not)).bind λx=> some (Ex.mk 20 0 e.at_ ([(eta x)]:List Ex)) else bif e.op==21 then bif not then ( (idx e.l 0).bind λaa=> (a ((eta aa),true)).bind λw=> (aJ 24 e.at_ (Ex.mk 14 0 e.at_ []) (eta w)).bind λv=> some (eta v)) else ( (idx e.l 0).bind λa9=> (a ((eta a9),false)).bind λu=> (aJ 23 e.at_ (Ex.mk 13 0 e.at_ []) (eta u)).bind λt=> some (eta t)) else bif e.op==22 then bif not then ( (idx e.l 0).bind λa8=> (a ((eta a8),true)).bind λs=> (aJ 23 e.at_ (Ex.mk 13 0 e.at_ []) (eta s)).bind λr=> some (eta r)) else ( (idx e.l 0).bind λa7=> (a ((eta a7),false)).bind λq=> (aJ 24 e.at_ (Ex.mk 14 0 e.at_ []) (eta q)).bind λp=> some (eta p)) else bif e.op==23 then bif not then ( (idx e.l 0).bind λa6=> (idx e.l 1).bind λa5=> (a ((eta a6),true)).bind λo=> (a ((eta a5),true)).bind λn=> (aJ 24 e.at_ (eta o) (eta n)).bind λm=> some (eta m)) else ( (idx e.l 0).bind λa4=> (idx e.l 1).bind λa3=> (a ((eta a4),false)).bind λk=> (a ((eta a3),false)).bind λj=> (aJ 23 e.at_ (eta k) (eta j)).bind λi=> some (eta i)) else bif not then ( (idx e.l 0).bind λa2=> (idx e.l 1).bind λa1=> (a ((eta a2),true)).bind λh=> (a ((eta a1),true)).bind λg=> (aJ 23 e.at_ (eta h) (eta g)).bind λf=> some (eta f)) else ( (idx e.l 0).bind λa0=> (idx e.l 1).bind λZ=> (a ((eta a0),false)).bind λd=> (a ((eta Z),false)).bind λc=> (aJ 24 e.at_ (eta d) (eta c)).bind λb=> some (eta b))))
def xj:agI->agI:=λa s=>db a s.1 s.2
theorem C7(a:agI)(b:avc a):(jM (xj a)).Ok X0.P X0.Γ:=
 aY (.c .o (.c .o (.c .o (.c (.c (.r [4] .o) (.r [4] .o)) (.c (.c (.r [4] .o) (.r [4] .o)) (.c (.c (.r [4] .o) (.r [4] .o)) (.c (.c (.r [2,4] .o) (.r [2,4] .o)) (.c (.r [4] .o) (.c (.c (.r [4] .o) (.r [4] .o)) (.c (.c (.r [4] .o) (.r [4] .o)) (.c (.c (.r [4] .o) (.r [4] .o)) (.c (.r [4] .o) (.r [4] .o))))))))))))) call63 func63 (al uq (al b (al Ie aj))) aj aj λs=>(show _=mM bf aN a s.1 s.2 from by kernel_rfl).trans ((congrArg (λeta=>mM eta aN a s.1 s.2) aL).trans ((congrArg (λd=>mM id d a s.1 s.2) aO).trans (by kernel_rfl)))
theorem Fi:Ko wk:=(show wk=jM (aw (xj) ax) by kernel_rfl)▸dR (X:=X0) (E:=jM) ⟨call63,λ_ _ h=>nomatch h⟩ (C7) ax
def Lo:aq:=⟨36,[dy,.bool],(.cQ [dy,an]),[],U2 jE⟩
def oq(eta:Ex->Ex)(c:Sh->(R:Type)->Option R->Option R)(e:Ex)(not:Bool):Option ia:= (mE (eta e) 30).bind λb=> bif decide (24<b) then some ((Ex.mk 0 0 0 []),9) else (l9 (eta e) not).bind λa=> some ((eta a),0)
theorem FJ:Ko Lo:=
 aY .o call36 func36 (al Fk (al Fi aj)) aj aj λs=>(show _=oq bf aN s.1 s.2 from by kernel_rfl).trans ((congrArg (λeta=>oq eta aN s.1 s.2) aL).trans ((congrArg (λa=>oq id a s.1 s.2) aO).trans (by kernel_rfl)))
def Nh:aq:=⟨18,[dy],(.cQ [dy,an]),[],λs=>ni s⟩
def pL(eta:Ex->Ex)(b:Sh->(R:Type)->Option R->Option R)(e:Ex):Option ia:= (jE (eta e) true).bind λa=> some ((eta a.1),a.2)
theorem HZ:Ko Nh:=
 aY .o call18 func18 (al FJ aj) aj aj λs=>(show _=pL bf aN s from by kernel_rfl).trans ((congrArg (λeta=>pL eta aN s) aL).trans ((congrArg (λa=>pL id a s) aO).trans (by kernel_rfl)))
def Ft:aq:=⟨6,[.str,uC],(.cQ [dy,an,an]),[],U2 gX⟩
def lS(eta:Ex->Ex)(f:Sh->(R:Type)->Option R->Option R)(text:aD)(names:aF):Option Q63:= (iw text).bind λc=> bif c.2.1 != 0 then some ((Ex.mk 0 0 0 []),c.2.1,c.2.2) else (eo c.1 0 names).bind λa=> bif a.2.2.1 != 0 then some ((Ex.mk 0 0 0 []),a.2.2.1,a.2.2.2) else bif a.2.1 != (i64.wrap ((c.1.length:Int)-1)) then (idx c.1 a.2.1).bind λe=> some ((Ex.mk 0 0 0 []),2,e.2.2.2) else (gZ (eta a.1)).bind λb=> bif b.2.1 != 0 then some ((Ex.mk 0 0 0 []),b.2.1,b.2.2) else bif b.1==1 then some ((Ex.mk 0 0 0 []),4,a.1.at_) else (ni (eta a.1)).bind λd=> bif d.2 != 0 then some ((Ex.mk 0 0 0 []),9,a.1.at_) else some ((eta a.1),0,0)
theorem BB:Ko Ft:=
 aY (.c .o (.c .o (.c (.r [4] .o) (.c .o (.c (.r [4] .o) (.c (.r [4] .o) .o)))))) call6 func6 (al Cw (al DV (al tq (al HZ aj)))) aj aj λs=>(show _=lS bf aN s.1 s.2 from by kernel_rfl).trans ((congrArg (λeta=>lS eta aN s.1 s.2) aL).trans ((congrArg (λa=>lS id a s.1 s.2) aO).trans (by kernel_rfl)))
def ub:aq:=⟨7,[dy,dy],.bool,[],U2 kM⟩
def Cp(eta:Ex->Ex)(i:Sh->(R:Type)->Option R->Option R)(h:(Ex×Ex)->x6)(a:Ex)(b:Ex)(c:Int->x6)(d:Int):x6:= bif decide (d<(List.length a.l:Int)) then (idx a.l d).bind λg=> (idx b.l d).bind λf=> (h ((eta g),(eta f))).bind λe=> bif !e then some false else c (i64.wrap (d+1)) else some true
def lg(eta:Ex->Ex)(i:Sh->(R:Type)->Option R->Option R)(h:(Ex×Ex)->x6)(a:Ex)(b:Ex):x6:= ah (a.at_ != b.at_) λk=> ah (a.op != b.op) λj=> ah (k||j) λg=> ah (a.n != b.n) λf=> ah (g||f) λe=> ah ((List.length a.l:Int) != (List.length b.l:Int)) λd=> ah (e||d) λc=> bif c then ( some false) else ( aw (Cp eta i h a b) ax 0)
def uv:afc->afc:=λa s=>fi a s.1 s.2
theorem AW(a:afc)(b:avn a):(iT (uv a)).Ok X0.P X0.Γ:=
 aY (.c .o (.l ⟨[(false,5,an)],[]⟩ .o)) call7 func7 (al b aj) aj aj λs=>(show _=lg bf aN a s.1 s.2 from by kernel_rfl).trans ((congrArg (λeta=>lg eta aN a s.1 s.2) aL).trans ((congrArg (λd=>lg id d a s.1 s.2) aO).trans (by kernel_rfl)))
theorem C6:Ko ub:=(show ub=iT (aw (uv) ax) by kernel_rfl)▸dR (X:=X0) (E:=iT) ⟨call7,λ_ _ h=>nomatch h⟩ (AW) ax
end
end Go.Proofs.YthhmkmmmbcjghaaGreatDoor
