/- Own texts for NestArgsQ, cut and joined by a program. -/
import Derived.Test.YtcgihjbfppkcfaaGreatDoorNestArgsQG
set_option linter.all false
namespace Go.Proofs.YtcgihjbfppkcfaaGreatDoor
open IntKind (i64)
open Go.Proofs
noncomputable section
set_option maxRecDepth 100000
abbrev UW:Ty:=(.p (.i .i64) (.p (.l (.p (.i .i64) (.i .i64))) (.p (.i .i64) (.p (.p (.p (.i .i64) (.p (.l (.l (.i .u8))) (.l (.i .i64)))) (.l (.i .u8))) (.p (.p (.l (.p (.i .i64) (.p (.l (.l (.i .u8))) (.l (.i .i64))))) (.p (.p (.i .i64) (.p (.l (.l (.i .u8))) (.l (.i .i64)))) (.l (.i .u8)))) (.p (.p (.l (.p (.i .i64) (.p (.l (.l (.i .u8))) (.l (.i .i64))))) (.l (.i .u8))) (.p (.p (.p (.i .i64) (.p (.l (.p (.l (.p (.i .u8) (.i .i64))) (.i .i64))) (.p (.i .i64) (.p (.i .i64) (.l (.i .i64)))))) (.p (.p (.i .i64) (.p (.l (.p (.l (.p (.i .u8) (.i .i64))) (.i .i64))) (.p (.i .i64) (.p (.i .i64) (.l (.i .i64)))))) (.p (.i .i64) (.p (.l (.p (.l (.p (.i .u8) (.i .i64))) (.i .i64))) (.p (.i .i64) (.p (.i .i64) (.l (.i .i64)))))))) (.p (.i .i64) (.p (.i .i64) (.p (.i .u64) (.p (.l (.i .u8)) (.p (.l (.i .u8)) (.l (.i .u8))))))))))))))
abbrev bf:Ty:=(.i .i64)
abbrev QL3:List Pt:=(.same:: .same:: .same:: .same:: .same:: .same:: .same:: .same:: .same::(.int .i64)::(.sli (.p bf bf))::(.int .i64)::(.int .i64)::(.sli (.l (.i .u8)))::(.sli bf)::(.sli (.i .u8))::(.sli (.p bf (.p (.l (.l (.i .u8))) (.l bf))))::(.int .i64)::(.sli (.l (.i .u8)))::(.sli bf)::(.sli (.i .u8))::(.sli (.p bf (.p (.l (.l (.i .u8))) (.l bf))))::(.sli (.i .u8))::(.int .i64)::(.sli (.p (.l (.p (.i .u8) bf)) bf))::(.int .i64)::(.int .i64)::(.sli bf)::(.int .i64)::(.sli (.p (.l (.p (.i .u8) bf)) bf))::(.int .i64)::(.int .i64)::(.sli bf)::(.int .i64)::(.sli (.p (.l (.p (.i .u8) bf)) bf))::(.int .i64)::(.int .i64)::(.sli bf)::(.int .i64)::(.int .i64)::(.int .u64)::(.sli (.i .u8))::(.sli (.i .u8))::(.sli (.i .u8)):: .same::[])
abbrev QL4:List Pt:=((.sli .s)::(.sli (.p bf bf))::(.sli bf)::(.sli .s)::(.sli (.p bf (.p .ex (.l (.p bf .ex)))))::(.sli (.l .ex))::(.sli (.l bf))::(.sli bf)::(.sli (.l bf))::(.int .i64)::(.sli (.p bf bf))::(.int .i64)::(.int .i64)::(.sli (.l (.i .u8)))::(.sli bf)::(.sli (.i .u8))::(.sli (.p bf (.p (.l (.l (.i .u8))) (.l bf))))::(.int .i64)::(.sli (.l (.i .u8)))::(.sli bf)::(.sli (.i .u8))::(.sli (.p bf (.p (.l (.l (.i .u8))) (.l bf))))::(.sli (.i .u8))::(.int .i64)::(.sli (.p (.l (.p (.i .u8) bf)) bf))::(.int .i64)::(.int .i64)::(.sli bf)::(.int .i64)::(.sli (.p (.l (.p (.i .u8) bf)) bf))::(.int .i64)::(.int .i64)::(.sli bf)::(.int .i64)::(.sli (.p (.l (.p (.i .u8) bf)) bf))::(.int .i64)::(.int .i64)::(.sli bf)::(.int .i64)::(.int .i64)::(.int .u64)::(.sli (.i .u8))::(.sli (.i .u8))::(.sli (.i .u8))::(.int .i64)::[])
abbrev pN:Pt:=(.dat UW [none,none,none,none,none,none,none,none,none,none,none,none,none,none,none,none,none,none,none])
abbrev aq:Pt:=(.int .i64)
abbrev gR:Ty:=(.p bf (.p (.l (.l (.i .u8))) (.l bf)))
abbrev Vj:Ty:=(.p (.l .s) (.p (.l (.p bf bf)) (.p (.l bf) (.p (.l .s) (.l (.p bf (.p .ex (.l (.p bf .ex)))))))))
abbrev aW:Ty:=(.i .u8)
abbrev OF:Ty:=(.p (.l (.l .ex)) (.p (.l (.l bf)) (.p (.l bf) (.l (.l bf)))))
abbrev age:Ty:=(.p aW (.p aW (.p aW (.p aW (.p aW (.p aW (.p aW (.p aW (.p aW (.p aW (.p aW (.p aW (.p aW (.p aW (.p aW (.p aW (.p aW (.p aW (.p aW (.p aW (.p aW (.p aW (.p aW (.p aW (.p aW (.p aW (.p aW (.p aW (.p aW (.p aW (.p aW (.p aW (.p aW (.p aW (.p aW (.p aW (.p aW (.p aW (.p aW (.p aW (.p aW (.p aW (.p aW (.p aW (.p aW (.p aW (.p aW (.p aW (.p aW (.p aW (.p aW (.p aW (.p aW (.p aW (.p aW (.p aW (.p aW (.p aW (.p aW (.p aW (.p aW (.p aW (.p aW aW)))))))))))))))))))))))))))))))))))))))))))))))))))))))))))))))
abbrev It:Ty:=(.p bf (.p bf (.p (.i .u64) (.p (.l aW) (.p (.l aW) (.l aW))))))
abbrev A7:Ty:=(.p bf (.p (.l (.p (.l (.p aW bf)) bf)) (.p bf (.p bf (.l bf)))))
abbrev ab5:Pt:=(.bx 130 0 true [(.own (.p bf (.p .s (.p bf bf))) 132 false),aq,(.own .s 9 false),(.own (.p bf bf) 112 false),(.own bf 3 false),(.own .s 9 false),(.own (.p bf (.p .ex (.l (.p bf .ex)))) 180 false),aq,aq])
abbrev lR:Ty:=(.p bf bf)
abbrev mB:Pt:=(.dat OF [none,none,none,none])
abbrev rQ:Pt:=(.dat Vj [none,none,none,none,none])
abbrev aY:Pt:=(.sli bf)
abbrev kU:Pt:=(.own bf 3 true)
abbrev amd:Ty:=(.p aW (.p aW (.p aW (.p aW (.p aW (.p aW (.p aW (.p aW (.p aW (.p aW (.p aW (.p aW (.p aW (.p aW (.p aW (.p aW (.p aW (.p aW (.p aW (.p aW (.p aW (.p aW (.p aW aW)))))))))))))))))))))))
abbrev ug:Ty:=(.p (.l (.p aW bf)) bf)
abbrev ZG:Ty:=(.p bf (.p bf (.p bf (.p (.i .u64) lR))))
abbrev MB:Pt:=(.bx 130 0 true [.same,.same,.same,.same,.same,.same,.same,aq,aq])
abbrev uH:Pt:=(.own (.l bf) 24 true)
abbrev jr:Pt:=(.own aW 5 true)
abbrev vQ:Ty:=(.p bf (.p .s lR))
abbrev Om:Pt:=(.dat (.p (.l gR) (.p gR (.l aW))) [none,none,none,none])
abbrev Cs:Ty:=(.p bf (.p .ex (.l (.p bf .ex))))
abbrev CG:Ty:=(.p (.l bf) (.l (.l bf)))
abbrev yU:Pt:=(.dat It [none,none,none])
abbrev W3:Ty:=(.p aW (.p aW (.p aW (.p aW (.p aW (.p aW (.p aW aW)))))))
abbrev aqY:Ty:=(.p (.i .u64) (.p (.i .u64) (.p (.i .u64) (.p (.i .u64) (.p (.i .u64) (.p (.i .u64) (.p (.i .u64) (.p (.i .u64) (.p (.i .u64) (.p (.i .u64) (.p (.i .u64) (.p (.i .u64) (.p (.i .u64) (.p (.i .u64) (.p (.i .u64) (.p (.i .u64) (.p (.i .u64) (.p (.i .u64) (.p (.i .u64) (.i .u64))))))))))))))))))))
abbrev aa5:Pt:=(.bx 130 0 true [.same,aq,.same,.same,.same,.same,.same,aq,aq])
abbrev aau:Pt:=(.bx 379 0 true [.same,(.own ug 273 true),.same,.same,kU,.same])
abbrev HU:Pt:=(.ifc 392 (.bx 390 0 true [kU]))
abbrev Ng:Pt:=(.dat (.p (.l gR) (.l aW)) [none,none])
abbrev eP:Pt:=(.sli aW)
abbrev Ip:Ty:=(.p (.l (.l bf)) (.l (.l bf)))
abbrev Ss:Pt:=(.dat (.p gR (.l aW)) [none,none,none])
abbrev afZ:Pt:=(.bx 212 0 true [(.own vQ 132 false),aq,(.own .s 9 false),aq,aq])
abbrev mg:Ty:=(.l aW)
abbrev j2:Pt:=(.sli lR)
abbrev acC:Pt:=(.ifc 97 (.agg [(.sli (.l bf)),(.sli (.l bf))]))
abbrev ag6:Pt:=(.bx 355 0 true [(.own gR 270 true),(.fn 229 [(.ptr 0 0)] [])])
abbrev w7:Pt:=(.dat .ex [none])
abbrev agc:Pt:=(.bx 79 0 true [(.own gR 73 true),.same,.same,.same,.same])
abbrev pZ:Pt:=(.dat .un [])
abbrev Hs:Pt:=(.dat gR [none,none])
abbrev og:Ty:=(.p aW bf)
abbrev WB:Pt:=(.fn 289 [] [(.bx 4 0 true [.bool])])
abbrev al8:Pt:=(.bx 379 0 true [.same,(.own ug 273 true),.same,.same,kU,(.mp bf .bo true)])
abbrev agz:Pt:=(.bx 355 0 false [(.sli gR),(.fn 233 [(.ptr 0 0)] [])])
abbrev aq8:Pt:=(.bx 130 0 false [(.own vQ 132 false),aq,(.own .s 9 false),(.own lR 112 false),(.own bf 3 false),(.own .s 9 false),(.own Cs 180 false),aq,aq])
abbrev iA:Pt:=(.cU [])
abbrev akL:Pt:=(.bx 379 0 true [aq,(.own ug 273 true),aq,aq,kU,(.mp bf .bo false)])
abbrev ak9:Pt:=(.bx 379 0 true [aq,(.own ug 273 true),aq,aq,kU,(.mp bf .bo true)])
abbrev abR:Pt:=(.bx 161 0 true [uH,(.mp .s .bo true)])
abbrev Sf:Pt:=(.bx 27 0 true [(.int .u64)])
abbrev alb:Pt:=(.bx 130 0 true [.same,aq,.same,.same,.same,.same,.same,.same,.same])
abbrev RG:Pt:=(.ifc 95 (.agg [aq,aY]))
abbrev af6:Pt:=(.bx 79 0 true [.same,.same,.same,.same,.same])
abbrev HX:Pt:=(.cU [.bool,aq])
abbrev ahf:Ty:=(.p .s (.p OF (.p aW (.p aW (.p aW aW)))))
abbrev Fs:Pt:=(.own .bo 4 true)
abbrev agq:Pt:=(.bx 76 0 false [aq,(.sli mg),aY,eP])
abbrev Ke:Pt:=(.bx 100 0 true QL3)
abbrev wS:Ty:=(.p mg bf)
abbrev agK:Pt:=(.bx 212 0 true [.same,aq,.same,aq,aq])
abbrev nY:Pt:=(.int .u8)
abbrev VL:Pt:=(.bx 243 0 true [.sfp,jr])
abbrev ahz:Pt:=(.bx 355 0 true [(.own gR 270 true),.same])
abbrev s9:Pt:=(.int .u32)
abbrev ahh:Ty:=(.p (.l vQ) (.p bf (.p (.l .s) lR)))
abbrev anb:Pt:=(.dat Vj [some 19,some 225,some 7,some 19,some 361])
abbrev LB:Pt:=(.cU [pN,aq])
abbrev W2:Pt:=(.cU [pN,.bool,aq])
abbrev agT:Ty:=(.p (.l vQ) (.p bf (.p Vj lR)))
abbrev agy:Ty:=(.p .s (.p OF (.p aW (.i .u64))))
abbrev aq6:Pt:=(.bx 130 0 true [.same,aq,(.own .s 9 true),(.own lR 112 true),kU,.same,.same,aq,aq])
abbrev ach:Ty:=(.p (.l gR) (.p gR mg))
abbrev RF:Pt:=(.cU [aq,.bool])
abbrev VC:Pt:=(.dat .ex [some 293])
abbrev arh:Pt:=(.bx 130 0 true [.same,aq,.same,.same,.same,.same,(.own Cs 180 true),aq,aq])
abbrev VQ:Pt:=(.own CG 171 false)
abbrev amt:Pt:=(.bx 76 0 true [aq,(.sli mg),aY,eP])
abbrev ahu:Ty:=(.p Vj (.p OF (.p UW bf)))
abbrev J0:Pt:=(.dat ZG [])
abbrev aaV:Pt:=(.dat A7 [none,none])
abbrev Wu:Pt:=(.bx 100 0 true QL4)
abbrev afD:Ty:=(.p bf (.p bf (.p .bo aW)))
abbrev abH:Pt:=(.bx 24 0 false [aY])
abbrev amN:Pt:=(.bx 218 0 true [uH,(.mp .s .bo true)])
abbrev aqU:Ty:=(.p aW (.p aW (.p aW (.p aW (.p aW (.p aW (.p aW (.p aW amd))))))))
abbrev ahV:Pt:=(.bx 317 0 true [jr,aq])
abbrev WG:Pt:=(.sli (.i .u32))
abbrev ahK:Pt:=(.bx 390 0 true [kU])
abbrev wV:Ty:=(.l bf)
abbrev acs:Ty:=(.p (.l gR) mg)
abbrev NP:Pt:=(.ifc 3 aq)
abbrev Ul:Pt:=(.own bf 3 false)
abbrev DM:Pt:=(.int .u64)
abbrev UK:Pt:=(.cU [uH,aq])
abbrev Zg:Pt:=(.bx 24 0 true [aY])
abbrev Ze:Pt:=(.bx 4 0 true [.bool])
abbrev aoD:Pt:=(.dat Vj [some 18,some 224,some 6,some 18,some 360])
abbrev SV:Pt:=(.own .s 9 false)
open Tryz
theorem aew:alc Tryz.prog 138:=λv w=>by rw [run_callFunc_extern func138 (by kernel_rfl) (by kernel_rfl) (by kernel_rfl) (e:=Extern.AbiNoEscape.same) (by kernel_rfl)];rfl
noncomputable def Yg:Cx:=⟨Tryz.prog,[(2,bf),(3,bf),(4,.bo),(5,aW),(6,aW),(7,afD),(8,afD),(9,.s),(10,.s),(11,.s),(12,(.i .u64)),(13,(.p .s (.i .u64))),(14,(.p .s (.i .u64))),(21,(.i .i32)),(22,(.l (.l .ex))),(23,(.l wV)),(24,wV),(25,OF),(26,OF),(27,(.i .u64)),(28,ZG),(29,ZG),(31,(.l .s)),(32,(.l lR)),(33,(.l Cs)),(34,Vj),(35,Vj),(40,Ip),(41,Ip),(42,bf),(47,ahf),(48,ahf),(55,agy),(56,agy),(65,(.l .bo)),(68,(.l (.l .bo))),(71,(.l mg)),(72,gR),(73,gR),(74,mg),(75,(.p gR mg)),(76,(.p gR mg)),(77,(.l gR)),(78,ach),(79,ach),(80,(.l gR)),(81,acs),(82,acs),(83,(.l ug)),(84,A7),(85,A7),(86,(.p A7 (.p A7 A7))),(87,(.p mg (.p mg mg))),(88,It),(89,It),(90,UW),(91,UW),(94,(.p bf wV)),(95,(.p bf wV)),(96,Ip),(97,Ip),(99,ahu),(100,ahu),(111,lR),(112,lR),(115,(.l .n)),(120,.n),(123,(.l CG)),(126,(.l vQ)),(129,agT),(130,agT),(131,vQ),(132,vQ),(143,(.l .ex)),(145,(.p bf (.p bf (.p bf (.l .ex))))),(146,.ex),(152,lR),(153,.un),(154,.un),(155,.un),(156,.un),(157,.un),(158,.un),(170,CG),(171,CG),(178,(.l (.p bf .ex))),(179,Cs),(180,Cs),(182,(.p bf .ex)),(183,(.p bf .ex)),(211,ahh),(212,ahh),(215,lR),(225,amd),(236,aqY),(237,(.i .u32)),(238,(.p aW age)),(239,(.i .u64)),(252,aqU),(253,age),(259,.un),(260,.un),(261,.un),(262,aW),(263,aW),(265,(.i .i32)),(266,(.i .i32)),(269,gR),(270,gR),(271,(.l og)),(272,ug),(273,ug),(295,wS),(296,wS),(303,gR),(304,gR),(305,gR),(306,gR),(314,wS),(315,wS),(316,wS),(317,wS),(357,(.l (.i .u32))),(364,W3),(365,W3),(383,og),(384,og),(390,wV)],[],[138],(List.forall_mem_cons.2 ⟨aew,(λ_ h=>nomatch h)⟩),an,[154,155,156,157,158],[],(λ_ h=>nomatch h),[(25,21),(66,40)]⟩
noncomputable def X0:Cx:=⟨Tryz.prog,[(2,bf),(3,bf),(4,.bo),(5,aW),(6,aW),(7,afD),(8,afD),(9,.s),(10,.s),(11,.s),(12,(.i .u64)),(13,(.p .s (.i .u64))),(14,(.p .s (.i .u64))),(21,(.i .i32)),(22,(.l (.l .ex))),(23,(.l wV)),(24,wV),(25,OF),(26,OF),(27,(.i .u64)),(28,ZG),(29,ZG),(31,(.l .s)),(32,(.l lR)),(33,(.l Cs)),(34,Vj),(35,Vj),(40,Ip),(41,Ip),(42,bf),(47,ahf),(48,ahf),(55,agy),(56,agy),(65,(.l .bo)),(68,(.l (.l .bo))),(71,(.l mg)),(72,gR),(73,gR),(74,mg),(75,(.p gR mg)),(76,(.p gR mg)),(77,(.l gR)),(78,ach),(79,ach),(80,(.l gR)),(81,acs),(82,acs),(83,(.l ug)),(84,A7),(85,A7),(86,(.p A7 (.p A7 A7))),(87,(.p mg (.p mg mg))),(88,It),(89,It),(90,UW),(91,UW),(94,(.p bf wV)),(95,(.p bf wV)),(96,Ip),(97,Ip),(99,ahu),(100,ahu),(111,lR),(112,lR),(115,(.l .n)),(120,.n),(123,(.l CG)),(126,(.l vQ)),(129,agT),(130,agT),(131,vQ),(132,vQ),(143,(.l .ex)),(145,(.p bf (.p bf (.p bf (.l .ex))))),(146,.ex),(152,lR),(153,.un),(154,.un),(155,.un),(156,.un),(157,.un),(158,.un),(170,CG),(171,CG),(178,(.l (.p bf .ex))),(179,Cs),(180,Cs),(182,(.p bf .ex)),(183,(.p bf .ex)),(211,ahh),(212,ahh),(215,lR),(225,amd),(236,aqY),(237,(.i .u32)),(238,(.p aW age)),(239,(.i .u64)),(252,aqU),(253,age),(259,.un),(260,.un),(261,.un),(262,aW),(263,aW),(265,(.i .i32)),(266,(.i .i32)),(269,gR),(270,gR),(271,(.l og)),(272,ug),(273,ug),(295,wS),(296,wS),(303,gR),(304,gR),(305,gR),(306,gR),(314,wS),(315,wS),(316,wS),(317,wS),(357,(.l (.i .u32))),(364,W3),(365,W3),(383,og),(384,og),(390,wV)],[(0,0,⟨.l (.i .u64),vV⟩)],[138],(List.forall_mem_cons.2 ⟨aew,(λ_ h=>nomatch h)⟩),an,[154,155,156,157,158],[⟨180,λargs H st K=>RQ Yg Tryz.f180 args H st K⟩,⟨171,λargs H st K=>RQ Yg Tryz.f171 args H st K⟩,⟨289,λargs H st K=>RQ Yg Tryz.f289 args H st K⟩,⟨290,λargs H st K=>RQ Yg Tryz.f290 args H st K⟩],(List.forall_mem_cons.2 ⟨UX (X:=Yg) call180 func180 rfl,(List.forall_mem_cons.2 ⟨UX (X:=Yg) call171 func171 rfl,(List.forall_mem_cons.2 ⟨UX (X:=Yg) call289 func289 rfl,(List.forall_mem_cons.2 ⟨UX (X:=Yg) call290 func290 rfl,(λ_ h=>nomatch h)⟩)⟩)⟩)⟩),[(25,21),(66,40)]⟩
abbrev Ko(e:aA):=e.Ok X0.P X0.Γ
abbrev LV(e:bY):=e.Ok X0.P X0.Γ
theorem aG{X:Cx}{tb:List aA}{fn:Func}{e:aA}(h:HT)(c:Enters X.P e.f)(b:X.P.funcs[e.f]? =some fn)(a:∀e∈tb,e.Ok X.P X.Γ)(eq:∀s,acE X tb [] [] h fn e s=e.m s:=by intro _;kernel_rfl):e.Ok X.P X.Γ:=eD h c b a ax ax eq
theorem ago{X:Cx}{tb:List aA}{fn:Func}{e:bY}(h:HT)(c:Enters X.P e.f)(b:X.P.funcs[e.f]? =some fn)(a:∀e∈tb,e.Ok X.P X.Γ)(eq:∀s,amm X tb [] [] h fn e s=e.m s:=by intro _;kernel_rfl):e.Ok X.P X.Γ:=M1 h c b a ax ax eq
abbrev U2{a z r:Type}(F:a->z->r)(s:a×z):r:=F s.1 s.2
abbrev U3{a b z r:Type}(F:a->b->z->r)(s:a×b×z):r:=F s.1 s.2.1 s.2.2
abbrev U4{a b c z r:Type}(F:a->b->c->z->r)(s:a×b×c×z):r:=F s.1 s.2.1 s.2.2.1 s.2.2.2
abbrev U6{a b c d e z r:Type}(F:a->b->c->d->e->z->r)(s:a×b×c×d×e×z):r:=F s.1 s.2.1 s.2.2.1 s.2.2.2.1 s.2.2.2.2.1 s.2.2.2.2.2
abbrev U7{a b c d e f z r:Type}(F:a->b->c->d->e->f->z->r)(s:a×b×c×d×e×f×z):r:=F s.1 s.2.1 s.2.2.1 s.2.2.2.1 s.2.2.2.2.1 s.2.2.2.2.2.1 s.2.2.2.2.2.2
abbrev U8{a b c d e f g z r:Type}(F:a->b->c->d->e->f->g->z->r)(s:a×b×c×d×e×f×g×z):r:=F s.1 s.2.1 s.2.2.1 s.2.2.2.1 s.2.2.2.2.1 s.2.2.2.2.2.1 s.2.2.2.2.2.2.1 s.2.2.2.2.2.2.2
abbrev U9{a b c d e f g h z r:Type}(F:a->b->c->d->e->f->g->h->z->r)(s:a×b×c×d×e×f×g×h×z):r:=F s.1 s.2.1 s.2.2.1 s.2.2.2.1 s.2.2.2.2.1 s.2.2.2.2.2.1 s.2.2.2.2.2.2.1 s.2.2.2.2.2.2.2.1 s.2.2.2.2.2.2.2.2
def lO(x:Ex):Ex:=Ex.mk x.op x.n x.at_ x.l
theorem ek:lO=id:=funext λx=>by cases x;rfl
def aqW:aA:=⟨131,[.int .i64],.str,[],λs=>Y9 s⟩
theorem ajg:Ko aqW:=anV (ρ:=Tryz.My) Tryz.alm call131 (G:=0) (tab:=vV) (by kernel_rfl) (show gl 0 (vV.map (Value.int .u64))∈X0.Γ by first|exact c8 ..|exact (.tail _ (c8 ..))|exact (.tail _ (.tail _ (c8 ..)))|exact (.tail _ (.tail _ (.tail _ (c8 ..))))|exact (.tail _ (.tail _ (.tail _ (.tail _ (c8 ..)))))|exact (.tail _ (.tail _ (.tail _ (.tail _ (.tail _ (c8 ..))))))) (by decide+kernel) Y9 λn r h=>by obtain ⟨b,a⟩:=jz h;cases a;exact ⟨b,rfl⟩
def are:aA:=⟨110,[.own aW 5 true,.int .u64,.int .i64],.own aW 5 true,[],U3 Uk⟩
theorem akn:Ko are:=akN (ρ:=Tryz.P7) Tryz.aqe call110 (G:=0) (tab:=vV) (by kernel_rfl) (show gl 0 (vV.map (Value.int .u64))∈X0.Γ by first|exact c8 ..|exact (.tail _ (c8 ..))|exact (.tail _ (.tail _ (c8 ..)))|exact (.tail _ (.tail _ (.tail _ (c8 ..))))|exact (.tail _ (.tail _ (.tail _ (.tail _ (c8 ..)))))|exact (.tail _ (.tail _ (.tail _ (.tail _ (.tail _ (c8 ..))))))) (by decide+kernel) Uk λl u b r h=>by obtain ⟨a,c⟩:=jz h;simp only [au,n6,er] at a;cases c;exact ⟨a.1.1,a.1.2.1,a.1.2.2,a.2,rfl⟩
theorem aiu{α:Type}{b:Nat}{s y r:List α}{k:Int}(h:We b s k y=some r):y≠[]/\CF k s.length=true/\aH (s.length+y.length) b=true/\r=nc s k y:=by
 unfold We at h;split at h
 .cases h
 .obtain ⟨a,c⟩:=jz h;simp only [au] at a;cases c;exact ⟨by simp,a.1,a.2,rfl⟩
def alU:aA:=⟨261,[.own og 384 true,.int .i64,.own og 384 true],.own og 384 true,[],λs=>We 16 s.1 s.2.1 s.2.2⟩
theorem ads:Ko alU:=apz (t:=og) (bytes:=16) call261 (λa d c b=>I261.Zt a d c b) (We 16) (λ_ _ _ _ h=>aiu h)
abbrev ZT:=Av->Option fI
def gm(k:ZT):aA:=⟨107,[afZ,aq,aq],VC,[(true,0,agK)],λs=>k (s.2.2.2.2.2.1,s.2.2.2.2.2.2,s.1,s.2.1,s.2.2.1,s.2.2.2.1,s.2.2.2.2.1)⟩
abbrev OK0(k:ZT):Prop:=Ko (gm k)
abbrev TK1:=Ex->Option lq
def lz(k:TK1):aA:=⟨85,[w7],(.cU [aq,aq,aq]),[],λs=>k s⟩
abbrev OK1(k:TK1):Prop:=Ko (lz k)
abbrev TK2:=Int->zd
def yG(k:TK2):aA:=⟨224,[aq],aq,[],λs=>k s⟩
abbrev OK2(k:TK2):Prop:=Ko (yG k)
abbrev TK3:=(Ex×Q1)->zd
def yE(k:TK3):aA:=⟨102,[w7,aY],aq,[],λs=>k (s.1,s.2)⟩
abbrev OK3(k:TK3):Prop:=Ko (yE k)
abbrev TK4:=Q49->Option xc
def pV(k:TK4):bY:=⟨236,[agz,aq,WG],NP,none,false,false,s9,[],λs=>k (s.2.1,s.2.2,s.1)⟩
abbrev OK4(k:TK4):Prop:=LV (pV k)
abbrev TK5:=Q49->Option Q56
def mb(k:TK5):aA:=⟨236,[ag6,aq,WG],s9,[(true,0,ahz)],λs=>k (s.2.1,s.2.2,s.1)⟩
abbrev OK5(k:TK5):Prop:=Ko (mb k)
abbrev TK6:=Q43->Option LZ
def tB(k:TK6):aA:=⟨253,[ak9,aq,eP],aq,[(true,0,al8)],λs=>k (s.2.2.2.2.2.2.1,s.2.2.2.2.2.2.2,s.1,s.2.1,s.2.2.1,s.2.2.2.1,s.2.2.2.2.1,s.2.2.2.2.2.1)⟩
abbrev OK6(k:TK6):Prop:=Ko (tB k)
abbrev TK7:=Q47->Option (cF×Q1)
def pT(k:TK7):aA:=⟨254,[akL,aq],iA,[(true,0,aau)],λs=>k (s.2.2.2.2.2.2,s.1,s.2.1,s.2.2.1,s.2.2.2.1,s.2.2.2.2.1,s.2.2.2.2.2.1)⟩
abbrev OK7(k:TK7):Prop:=Ko (pT k)
abbrev TK8:=(Ex×Q1)->zd
def lJ(k:TK8):aA:=⟨80,[w7,aY],aq,[],λs=>k (s.1,s.2)⟩
abbrev OK8(k:TK8):Prop:=Ko (lJ k)
abbrev TK9:=xl->zd
def ln(k:TK9):aA:=⟨83,[w7,aq],aq,[],λs=>k (s.1,s.2)⟩
abbrev OK9(k:TK9):Prop:=Ko (ln k)
abbrev aaJ:=xl->zd
def lD(k:aaJ):aA:=⟨84,[w7,aq],aq,[],λs=>k (s.1,s.2)⟩
abbrev atI(k:aaJ):Prop:=Ko (lD k)
abbrev acN:=xl->za
def ml(k:acN):aA:=⟨59,[w7,aq],.bool,[],λs=>k (s.1,s.2)⟩
abbrev atM(k:acN):Prop:=Ko (ml k)
def Lb:aA:=⟨73,[nY],aq,[],λs=>gC s⟩
theorem Gp:Ko Lb:=
 aG .o call73 func73 ax
def Jg:aA:=⟨74,[],(.own .s 9 true),[],λ_=>tf⟩
theorem EO:Ko Jg:=
 aG .o call74 func74 ax
def Hp:aA:=⟨44,[.str],(.cU [(.own vQ 132 true),aq,aq]),[],λs=>gM s⟩
theorem Dc:Ko Hp:=
 aG (.c .o (.l ⟨[(false,5,(.own vQ 132 true)),(false,6,aq)],[]⟩ (.c (.c .o (.c (.l ⟨[(false,6,aq)],[]⟩ .o) (.c (.l ⟨[(false,6,aq)],[]⟩ .o) (.c (.l ⟨[(false,6,aq),(false,9,aq)],[]⟩ .o) (.l ⟨[(false,11,.str),(false,12,aq)],[]⟩ .o))))) .o))) call44 func44 (aw Gp (aw EO ax))
def Gn:aA:=⟨45,[aq8,aq,.str],.bool,[],λs=>bW (d8 s).2.1 (d8 s).2.2 s.1 s.2.1 s.2.2.1 s.2.2.2.1 s.2.2.2.2.1 s.2.2.2.2.2.1 s.2.2.2.2.2.2.1 s.2.2.2.2.2.2.2.1 s.2.2.2.2.2.2.2.2.1⟩
theorem iH:Ko Gn:=
 aG .o call45 func45 ax
def Mp:aA:=⟨77,[.str],.bool,[],λs=>jS s⟩
theorem wc:Ko Mp:=
 aG (.s (.s (.s (.j ⟨[(false,4,.bool)],[]⟩ .o .o)))) call77 func77 ax
def Dt:aA:=⟨46,[ab5,aq,aq],iA,[(true,0,MB)],λs=>aJ (d8 s).2.1 (d8 s).2.2 s.1 s.2.1 s.2.2.1 s.2.2.2.1 s.2.2.2.2.1 s.2.2.2.2.2.1 s.2.2.2.2.2.2.1 s.2.2.2.2.2.2.2.1 s.2.2.2.2.2.2.2.2.1⟩
theorem cN:Ko Dt:=
 aG .o call46 func46 ax
def FU:aA:=⟨78,[SV,.str],aq,[],U2 cS⟩
theorem rU:Ko FU:=
 aG (.l ⟨[(false,5,aq)],[]⟩ .o) call78 func78 ax
def Dd:aA:=⟨49,[ab5,.bool],.str,[(true,0,aa5)],λs=>gV (d8 s).2 s.1 s.2.1 s.2.2.1 s.2.2.2.1 s.2.2.2.2.1 s.2.2.2.2.2.1 s.2.2.2.2.2.2.1 s.2.2.2.2.2.2.2.1 s.2.2.2.2.2.2.2.2.1⟩
theorem ri:Ko Dd:=
 aG .o call49 func49 (aw wc (aw cN (aw rU ax)))
def Dh:aA:=⟨47,[aq8],aq,[],U9 bu⟩
theorem gL:Ko Dh:=
 aG .o call47 func47 ax
def Dj:aA:=⟨50,[ab5,.str],iA,[(true,0,aa5)],λs=>bO (d8 s).2 s.1 s.2.1 s.2.2.1 s.2.2.2.1 s.2.2.2.2.1 s.2.2.2.2.2.1 s.2.2.2.2.2.2.1 s.2.2.2.2.2.2.2.1 s.2.2.2.2.2.2.2.2.1⟩
theorem ky:Ko Dj:=
 aG .o call50 func50 (aw iH (aw gL (aw cN ax)))
def HD:aA:=⟨113,[aq],.bool,[],λs=>l8 s⟩
theorem DB:Ko HD:=
 aG .o call113 func113 ax
def A9:aA:=⟨114,[afZ,aq],VC,[(true,0,(.bx 212 0 true [.same,.same,.same,aq,aq]))],λs=>bH s.2.2.2.2.2 s.1 s.2.1 s.2.2.1 s.2.2.2.1 s.2.2.2.2.1⟩
theorem nT:Ko A9:=
 aG (.c (.r [0] .o) .o) call114 func114 ax
def BN(a:ZT):aA:=⟨115,[afZ,aq],VC,[(true,0,agK)],λs=>dY a s.2.2.2.2.2 s.1 s.2.1 s.2.2.1 s.2.2.2.1 s.2.2.2.2.1⟩
def yS(g:Ex->Ex)(i:Sh->(R:Type)->Option R->Option R)(l:Q7)(at_:Int)(names:br)(f:Int)(a:Int)(e:uG)(b:Int->Option fI)(c:Int):Option fI:= bif decide (c<(names.length:Int)) then (idx names c).bind λh=> bif h==e.2.1 then some ((Ex.mk 2 c e.2.2.2 []),(i64.wrap (at_+1)),f,a) else b (i64.wrap (c+1)) else (bH 3 l at_ names f a).bind λd=> some ((g d.1),at_,d.2.1,d.2.2)
def kT(f:Ex->Ex)(B:Sh->(R:Type)->Option R->Option R)(C:Av->Option fI)(h:Int)(l:Q7)(at_:Int)(names:br)(d:Int)(c:Int):Option fI:= (idx l at_).bind λb=> bif b.1==2 then some ((Ex.mk 1 b.2.2.1 b.2.2.2 []),(i64.wrap (at_+1)),d,c) else ai (b.1==1) λA=> ai (b.2.1==[116,114,117,101]) λz=> ai (A&&z) λy=> bif y then ( some ((Ex.mk 13 0 b.2.2.2 []),(i64.wrap (at_+1)),d,c)) else ( ai (b.1==1) λx=> ai (b.2.1==[102,97,108,115,101]) λw=> ai (x&&w) λv=> bif v then ( some ((Ex.mk 14 0 b.2.2.2 []),(i64.wrap (at_+1)),d,c)) else ( (jS b.2.1).bind λj=> ai (b.1==1) λu=> ai (!j) λt=> ai (u&&t) λs=> bif s then ( aj (yS f B l at_ names d c b) an 0) else ( ai (b.1 != 3) λr=> ai (b.2.1 != [40]) λq=> ai (r||q) λp=> bif p then ( (bH 2 l at_ names d c).bind λg=> some ((f g.1),at_,g.2.1,g.2.2)) else ( (C (1,h,l,(i64.wrap (at_+1)),names,d,c)).bind λa=> bif a.2.2.1 != 0 then some ((Ex.mk 0 0 0 []),a.2.1,a.2.2.1,a.2.2.2) else (idx l a.2.1).bind λm=> ai (m.1 != 3) λi=> bm (!i) (0,[],0,0) (idx l a.2.1) λk=> ai (k.2.1 != [41]) λo=> ai (i||o) λn=> bif n then ( (bH 2 l a.2.1 names a.2.2.1 a.2.2.2).bind λe=> some ((f e.1),a.2.1,e.2.1,e.2.2)) else ( some ((f a.1),(i64.wrap (a.2.1+1)),a.2.2.1,a.2.2.2))))))
theorem Af(a:ZT)(i0:OK0 a):Ko (BN a):=
 eD (.r [] (.c .o (.c .o (.c .o (.c (.l ⟨[(true,0,(.bx 212 0 true [.same,.same,.same,.same,.same])),(true,4,(.bx 146 0 true [.same,.same,.same,.same])),(false,7,aq)],[]⟩ .o) .o))))) call115 func115 (aw wc (aw nT (aw i0 ax))) ax ax λs=>(show _=kT lO eO a s.2.2.2.2.2 s.1 s.2.1 s.2.2.1 s.2.2.2.1 s.2.2.2.2.1 from by kernel_rfl).trans ((congrArg (λb=>kT b eO a s.2.2.2.2.2 s.1 s.2.1 s.2.2.1 s.2.2.2.1 s.2.2.2.2.1) ek).trans ((congrArg (λd=>kT id d a s.2.2.2.2.2 s.1 s.2.1 s.2.2.1 s.2.2.2.1 s.2.2.2.2.1) fU).trans (by kernel_rfl)))
def NL:aA:=⟨116,[(.dat vQ []),aq],aq,[],U2 cY⟩
theorem Jd:Ko NL:=
 aG (.c (.c .o (.c .o (.c .o (.c .o (.c .o (.c (.l ⟨[(false,7,aq)],[]⟩ .o) .o)))))) .o) call116 func116 ax
def rk:aA:=⟨107,[afZ,aq,aq],VC,[(true,0,agK)],λs=>iL s.2.2.2.2.2.1 s.2.2.2.2.2.2 s.1 s.2.1 s.2.2.1 s.2.2.2.1 s.2.2.2.2.1⟩
def xV(f:Ex->Ex)(j:Sh->(R:Type)->Option R->Option R)(i:Av->Option fI)(l:Q7)(at_:Int)(names:br)(g:Int)(b:Int)(a:Int)(h:uG)(e:Int):Option fI:= bif e==0 then (i (7,a,l,at_,names,g,b)).bind λd=> some ((f d.1),d.2.1,d.2.2.1,d.2.2.2) else (i (6,a,l,(i64.wrap (at_+1)),names,g,b)).bind λc=> some ((Ex.mk e 0 h.2.2.2 ([(f c.1)]:List Ex)),c.2.1,c.2.2.1,c.2.2.2)
def xY(g:Ex->Ex)(m:Sh->(R:Type)->Option R->Option R)(n:Av->Option fI)(l:Q7)(at_:Int)(names:br)(h:Int)(c:Int)(a:Int)(d:uG)(f:Int):Option fI:= ai (λ(e:Int)=>xV g m n l at_ names h c a d e) λb=> ai (d.1==1) λk=> ai (d.2.1==[71]) λj=> ai (k&&j) λi=> bif i then ( b 22) else ( b f)
def x7(g:Ex->Ex)(m:Sh->(R:Type)->Option R->Option R)(n:Av->Option fI)(l:Q7)(at_:Int)(names:br)(h:Int)(c:Int)(a:Int)(d:uG)(f:Int):Option fI:= ai (λ(e:Int)=>xY g m n l at_ names h c a d e) λb=> ai (d.1==1) λk=> ai (d.2.1==[70]) λj=> ai (k&&j) λi=> bif i then ( b 21) else ( b f)
def xT(g:Ex->Ex)(m:Sh->(R:Type)->Option R->Option R)(n:Av->Option fI)(l:Q7)(at_:Int)(names:br)(h:Int)(c:Int)(a:Int)(d:uG)(f:Int):Option fI:= ai (λ(e:Int)=>x7 g m n l at_ names h c a d e) λb=> ai (d.1==1) λk=> ai (d.2.1==[88]) λj=> ai (k&&j) λi=> bif i then ( b 20) else ( b f)
def xW(p:Ex->Ex)(w:Sh->(R:Type)->Option R->Option R)(v:Av->Option fI)(a:Int)(l:Q7)(names:br)(m:Int)(o:(Int×Int×Int×Int×Int×Int×(List Ex))->Option fI):Int×Int×Int×Int×Int×Int×(List Ex)->Option fI:=λ⟨h,g,n,f,e,d,c⟩=> bif g==0 then (idx l h).bind λk=> (cY k a).bind λj=> bif j==0 then some ((Ex.mk f e d c),h,g,n) else ai (a==1) λu=> ai (a==2) λt=> ai (u||t) λs=> ai (a==5) λr=> ai (s||r) λq=> bif q then ( (v (a,m,l,(i64.wrap (h+1)),names,g,n)).bind λi=> some ((Ex.mk j 0 k.2.2.2 ([(Ex.mk f e d c),(p i.1)]:List Ex)),i.2.1,i.2.2.1,i.2.2.2)) else ( (v ((i64.wrap (a+1)),m,l,(i64.wrap (h+1)),names,g,n)).bind λb=> bif a==7 then some ((Ex.mk j 0 k.2.2.2 ([(Ex.mk f e d c),(p b.1)]:List Ex)),b.2.1,b.2.2.1,b.2.2.2) else o (b.2.1,b.2.2.1,b.2.2.2,j,0,k.2.2.2,([(Ex.mk f e d c),(p b.1)]:List Ex))) else some ((Ex.mk f e d c),h,g,n)
def xR(h:Ex->Ex)(y:Sh->(R:Type)->Option R->Option R)(q:Av->Option fI)(a:Int)(l:Q7)(at_:Int)(names:br)(i:Int)(d:Int)(s:Bool)(b:Int):Option fI:= ai (decide (320<b)) λx=> ai (s&&x) λw=> bif w then ( (bH 9 l at_ names i d).bind λk=> some ((h k.1),at_,k.2.1,k.2.2)) else ( (idx l at_).bind λg=> bif a==6 then ai (λ(r:Int)=>xT h y q l at_ names i d b g r) λj=> ai (g.1==3) λv=> ai (g.2.1==[33]) λu=> ai (v&&u) λt=> bif t then ( j 15) else ( j 0) else bif a==10 then ai (g.1 != 3) λp=> ai (g.2.1 != [45]) λo=> ai (p||o) λm=> bif m then ( (dY q b l at_ names i d).bind λf=> some ((h f.1),f.2.1,f.2.2.1,f.2.2.2)) else ( (q (10,b,l,(i64.wrap (at_+1)),names,i,d)).bind λe=> some ((Ex.mk 6 0 g.2.2.2 ([(h e.1)]:List Ex)),e.2.1,e.2.2.1,e.2.2.2)) else (q ((i64.wrap (a+1)),b,l,at_,names,i,d)).bind λc=> aj (xW h y q a l names b) an (c.2.1,c.2.2.1,c.2.2.2,c.1.op,c.1.n,c.1.at_,c.1.l))
def jv(h:Ex->Ex)(i:Sh->(R:Type)->Option R->Option R)(j:Av->Option fI)(a:Int)(d:Int)(l:Q7)(at_:Int)(names:br)(e:Int)(b:Int):Option fI:= bif e != 0 then some ((Ex.mk 0 0 0 []),at_,e,b) else (l8 a).bind λg=> ai (λ(f:Int)=>xR h i j a l at_ names e b g f) λc=> bif g then ( c (i64.wrap (d+1))) else ( c d)
def rb:ZT->ZT:=λa s=>dy a s.1 s.2.1 s.2.2.1 s.2.2.2.1 s.2.2.2.2.1 s.2.2.2.2.2.1 s.2.2.2.2.2.2
theorem wu(a:ZT)(i0:OK0 a):(gm (rb a)).Ok X0.P X0.Γ:=
 eD (.c .o (.s (.j ⟨[(false,2,aq)],[]⟩ .o (.c .o (.r [] (.c (.s (.j ⟨[(false,9,aq)],[]⟩ .o (.j ⟨[(false,9,aq)],[]⟩ .o (.j ⟨[(false,9,aq)],[]⟩ .o (.j ⟨[(false,9,aq)],[]⟩ .o .o))))) (.c .o (.l ⟨[(true,0,agK),(true,6,(.bx 146 0 true [.same,.same,.same,.same])),(true,12,(.bx 146 0 true [aq,aq,aq,(.own .ex 146 true)]))],[]⟩ .o)))))))) call107 func107 (aw DB (aw nT (aw i0 (aw (Af a i0) (aw Jd ax))))) ax ax λs=>(show _=jv lO eO a s.2.2.2.2.2.1 s.2.2.2.2.2.2 s.1 s.2.1 s.2.2.1 s.2.2.2.1 s.2.2.2.2.1 from by kernel_rfl).trans ((congrArg (λb=>jv b eO a s.2.2.2.2.2.1 s.2.2.2.2.2.2 s.1 s.2.1 s.2.2.1 s.2.2.2.1 s.2.2.2.2.1) ek).trans ((congrArg (λd=>jv id d a s.2.2.2.2.2.1 s.2.2.2.2.2.2 s.1 s.2.1 s.2.2.1 s.2.2.2.1 s.2.2.2.2.1) fU).trans (by kernel_rfl)))
theorem xX:Ko rk:=(show rk=gm (aj (rb) an) by kernel_rfl)▸ot (X:=X0) (E:=gm) ⟨call107,λ_ _ h=>nomatch h⟩ (wu) an
def E8:aA:=⟨98,[(.own vQ 132 false),aq,SV],(.cU [VC,aq,aq,aq]),[],U3 fE⟩
def nz(b:Ex->Ex)(c:Sh->(R:Type)->Option R->Option R)(l:Q7)(at_:Int)(names:br):Option fI:= (iL 1 0 l at_ names 0 0).bind λa=> bif a.2.2.1 != 0 then some ((Ex.mk 0 0 0 []),0,a.2.2.1,a.2.2.2) else some ((b a.1),a.2.1,0,0)
theorem Cg:Ko E8:=
 eD (.c (.r [6] .o) (.r [6] .o)) call98 func98 (aw xX ax) ax ax λs=>(show _=nz lO eO s.1 s.2.1 s.2.2 from by kernel_rfl).trans ((congrArg (λa=>nz a eO s.1 s.2.1 s.2.2) ek).trans ((congrArg (λb=>nz id b s.1 s.2.1 s.2.2) fU).trans (by kernel_rfl)))
def yD:aA:=⟨85,[w7],(.cU [aq,aq,aq]),[],λs=>dO s⟩
def Gm(j:Ex->Ex)(H:Sh->(R:Type)->Option R->Option R)(G:Ex->Option lq)(e:Ex)(f:Hh->Option lq):Int×Int×Int×Int->Option lq:=λ⟨a,b,c,h⟩=> bif decide (h<(List.length e.l:Int)) then (idx e.l h).bind λk=> (G (j k)).bind λd=> bif d.2.1 != 0 then some (0,d.2.1,d.2.2) else ai (λ(i:Int)=>rN b c h f d i) λg=> bif d.1==1 then g (i64.wrap (a+1)) else g a else ai (decide (e.op<=6)) λF=> ai (a==(List.length e.l:Int)) λE=> ai (F&&E) λD=> bif D then ( some (1,0,0)) else ( ai (decide (7<=e.op)) λC=> ai (decide (e.op<=12)) λB=> ai (C&&B) λA=> ai (a==(List.length e.l:Int)) λz=> ai (A&&z) λy=> ai (e.op==13) λx=> ai (y||x) λw=> ai (e.op==14) λv=> ai (w||v) λu=> bif u then ( some (2,0,0)) else ( ai (decide (15<=e.op)) λt=> ai (decide (e.op<=19)) λs=> ai (t&&s) λr=> ai (b==(List.length e.l:Int)) λq=> ai (r&&q) λp=> bif p then ( some (2,0,0)) else ( ai (decide (15<=e.op)) λo=> ai ((i64.wrap (b+c))==(List.length e.l:Int)) λn=> ai (o&&n) λm=> bif m then ( some (3,0,0)) else ( some (0,4,e.at_)))))
def pB(a:Ex->Ex)(c:Sh->(R:Type)->Option R->Option R)(b:Ex->Option lq)(e:Ex):Option lq:= aj (Gm a c b e) an (0,0,0,0)
def Ag:TK1->TK1:=λk1 s=>jF k1 s
theorem Dn(k1:TK1)(b:OK1 k1):(lz (Ag k1)).Ok X0.P X0.Γ:=
 eD (.l ⟨[(false,5,aq),(false,6,aq),(false,7,aq),(false,8,aq)],[]⟩ (.c (.c .o (.j ⟨[(false,5,aq)],[]⟩ .o (.j ⟨[(false,6,aq)],[]⟩ .o .o))) .o)) call85 func85 (aw b ax) ax ax λs=>(show _=pB lO eO k1 s from by kernel_rfl).trans ((congrArg (λa=>pB a eO k1 s) ek).trans ((congrArg (λd=>pB id d k1 s) fU).trans (by kernel_rfl)))
theorem vo:Ko yD:=(show yD=lz (aj (Ag) an) by kernel_rfl)▸ot (X:=X0) (E:=lz) ⟨call85,λ_ _ h=>nomatch h⟩ (Dn) an
def Gs:aA:=⟨85,[(.dat .ex [some 292])],(.cU [aq,aq,aq]),[],λs=>iZ s⟩
def Cu(j:Ex->Ex)(G:Sh->(R:Type)->Option R->Option R)(e:Ex)(f:Hh->Option lq):Int×Int×Int×Int->Option lq:=λ⟨a,b,c,h⟩=> bif decide (h<(List.length e.l:Int)) then (idx e.l h).bind λk=> (dO (j k)).bind λd=> bif d.2.1 != 0 then some (0,d.2.1,d.2.2) else ai (λ(i:Int)=>uh b c h f d i) λg=> bif d.1==1 then g (i64.wrap (a+1)) else g a else ai (decide (e.op<=6)) λF=> ai (a==(List.length e.l:Int)) λE=> ai (F&&E) λD=> bif D then ( some (1,0,0)) else ( ai (decide (7<=e.op)) λC=> ai (decide (e.op<=12)) λB=> ai (C&&B) λA=> ai (a==(List.length e.l:Int)) λz=> ai (A&&z) λy=> ai (e.op==13) λx=> ai (y||x) λw=> ai (e.op==14) λv=> ai (w||v) λu=> bif u then ( some (2,0,0)) else ( ai (decide (15<=e.op)) λt=> ai (decide (e.op<=19)) λs=> ai (t&&s) λr=> ai (b==(List.length e.l:Int)) λq=> ai (r&&q) λp=> bif p then ( some (2,0,0)) else ( ai (decide (15<=e.op)) λo=> ai ((i64.wrap (b+c))==(List.length e.l:Int)) λn=> ai (o&&n) λm=> bif m then ( some (3,0,0)) else ( some (0,4,e.at_)))))
def n7(a:Ex->Ex)(b:Sh->(R:Type)->Option R->Option R)(e:Ex):Option lq:= aj (Cu a b e) an (0,0,0,0)
theorem CI:Ko Gs:=
 eD (.l ⟨[(false,5,aq),(false,6,aq),(false,7,aq),(false,8,aq)],[]⟩ (.c (.c .o (.j ⟨[(false,5,aq)],[]⟩ .o (.j ⟨[(false,6,aq)],[]⟩ .o .o))) .o)) call85 func85 (aw vo ax) ax ax λs=>(show _=n7 lO eO s from by kernel_rfl).trans ((congrArg (λa=>n7 a eO s) ek).trans ((congrArg (λb=>n7 id b s) fU).trans (by kernel_rfl)))
def x4:aA:=⟨79,[ab5,aq],VC,[(true,0,aa5)],λs=>cG (d8 s).2 s.1 s.2.1 s.2.2.1 s.2.2.2.1 s.2.2.2.2.1 s.2.2.2.2.2.1 s.2.2.2.2.2.2.1 s.2.2.2.2.2.2.2.1 s.2.2.2.2.2.2.2.2.1⟩
def vE(b:Ex->Ex)(e:Sh->(R:Type)->Option R->Option R)(a:fI)(d:Int)(c:Int):Option fI:= some ((b a.1),a.2.1,d,c)
def jm(p:Ex->Ex)(q:Sh->(R:Type)->Option R->Option R)(j:Int)(l:Q7)(at_:Int)(c:br)(b:Q4)(h:Q1)(d:br)(aT:Q5)(f:Int)(a:Int):Option fI:= bif f != 0 then some ((Ex.mk 0 0 0 []),at_,f,a) else (fE l at_ c).bind λe=> bif e.2.2.1 != 0 then (aJ e.2.2.1 e.2.2.2 l at_ c b h d aT f a).bind λo=> some ((Ex.mk 0 0 0 []),at_,o.1,o.2) else (iZ (p e.1)).bind λi=> ai (λ(k:Int×Int)=>vE p q e k.1 k.2) λg=> bif i.2.1 != 0 then (aJ i.2.1 i.2.2 l at_ c b h d aT f a).bind λn=> g (n.1,n.2) else bif i.1 != j then (aJ 4 e.1.at_ l at_ c b h d aT f a).bind λm=> g (m.1,m.2) else g (f,a)
theorem vM:Ko x4:=
 eD (.c .o (.r [0,40000] (.c .o (.s (.j ⟨[(true,0,MB)],[]⟩ .o .o))))) call79 func79 (aw Cg (aw cN (aw CI ax))) ax ax λs=>(show _=jm lO eO (d8 s).2 s.1 s.2.1 s.2.2.1 s.2.2.2.1 s.2.2.2.2.1 s.2.2.2.2.2.1 s.2.2.2.2.2.2.1 s.2.2.2.2.2.2.2.1 s.2.2.2.2.2.2.2.2.1 from by kernel_rfl).trans ((congrArg (λa=>jm a eO (d8 s).2 s.1 s.2.1 s.2.2.1 s.2.2.2.1 s.2.2.2.2.1 s.2.2.2.2.2.1 s.2.2.2.2.2.2.1 s.2.2.2.2.2.2.2.1 s.2.2.2.2.2.2.2.2.1) ek).trans ((congrArg (λb=>jm id b (d8 s).2 s.1 s.2.1 s.2.2.1 s.2.2.2.1 s.2.2.2.2.1 s.2.2.2.2.2.1 s.2.2.2.2.2.2.1 s.2.2.2.2.2.2.2.1 s.2.2.2.2.2.2.2.2.1) fU).trans (by kernel_rfl)))
def AH:aA:=⟨51,[(.bx 130 0 true [(.own vQ 132 false),aq,SV,(.own lR 112 false),Ul,SV,(.own Cs 180 true),aq,aq])],iA,[(true,0,arh)],U9 iG⟩
def x8(k:Ex->Ex)(p:Sh->(R:Type)->Option R->Option R)(l:Q7)(e:br)(b:Q4)(f:Q1)(d:br)(aT:Q5)(j:Uu)(c:X8->Option vz)(i:Int)(o:Int)(n:Int)(m:Int):Option vz:= (bO [61] l m e b f d aT o n).bind λh=> (cG 1 l h.1 e b f d aT h.2.1 h.2.2).bind λa=> aN (aH (List.length j+List.length ([(i,(k a.1))]:List (Int×Ex))) 56)<| (bW 3 [44] l a.2.1 e b f d aT a.2.2.1 a.2.2.2).bind λg=> bif g then ( c ((i64.wrap (a.2.1+1)),a.2.2.1,a.2.2.2,(j++([(i,(k a.1))]:List (Int×Ex))),g)) else ( c (a.2.1,a.2.2.1,a.2.2.2,(j++([(i,(k a.1))]:List (Int×Ex))),g))
def xU(m:Ex->Ex)(o:Sh->(R:Type)->Option R->Option R)(l:Q7)(e:br)(b:Q4)(h:Q1)(d:br)(aT:Q5)(g:Int)(k:Uu)(a:X8->Option vz)(j:Int)(f:Int)(n:Int):Option vz:= ai (λ(i:Int)=>x8 m o l e b h d aT k a j f n i) λc=> bif f==0 then c (i64.wrap (g+1)) else c g
def xZ(v:Ex->Ex)(z:Sh->(R:Type)->Option R->Option R)(l:Q7)(d:br)(b:Q4)(h:Q1)(c:br)(aT:Q5)(r:Int)(q:Int)(p:Int)(m:Uu)(g:X8->Option vz)(o:uG)(k:Int)(f:Eo->Option vz):Bool×Int->Option vz:=λ⟨a,n⟩=> bif decide (n<(m.length:Int)) then bm (!a) (0,(Ex.mk 0 0 0 [])) (idx m n) λw=> ai (w.1==k) λy=> ai (a||y) λx=> f (x,(i64.wrap (n+1))) else ai (λ(s:Int×Int)=>xU v z l d b h c aT r m g k s.1 s.2) λe=> bif o.1 != 1 then (aJ 2 o.2.2.2 l r d b h c aT q p).bind λj=> e (j.1,j.2) else ai (decide (k<0)) λu=> ai (u||a) λt=> bif t then ( (aJ 3 o.2.2.2 l r d b h c aT q p).bind λi=> e (i.1,i.2)) else ( e (q,p))
def x6(i:Ex->Ex)(s:Sh->(R:Type)->Option R->Option R)(l:Q7)(b:br)(c:Q4)(g:Q1)(a:br)(aT:Q5)(m:fI)(e:X8->Option vz):Int×Int×Int×Uu×Bool->Option vz:=λ⟨k,j,o,h,f⟩=> ai (j==0) λr=> ai (f&&r) λq=> bif q then ( (idx l k).bind λn=> (cS b n.2.1).bind λp=> aj (xZ i s l b c g a aT k j o h e n p) an (false,0)) else ( (bO [59] l k b c g a aT j o).bind λd=> aN (aH (List.length aT+List.length ([((i64.wrap ((a.length:Int)-1)),(i m.1),h)]:List Q55)) 80)<| some (d.1,(aT++([((i64.wrap ((a.length:Int)-1)),(i m.1),h)]:List Q55)),d.2.1,d.2.2))
def x5(g:Ex->Ex)(j:Sh->(R:Type)->Option R->Option R)(l:Q7)(at_:Int)(c:br)(a:Q4)(d:Q1)(b:br)(aT:Q5)(i:Int)(h:Int):Option vz:= (cG 2 l at_ c a d b aT i h).bind λe=> (bO [58] l e.2.1 c a d b aT e.2.2.1 e.2.2.2).bind λf=> aj (x6 g j l c a d b aT e) an (f.1,f.2.1,f.2.2,[],true)
def ku(k:Ex->Ex)(m:Sh->(R:Type)->Option R->Option R)(l:Q7)(at_:Int)(d:br)(a:Q4)(f:Q1)(c:br)(aT:Q5)(i:Int)(b:Int):Option vz:= ai (λ(g:Int×Int)=>x5 k m l at_ d a f c aT g.1 g.2) λe=> bif decide (256<=(aT.length:Int)) then (bu l at_ d a f c aT i b).bind λj=> (aJ 9 j l at_ d a f c aT i b).bind λh=> e (h.1,h.2) else e (i,b)
theorem xS:Ko AH:=
 eD (.j ⟨[(true,0,MB)],[]⟩ .o (.l ⟨[(true,0,aa5),(true,2,(.bx 180 0 true [.same,.same,.same,.same,.same,(.own (.p bf .ex) 183 true)])),(false,3,.bool)],[]⟩ (.c (.r [] (.r [0] (.l ⟨[(false,6,.bool),(false,7,aq)],[]⟩ (.c .o (.j ⟨[(true,0,MB)],[4]⟩ .o (.j ⟨[(true,0,alb)],[]⟩ .o .o)))))) (.r [0,2] .o)))) call51 func51 (aw vM (aw ky (aw rU (aw iH (aw cN (aw gL ax)))))) ax ax λs=>(show _=ku lO eO s.1 s.2.1 s.2.2.1 s.2.2.2.1 s.2.2.2.2.1 s.2.2.2.2.2.1 s.2.2.2.2.2.2.1 s.2.2.2.2.2.2.2.1 s.2.2.2.2.2.2.2.2 from by kernel_rfl).trans ((congrArg (λa=>ku a eO s.1 s.2.1 s.2.2.1 s.2.2.2.1 s.2.2.2.2.1 s.2.2.2.2.2.1 s.2.2.2.2.2.2.1 s.2.2.2.2.2.2.2.1 s.2.2.2.2.2.2.2.2) ek).trans ((congrArg (λb=>ku id b s.1 s.2.1 s.2.2.1 s.2.2.2.1 s.2.2.2.2.1 s.2.2.2.2.2.1 s.2.2.2.2.2.2.1 s.2.2.2.2.2.2.2.1 s.2.2.2.2.2.2.2.2) fU).trans (by kernel_rfl)))
def B7:aA:=⟨75,[ab5],aq,[(true,0,aa5)],U9 ed⟩
theorem y8:Ko B7:=
 aG (.s (.s (.j ⟨[(true,0,alb)],[]⟩ .o (.r [] (.j ⟨[(true,0,MB)],[]⟩ .o .o))))) call75 func75 (aw iH (aw cN ax))
def IP:aA:=⟨76,[j2],.bool,[],λs=>nR s⟩
theorem Ef:Ko IP:=
 aG (.c .o (.l ⟨[(false,3,aq)],[]⟩ .o)) call76 func76 ax
def An:aA:=⟨48,[(.bx 130 0 true [(.own vQ 132 false),aq,(.own .s 9 true),(.own lR 112 true),kU,SV,(.own Cs 180 false),aq,aq])],iA,[(true,0,aq6)],U9 ik⟩
theorem xd:Ko An:=
 aG (.s (.s (.s (.s (.s (.s (.s (.s (.j ⟨[(true,0,MB)],[]⟩ .o (.r [0] .o)))))))))) call48 func48 (aw ri (aw gL (aw y8 (aw ky (aw Ef (aw cN ax))))))
def I0:aA:=⟨26,[.str],(.cU [anb,aq,aq]),[],λs=>fP s⟩
theorem E5:Ko I0:=
 aG (.c .o (.l ⟨[(true,8,(.bx 130 0 true [.same,aq,(.own .s 9 true),(.own lR 112 true),kU,(.own .s 9 true),(.own Cs 180 true),aq,aq]))],[]⟩ (.c (.s (.s (.j ⟨[(true,8,MB)],[]⟩ .o (.j ⟨[(true,8,alb)],[]⟩ .o (.j ⟨[(true,8,aq6)],[]⟩ .o (.c (.l ⟨[(true,8,arh),(false,12,.bool)],[]⟩ .o) .o)))))) (.j ⟨[(true,8,MB)],[]⟩ .o (.c (.r [2] .o) .o))))) call26 func26 (aw Dc (aw iH (aw ri (aw ky (aw xS (aw xd (aw gL (aw cN ax))))))))
def MS:aA:=⟨12,[.str],(.cU [anb,.bool]),[],λs=>na s⟩
theorem xp:Ko MS:=
 aG .o call12 func12 (aw E5 ax)
def Ps:aA:=⟨62,[(.dat lR [])],.bool,[],λs=>tI s⟩
theorem Kk:Ko Ps:=
 aG .o call62 func62 ax
def NR:aA:=⟨61,[j2,(.fn 62 [] [])],Fs,[],λs=>sx s⟩
theorem IS:Ko NR:=
 aG (.l ⟨[(true,5,Fs),(false,13,aq)],[]⟩ .o) call61 func61 (aw Kk ax)
def EG:aA:=⟨86,[(.sli .bo),.bool],aq,[],U2 pz⟩
theorem Ce:Ko EG:=
 aG (.l ⟨[(false,8,aq)],[]⟩ .o) call86 func86 ax
def Cj:aA:=⟨60,[(.sli .bo),.bool],.bool,[],U2 jh⟩
theorem yu:Ko Cj:=
 aG .o call60 func60 (aw Ce ax)
def VO:aA:=⟨36,[j2],.bool,[],λs=>uw s⟩
theorem CU:Ko VO:=
 aG .o call36 func36 (aw IS (aw yu ax))
def vH:aA:=⟨37,[j2],(.own lR 112 true),[],λs=>cP s⟩
def vK(s:Q4):Option Q4:= AQ s ( some []) ( aN (aH (List.length ([]:List jE)+List.length s) 16)<| some (([]:List jE)++s))
theorem kC:Ko vH:=
 eD .o call37 func37 ax ax ax λs=>(show _=vK s from by kernel_rfl).trans o9
def Yz:aA:=⟨22,[rQ,mB],(.cU [(.own lR 112 true),aq]),[],U2 wz⟩
theorem RO:Ko Yz:=
 aG (.c .o (.r [40000] .o)) call22 func22 (aw CU (aw kC ax))
def Yl:aA:=⟨38,[],(.sli .n),[],λ_=>ck⟩
theorem Ey:Ko Yl:=
 aG .o call38 func38 ax
def Qf:aA:=⟨166,[aq],(.cU [(.dat gR [some 149,some 7]),aq]),[],λs=>oT s⟩
theorem AR:Ko Qf:=
 aG .o call166 func166 ax
def ag3:aA:=⟨161,[aq],(.cU [(.dat (.p gR mg) [some 149,some 7,some 11]),aq]),[],λs=>Lf s⟩
theorem YA:Ko ag3:=
 aG .o call161 func161 (aw AR ax)
def Mm:aA:=⟨155,[pZ,pN,J0],(.cU [(.dat UW [none,some 149,some 7,some 11,none,none,none,none,none,none,none,none,none,none,none,none,none,none,none]),aq]),[],U3 jO⟩
theorem HM:Ko Mm:=
 aG .o call155 func155 (aw YA ax)
def KZ:aA:=⟨201,[j2,aq],(.cU [(.dat ach [some 147,some 149,some 7,some 11]),aq]),[],U2 KI⟩
def Y0(f:Nat)(s:Q4)(most:Int)(e:(Q6×Int))(a:((List Q6)×Int)->Option (Aw×Int)):(List Q6)×Int->Option (Aw×Int):=λ⟨b,c⟩=> bif decide (c<(i64.wrap (Int.tdiv (i64.wrap ((i64.wrap ((s.length:Int)+2))-1)) 2))) then (oT most).bind λd=> aN (aH (List.length b+List.length ([d.1]:List Q6)) 56)<| a ((b++([d.1]:List Q6)),(i64.wrap (c+1))) else some ((b,e.1,[]),0)
def agF(fl:Nat)(s:Q4)(most:Int):Option (Aw×Int):= (oT most).bind λa=> bif a.2 != 0 then some (([],(0,[],[]),[]),a.2) else aj (Y0 fl s most a) fl ([],0)
theorem Wp(fl:Nat)(s:fS (sG KZ.ps)):acE { X0 with fl:=fl } [Qf] [] [] (.c .o (.l ⟨[(true,4,af6),(true,8,agc),(false,27,aq)],[]⟩ .o)) Tryz.f201 KZ s=agF fl s.1 s.2:=by kernel_rfl
theorem YK:Ko KZ:=
 eD (.c .o (.l ⟨[(true,4,af6),(true,8,agc),(false,27,aq)],[]⟩ .o)) call201 func201 (aw AR ax) ax ax λs=>(Wp an s).trans (by kernel_rfl)
def Le:aA:=⟨195,[pZ,pN,J0],(.cU [(.dat UW [none,none,none,none,some 147,some 149,some 7,some 11,none,none,none,none,none,none,none,none,none,none,none]),aq]),[],U3 jd⟩
theorem Gh:Ko Le:=
 aG .o call195 func195 (aw YK ax)
def ac4:aA:=⟨223,[aq],(.cU [(.dat gR [some 149,some 7]),aq]),[],λs=>MF s⟩
theorem Wg:Ko ac4:=
 aG .o call223 func223 (aw AR ax)
def PS:aA:=⟨224,[aq],aq,[],λs=>xM s⟩
def Qo:TK2->TK2:=λa s=>sV a s
theorem QW(a:TK2)(b:OK2 a):(yG (Qo a)).Ok X0.P X0.Γ:=
 aG .o call224 func224 (aw b ax)
theorem A6:Ko PS:=(show PS=yG (aj (Qo) an) by kernel_rfl)▸ot (X:=X0) (E:=yG) ⟨call224,λ_ _ h=>nomatch h⟩ (QW) an
def ahW:aA:=⟨219,[j2,aq],(.cU [(.dat acs [some 541,some 11]),aq]),[],U2 JY⟩
theorem Yx:Ko ahW:=
 aG (.c .o (.r [30000,20006] (.l ⟨[(true,4,(.bx 82 0 true [.same,.same])),(true,8,(.bx 82 0 true [(.own gR 270 true),.same])),(false,23,aq)],[]⟩ .o))) call219 func219 (aw Wg (aw A6 ax))
def KH:aA:=⟨213,[pZ,pN,J0],(.cU [(.dat UW [none,none,none,none,none,none,none,none,some 541,some 11,none,none,none,none,none,none,none,none,none]),aq]),[],U3 iU⟩
theorem Gb:Ko KH:=
 aG .o call213 func213 (aw Yx ax)
def adG:aA:=⟨185,[DM],aq,[],λs=>Cp s⟩
theorem JN:Ko adG:=
 aG (.l ⟨[(false,0,DM),(false,3,aq)],[]⟩ .o) call185 func185 ax
def Mt:aA:=⟨177,[(.dat lR [])],aq,[],λs=>kA s⟩
theorem JH:Ko Mt:=
 aG .o call177 func177 (aw JN ax)
def PC:aA:=⟨176,[j2,(.fn 177 [] [])],kU,[],λs=>oI s⟩
theorem yP:Ko PC:=
 aG (.l ⟨[(true,5,kU),(false,13,aq)],[]⟩ .o) call176 func176 (aw JH ax)
def YY:aA:=⟨188,[j2],aq,[],λs=>Bs s⟩
theorem Sm:Ko YY:=
 aG (.l ⟨[(false,3,aq),(false,9,aq)],[]⟩ .o) call188 func188 (aw yP ax)
def VZ:aA:=⟨179,[j2],aq,[],λs=>rD s⟩
theorem CY:Ko VZ:=
 aG .o call179 func179 (aw Sm ax)
def ah8:aA:=⟨246,[aq],(.cU [(.dat A7 [some 547,some 7]),aq]),[],λs=>OM s⟩
theorem Z4:Ko ah8:=
 aG .o call246 func246 ax
def Mk:aA:=⟨240,[pZ,pN,J0],LB,[],U3 hZ⟩
theorem Il:Ko Mk:=
 aG (.c .o (.l ⟨[(true,4,(.bx 91 0 true [.same,.same,.same,.same,.same,.same,.same,.same,.same,.same,.same,.same,.same,.same,aq,(.sli ug),aq,aq,aY,aq,(.sli ug),aq,aq,aY,aq,(.sli ug),aq,aq,aY,.same,.same,.same,.same,.same,.same])),(true,6,(.bx 91 0 true [.same,.same,.same,.same,.same,.same,.same,.same,.same,.same,.same,.same,.same,.same,.same,.same,.same,.same,.same,.same,.same,.same,.same,.same,.same,.same,.same,.same,.same,.same,.same,.same,.same,.same,.same])),(false,18,aq)],[]⟩ .o)) call240 func240 (aw CY (aw Z4 ax))
def afF:aA:=⟨280,[aq,aq,DM],(.cU [(.dat It [some 11,some 11,some 11]),aq]),[],U3 El⟩
theorem Yp:Ko afF:=
 aG (.c .o (.l ⟨[(true,6,(.bx 89 0 true [.same,.same,.same,.same,.same,.same])),(true,8,(.bx 89 0 true [.same,.same,.same,jr,jr,jr])),(false,29,aq)],[]⟩ .o)) call280 func280 ax
def Mh:aA:=⟨274,[pZ,pN,J0],LB,[],U3 jQ⟩
theorem Hq:Ko Mh:=
 aG .o call274 func274 (aw Yp ax)
def adf:aA:=⟨23,[j2,J0],LB,[],U2 dv⟩
theorem V5:Ko adf:=
 aG (.r [] (.c .o (.r [3,40000] .o))) call23 func23 (aw CU (aw Ey (aw kC (aw HM (aw Gh (aw Gb (aw Il (aw Hq ax))))))))
def ac9:aA:=⟨63,[mB,aY,aY],(.fn 87 [] [Zg,(.bx 26 0 true [(.sli (.l .ex)),(.sli wV),aY,(.sli wV)]),Zg]),[],U3 Cm⟩
theorem Ja:Ko ac9:=
 aG .o call63 func63 ax
def aaY:aA:=⟨109,[.bool],aq,[],λs=>yr s⟩
theorem Vh:Ko aaY:=
 aG .o call109 func109 ax
def PT:aA:=⟨102,[w7,aY],aq,[],U2 rV⟩
def V8(s:Ex->Ex)(z:Sh->(R:Type)->Option R->Option R)(y:(Ex×Q1)->zd)(e:Ex)(q:Q1)(b:lq->zd):Int×Int×Int->zd:=λ⟨a,c,d⟩=> bif decide (d<(List.length (aV e.l 0 (min (List.length e.l:Int) 2)):Int)) then (idx (aV e.l 0 (min (List.length e.l:Int) 2)) d).bind λu=> (y ((s u),q)).bind λk=> bif d==0 then b (k,c,(i64.wrap (d+1))) else bif d==1 then b (a,k,(i64.wrap (d+1))) else none else ai (λ(j:Int×Int×Bool)=>FQ j.1 j.2.1 j.2.2) λp=> ai (λ(i:Int×Int×Bool)=>E4 i.1 i.2.1 i.2.2) λo=> ai (λ(h:Int×Int×Bool)=>Eg h.1 h.2.1 h.2.2) λg=> bif e.op==1 then some e.n else bif e.op==2 then ai (decide (e.n<0)) λAG=> ai (decide ((q.length:Int)<=e.n)) λw=> ai (AG||w) λv=> bif v then ( some 0) else ( (idx q e.n).bind λt=> some t) else bif e.op==3 then some (i64.wrap (a+c)) else bif e.op==5 then some (i64.wrap (a*c)) else bif e.op==6 then some (i64.wrap (0-a)) else bif e.op==4 then some (i64.wrap (a-c)) else bif e.op==8 then g (a,c,true) else ai (λ(x:Unit)=>FA e a c p o) λm=> ai (λ(r:Bool)=>Ej a c g m r) λf=> bif e.op==7 then f (e.op==7) else f (e.op==19)
def CD(a:Ex->Ex)(d:Sh->(R:Type)->Option R->Option R)(c:(Ex×Q1)->zd)(e:Ex)(b:Q1):zd:= aN (db 0 (min (List.length e.l:Int) 2) (List.length e.l))<| aj (V8 a d c e b) an (0,0,0)
def Qd:TK3->TK3:=λa s=>vZ a s.1 s.2
theorem Sj(a:TK3)(d:OK3 a):(yE (Qd a)).Ok X0.P X0.Γ:=
 eD (.l ⟨[(true,5,(.bx 215 0 true [aq,aq])),(false,19,aq)],[]⟩ (.c .o (.r [] (.s (.s (.s (.s (.s (.s (.s (.s (.j ⟨[(false,8,aq),(false,9,aq),(false,10,.bool)],[2]⟩ (.s (.j ⟨[(false,8,aq),(false,9,aq),(false,10,.bool)],[2]⟩ (.s (.j ⟨[(false,8,aq),(false,9,aq),(false,10,.bool)],[2]⟩ (.c .o (.c .o (.c .o (.c .o (.c .o (.c .o (.c .o (.j ⟨[],[]⟩ (.j ⟨[(false,50,.bool)],[]⟩ .o .o) .o)))))))) .o)) .o)) .o)))))))))))) call102 func102 (aw d (aw Vh ax)) ax ax λs=>(show _=CD lO eO a s.1 s.2 from by kernel_rfl).trans ((congrArg (λb=>CD b eO a s.1 s.2) ek).trans ((congrArg (λe=>CD id e a s.1 s.2) fU).trans (by kernel_rfl)))
theorem AX:Ko PT:=(show PT=yE (aj (Qd) an) by kernel_rfl)▸ot (X:=X0) (E:=yE) ⟨call102,λ_ _ h=>nomatch h⟩ (Sj) an
def YS:aA:=⟨101,[w7,abH],.bool,[],U2 Bu⟩
def CA(a:Ex->Ex)(c:Sh->(R:Type)->Option R->Option R)(e:Ex)(x:Q1):za:= (rV (a e) x).bind λb=> some (b != 1)
theorem Rt:Ko YS:=
 eD .o call101 func101 (aw AX ax) ax ax λs=>(show _=CA lO eO s.1 s.2 from by kernel_rfl).trans ((congrArg (λa=>CA a eO s.1 s.2) ek).trans ((congrArg (λb=>CA id b s.1 s.2) fU).trans (by kernel_rfl)))
def uz:aA:=⟨108,[(.sli .ex),(.fn 101 [] [abH])],aq,[],U2 ic⟩
def sP(e:Ex->Ex)(g:Sh->(R:Type)->Option R->Option R)(s:(List Ex))(c:Q1)(a:Int->zd)(b:Int):zd:= bif decide (b<(s.length:Int)) then (idx s b).bind λf=> (Bu (e f) c).bind λd=> bif d then ( some b) else ( a (i64.wrap (b+1))) else some (-1)
def gF(a:Ex->Ex)(b:Sh->(R:Type)->Option R->Option R)(s:(List Ex))(c:Q1):zd:= aj (sP a b s c) an 0
theorem sS:Ko uz:=
 eD (.l ⟨[(false,8,aq)],[]⟩ .o) call108 func108 (aw Rt ax) ax ax λs=>(show _=gF lO eO s.1 s.2 from by kernel_rfl).trans ((congrArg (λa=>gF a eO s.1 s.2) ek).trans ((congrArg (λb=>gF id b s.1 s.2) fU).trans (by kernel_rfl)))
def sO:aA:=⟨100,[(.sli .ex),(.fn 101 [] [abH])],.bool,[],U2 gb⟩
theorem rH:Ko sO:=
 aG .o call100 func100 (aw sS ax)
def agL:aA:=⟨88,[mB,aq,aY],.bool,[],U3 EE⟩
theorem LO:Ko agL:=
 aG .o call88 func88 (aw rH ax)
def Ht:aA:=⟨89,[aY],kU,[],λs=>bz s⟩
def Hv(s:Q1):Option Q1:= AQ s ( some []) ( aN (aH (List.length ([]:zl)+List.length s) 8)<| some (([]:zl)++s))
theorem dX:Ko Ht:=
 eD .o call89 func89 ax ax ax λs=>(show _=Hv s from by kernel_rfl).trans o9
def xQ:aA:=⟨103,[jr,aq,aq],jr,[],U3 j4⟩
theorem vD:Ko xQ:=
 aG (.s (.s (.j ⟨[(false,0,jr),(false,7,DM)],[]⟩ .o .o))) call103 func103 (aw akn ax)
def HF:aA:=⟨90,[jr,aq,aq],jr,[],U3 mz⟩
theorem Dg:Ko HF:=
 aG .o call90 func90 (aw vD ax)
def VS:aA:=⟨64,[abR,aY],iA,[(true,0,abR)],λs=>ux s.2.2 s.1 s.2.1⟩
theorem CR:Ko VS:=
 aG (.j ⟨[(true,0,(.bx 161 0 true [.same,(.mp .s .bo true)]))],[]⟩ .o (.l ⟨[(true,0,(.bx 161 0 true [.same,.same])),(false,4,jr),(false,18,aq)],[]⟩ (.c .o (.r [] (.c (.r [0] .o) .o))))) call64 func64 (aw Dg ax)
def adn:aA:=⟨39,[rQ,mB],uH,[],U2 Cn⟩
theorem ZW:(⟨87,Tryz.f87⟩:pO).Ok X0.P:=⟨call87,func87⟩
theorem VE:Ko adn:=
 eD (.c (.c (.l ⟨[(false,9,aq),(true,10005,abR)],[]⟩ (.c (.n 4 (.c .o .o)) .o)) .o) (.r [70000,5] .o)) call39 func39 (aw Ja (aw LO (aw dX (aw CR ax)))) ax (aw ZW ax) λ_=>by kernel_rfl
def PL:aA:=⟨104,[(.dat lR []),aq],.bool,[],U2 lx⟩
theorem Ad:Ko PL:=
 aG .o call104 func104 ax
def Qk:aA:=⟨91,[j2,aY],aq,[],U2 fL⟩
theorem iV:Ko Qk:=
 aG (.c .o (.l ⟨[(false,14,aq)],[]⟩ .o)) call91 func91 (aw Ad ax)
def ahk:aA:=⟨92,[pN],.ifn,[],λs=>dL s⟩
theorem CL:Ko ahk:=
 aG (.r [1] .o) call92 func92 (aw Ey ax)
def Yn:aA:=⟨181,[eP],jr,[],λs=>wj s⟩
def Ys(b:Q1):Option Q1:= AQ b ( some []) ( aN (aH (List.length ([]:zl)+List.length b) 1)<| some (([]:zl)++b))
theorem Fy:Ko Yn:=
 eD .o call181 func181 ax ax ax λs=>(show _=Ys s from by kernel_rfl).trans o9
def aiR:aA:=⟨186,[(.dat wS [none])],ahV,[],λs=>WO s⟩
theorem ZC:Ko aiR:=
 aG .o call186 func186 (aw Fy ax)
def V2:aA:=⟨187,[ahV,.bool],iA,[(true,0,ahV)],λs=>yB s.2.2 s.1 s.2.1⟩
theorem Pq:Ko V2:=
 aG (.j ⟨[(true,0,(.bx 317 0 true [jr,.same]))],[]⟩ .o (.j ⟨[(true,0,(.bx 317 0 true [jr,.same]))],[]⟩ (.c (.r [0] .o) .o) .o)) call187 func187 ax
def agH:aA:=⟨178,[(.dat wS [none]),DM,aq],(.cU [(.dat wS [none]),aq]),[],U3 J9⟩
theorem YZ:Ko agH:=
 aG (.c .o (.c .o (.l ⟨[(true,6,(.bx 296 0 true [.same,.same])),(true,8,ahV),(false,9,aq)],[]⟩ (.c (.r [8] .o) .o)))) call178 func178 (aw JN (aw ZC (aw Pq ax)))
def G4:aA:=⟨169,[j2,aY],(.cU [jr,aq]),[],U2 lP⟩
theorem uI:Ko G4:=
 aG (.c .o (.l ⟨[(true,7,(.bx 296 0 true [eP,aq])),(false,20,aq)],[]⟩ (.c (.r [7] .o) .o))) call169 func169 (aw iV (aw yP (aw YZ (aw CY ax))))
def acW:aA:=⟨163,[pN,aY],eP,[],U2 eS⟩
theorem fD:Ko acW:=
 aG .o call163 func163 (aw uI ax)
def Y4:aA:=⟨192,[Sf],iA,[(true,0,Sf)],λs=>P0 s⟩
theorem Rg:Ko Y4:=
 aG .o call192 func192 ax
def YW:aA:=⟨193,[Sf],iA,[(true,0,Sf)],λs=>Qq s⟩
theorem Ri:Ko YW:=
 aG .o call193 func193 ax
def Yo:aA:=⟨194,[Sf],iA,[(true,0,Sf)],λs=>Qv s⟩
theorem R3:Ko Yo:=
 aG .o call194 func194 ax
def af5:aA:=⟨190,[eP,DM],DM,[],U2 Ei⟩
theorem Ct:Ko af5:=
 aG (.l ⟨[(true,5,Sf),(false,15,aq)],[]⟩ (.c .o (.n 50 .o))) call190 func190 (aw Rg (aw Ri (aw R3 ax)))
def ada:aA:=⟨189,[DM,aq],aq,[],U2 xP⟩
theorem A0:Ko ada:=
 aG .o call189 func189 ax
def YQ:aA:=⟨191,[eP,eP],.bool,[],U2 we⟩
theorem ER:Ko YQ:=
 aG .o call191 func191 ax
def Pw:aA:=⟨183,[Hs,eP],aq,[],U2 fR⟩
theorem yl:Ko Pw:=
 aG (.n 0 (.j ⟨[(false,5,aq)],[]⟩ .o .o)) call183 func183 (aw Ct (aw A0 (aw ER ax)))
def PH:aA:=⟨184,[Hs,eP],RF,[],U2 yb⟩
theorem Kh:Ko PH:=
 aG .o call184 func184 (aw yl ax)
def abf:aA:=⟨175,[Hs,eP],RF,[],U2 dP⟩
theorem oE:Ko abf:=
 aG .o call175 func175 (aw Kh ax)
def KJ:aA:=⟨183,[(.dat gR [some 148,some 6]),eP],aq,[],U2 pb⟩
theorem F8:Ko KJ:=
 aG (.n 0 (.j ⟨[(false,5,aq)],[]⟩ .o .o)) call183 func183 (aw Ct (aw A0 (aw ER ax)))
def No:aA:=⟨182,[(.bx 306 0 true [aq,(.own mg 74 true),aY]),aq],iA,[(true,0,(.bx 306 0 true [.same,(.own mg 74 true),aY]))],λs=>sq s.2.2.2 s.1 s.2.1 s.2.2.1⟩
theorem IE:Ko No:=
 aG (.l ⟨[(true,0,(.bx 306 0 true [.same,(.own mg 74 true),kU])),(false,18,(.slr 1)),(false,20,aq)],[]⟩ (.c (.r [0] .o) .o)) call182 func182 (aw F8 ax)
def IU:aA:=⟨170,[Hs,eP],(.cU [Hs,aq,.bool,aq]),[],U2 cm⟩
theorem vB:Ko IU:=
 aG (.c .o (.c .o (.s (.s (.j ⟨[(true,11,(.bx 306 0 true [.same,(.own mg 74 true),aY]))],[2]⟩ (.c .o (.r [11] .o)) .o))))) call170 func170 (aw oE (aw Fy (aw IE (aw dX (aw yl ax)))))
def Yq:aA:=⟨164,[Ss,eP],(.cU [Ss,.bool,aq]),[],U2 BD⟩
theorem Se:Ko Yq:=
 aG (.c .o (.r [4,40000] .o)) call164 func164 (aw vB ax)
def Kn:aA:=⟨157,[pZ,pN,aY],W2,[],U3 lg⟩
theorem Gd:Ko Kn:=
 aG (.r [40000] .o) call157 func157 (aw fD (aw Se ax))
def L0:aA:=⟨209,[j2,aY],(.fn 212 [] [(.bx 32 0 true [j2]),Zg]),[],U2 wx⟩
theorem FC:Ko L0:=
 aG .o call209 func209 ax
def LJ:aA:=⟨210,[jr,aY],jr,[],U2 wh⟩
theorem Eh:Ko LJ:=
 aG (.l ⟨[(false,0,jr),(false,10,aq)],[]⟩ (.c (.l ⟨[(false,0,jr),(false,14,aq)],[]⟩ .o) .o)) call210 func210 ax
def P9:aA:=⟨206,[Om,j2,aY],aq,[],U3 uq⟩
theorem Xh:(⟨212,Tryz.f212⟩:pO).Ok X0.P:=⟨call212,func212⟩
theorem Jn:Ko P9:=
 eD (.c (.c (.l ⟨[(false,4,aq),(true,10006,(.bx 3 0 true [aq])),(true,10007,(.bx 74 0 true [jr]))],[]⟩ .o) .o) (.r [70000,6,7] .o)) call206 func206 (aw FC (aw uI (aw oE (aw Eh ax)))) ax (aw Xh ax) λ_=>by kernel_rfl
def ZX:aA:=⟨211,[Hs],aq,[],λs=>yM s⟩
theorem GZ:Ko ZX:=
 aG .o call211 func211 ax
def PU:aA:=⟨207,[Om],aq,[],λs=>Cc s⟩
theorem Vy:Ko PU:=
 aG .o call207 func207 (aw GZ ax)
def lY:aA:=⟨208,[(.sli gR)],(.own gR 73 true),[],λs=>dF s⟩
def vC(s:(List Q6)):Option (List Q6):= AQ s ( some []) ( aN (aH (List.length ([]:List Q6)+List.length s) 56)<| some (([]:List Q6)++s))
theorem tP:Ko lY:=
 eD .o call208 func208 ax ax ax λs=>(show _=vC s from by kernel_rfl).trans o9
def CJ:aA:=⟨203,[Om,j2,aY],(.cU [Om,.bool,aq]),[],U3 BC⟩
def QP(n:Nat)(c:Aw)(o:Q4)(b:(Q4×Q1))(e:(Int×(List Q6)×Q1)->Option Q54):Int×(List Q6)×Q1->Option Q54:=λ⟨a,d,j⟩=> bif decide ((i64.wrap (a*2))<(b.1.length:Int)) then aN (db (i64.wrap (a*2)) (min (b.1.length:Int) (i64.wrap ((i64.wrap (a+1))*2))) (List.length b.1))<| aN (db (i64.wrap (a*2)) (min (b.1.length:Int) (i64.wrap ((i64.wrap (a+1))*2))) (List.length b.2))<| (lP (aV b.1 (i64.wrap (a*2)) (min (b.1.length:Int) (i64.wrap ((i64.wrap (a+1))*2)))) (aV b.2 (i64.wrap (a*2)) (min (b.1.length:Int) (i64.wrap ((i64.wrap (a+1))*2))))).bind λk=> (idx d a).bind λl=> (cm l k.1).bind λf=> (wh j ([f.2.1]:zl)).bind λg=> (idx d a).bind λm=> bif !true then (cm c.2.1 g).bind λi=> aN (kR 0 (c.2.2.length:Int) (c.2.2.length:Int) (List.length c.2.2)&&((c.2.2.length:Int)==(c.2.2.length:Int)))<| aN (aH (List.length (aV c.2.2 0 (c.2.2.length:Int))+List.length ([0]:zl)) 1)<| some (((List.set d (Int.toNat a) f.1),i.1,((aV c.2.2 0 (c.2.2.length:Int))++([0]:zl))),true,0) else e ((i64.wrap (a+1)),(List.set d (Int.toNat a) f.1),g) else (cm c.2.1 j).bind λh=> aN (kR 0 (c.2.2.length:Int) (c.2.2.length:Int) (List.length c.2.2)&&((c.2.2.length:Int)==(c.2.2.length:Int)))<| aN (aH (List.length (aV c.2.2 0 (c.2.2.length:Int))+List.length ([0]:zl)) 1)<| some ((d,h.1,((aV c.2.2 0 (c.2.2.length:Int))++([0]:zl))),true,0)
def YB(fl:Nat)(c:Aw)(s:Q4)(a:Q1):Option Q54:= (fL s a).bind λb=> bif b != 0 then some (c,false,b) else (uq c s a).bind λg=> bif decide (0<=g) then some (c,false,0) else (Cc c).bind λf=> bif decide (c.2.1.1<=f) then some (c,false,7) else (dF c.1).bind λe=> (wx s a).bind λd=> aj (QP fl c s d) fl (0,e,[])
theorem PE(fl:Nat)(s:fS (sG CJ.ps)):acE { X0 with fl:=fl } [Qk,P9,PU,lY,L0,G4,IU,LJ] [] [⟨212,Tryz.f212⟩] (.c .o (.c .o (.r [] (.c .o (.c (.c (.l ⟨[(false,4,aq),(true,10003,agc),(true,10006,af6),(true,10010,(.bx 74 0 true [jr]))],[]⟩ .o) (.r [10,3] .o)) (.r [70000,3,6,10] .o)))))) Tryz.f203 CJ s=YB fl s.1 s.2.1 s.2.2:=by kernel_rfl
theorem R7:Ko CJ:=
 eD (.c .o (.c .o (.r [] (.c .o (.c (.c (.l ⟨[(false,4,aq),(true,10003,agc),(true,10006,af6),(true,10010,(.bx 74 0 true [jr]))],[]⟩ .o) (.r [10,3] .o)) (.r [70000,3,6,10] .o)))))) call203 func203 (aw iV (aw Jn (aw Vy (aw tP (aw FC (aw uI (aw vB (aw Eh ax)))))))) ax (aw Xh ax) λs=>(PE an s).trans (by kernel_rfl)
def JG:aA:=⟨197,[pZ,pN,aY],W2,[],U3 km⟩
theorem FX:Ko JG:=
 aG .o call197 func197 (aw R7 ax)
def V9:aA:=⟨231,[j2,aY],(.own (.i .u32) 237 true),[],U2 yR⟩
theorem CW:Ko V9:=
 aG (.l ⟨[(false,5,(.own (.i .u32) 237 true)),(false,10,aq)],[]⟩ .o) call231 func231 ax
def afv:aA:=⟨238,[s9,s9],(.dat W3 []),[],U2 Kv⟩
theorem LU:Ko afv:=
 aG (.l ⟨[(true,4,(.bx 365 0 true [.same,.same,.same,.same,.same,.same,.same,.same])),(true,5,(.bx 365 0 true [nY,nY,nY,nY,nY,nY,nY,nY])),(false,7,aq)],[]⟩ (.c (.r [5] .o) .o)) call238 func238 ax
def QD:aA:=⟨239,[(.dat W3 [])],eP,[],λs=>uT s⟩
theorem Aq:Ko QD:=
 aG .o call239 func239 ax
def ack:aA:=⟨237,[Hs,s9,s9],RF,[],U3 C5⟩
theorem Vm:Ko ack:=
 aG .o call237 func237 (aw LU (aw Aq (aw oE ax)))
def QV:bY:=⟨233,[agz,aq,s9,s9],NP,none,false,false,s9,[],λs=>rq s.2.1 s.2.2.1 s.2.2.2 s.1⟩
theorem Ar:LV QV:=
 ago .o call233 func233 (aw Vm ax)
def EA:bY:=⟨236,[agz,aq,WG],NP,none,false,false,s9,[],λs=>u4 s.2.1 s.2.2 s.1⟩
def Ec:TK4->TK4:=λa s=>mV a s.1 s.2.1 s.2.2
theorem IT(a:TK4)(b:OK4 a):(pV (Ec a)).Ok X0.P X0.Γ:=
 M1 (.c .o (.r [0] .o)) call236 func236 (aw A6 ax) (aw b (aw Ar ax)) ax λ_=>by kernel_rfl
theorem Mb:LV EA:=(show EA=pV (aj (Ec) an) by kernel_rfl)▸aa9 (X:=X0) (E:=pV) ⟨call236,λ_ _ h=>nomatch h⟩ (IT) an
def Pv:bY:=⟨230,[agz,WG],NP,none,false,false,s9,[],λs=>oU s.2 s.1⟩
theorem Lq:LV Pv:=
 M1 (.c (.r [0] .o) .o) call230 func230 ax (aw Ar (aw Mb ax)) ax λ_=>by kernel_rfl
def acX:aA:=⟨226,[Ng,j2,aY],RF,[],U3 xC⟩
theorem aiE:(⟨232,Tryz.f232⟩:pO).Ok X0.P:=⟨call232,func232⟩
theorem Js:Ko acX:=
 eD .o call226 func226 (aw CW ax) (aw Lq ax) (aw aiE ax) λ_=>by kernel_rfl
def abS:aA:=⟨234,[Hs],aq,[],λs=>Kc s⟩
theorem UY:Ko abS:=
 aG .o call234 func234 (aw GZ ax)
def ady:aA:=⟨227,[Ng],aq,[],λs=>GU s⟩
theorem Wr:Ko ady:=
 aG .o call227 func227 (aw UY ax)
def vI:aA:=⟨228,[(.sli gR)],(.own gR 270 true),[],λs=>fe s⟩
def vJ(s:(List Q6)):Option (List Q6):= AQ s ( some []) ( aN (aH (List.length ([]:List Q6)+List.length s) 56)<| some (([]:List Q6)++s))
theorem tQ:Ko vI:=
 eD .o call228 func228 ax ax ax λs=>(show _=vJ s from by kernel_rfl).trans o9
def WR:aA:=⟨235,[Hs,s9,s9],(.cU [Hs,aq,.bool,aq]),[],U3 yK⟩
theorem PJ:Ko WR:=
 aG (.r [40000] .o) call235 func235 (aw LU (aw Aq (aw vB ax)))
def NV:aA:=⟨229,[ag6,aq,s9,s9],s9,[(true,0,ahz)],λs=>ng s.2.1 s.2.2.1 s.2.2.2 s.1⟩
theorem xq:Ko NV:=
 aG (.r [0] .o) call229 func229 (aw PJ ax)
def AB:aA:=⟨236,[ag6,aq,WG],s9,[(true,0,ahz)],λs=>vO s.2.1 s.2.2 s.1⟩
def As:TK5->TK5:=λa s=>kf a s.1 s.2.1 s.2.2
theorem ED(a:TK5)(b:OK5 a):(mb (As a)).Ok X0.P X0.Γ:=
 aG (.c .o (.r [0] .o)) call236 func236 (aw b (aw A6 (aw xq ax)))
theorem H6:Ko AB:=(show AB=mb (aj (As) an) by kernel_rfl)▸ot (X:=X0) (E:=mb) ⟨call236,λ_ _ h=>nomatch h⟩ (ED) an
def J7:aA:=⟨230,[ag6,WG],s9,[(true,0,ahz)],λs=>oW s.2 s.1⟩
theorem F5:Ko J7:=
 aG (.c (.r [0] .o) .o) call230 func230 (aw xq (aw H6 ax))
def YP:aA:=⟨221,[Ng,j2,aY],(.cU [Ng,.bool,aq]),[],U3 BI⟩
theorem QQ:Ko YP:=
 aG (.c .o (.c .o (.r [] (.c .o (.r [6,40000] .o))))) call221 func221 (aw iV (aw Js (aw Wr (aw tQ (aw CW (aw F5 ax))))))
def Jf:aA:=⟨215,[pZ,pN,aY],W2,[],U3 ki⟩
theorem FD:Ko Jf:=
 aG .o call215 func215 (aw QQ ax)
def RJ:aA:=⟨263,[nY],.bool,[],λs=>uY s⟩
theorem Ml:Ko RJ:=
 aG .o call263 func263 ax
def N9:aA:=⟨257,[nY,nY],aq,[],U2 nj⟩
theorem xw:Ko N9:=
 aG .o call257 func257 (aw Ml ax)
def adL:aA:=⟨256,[(.dat og []),nY],aq,[],U2 Cf⟩
theorem VP:Ko adL:=
 aG .o call256 func256 (aw xw ax)
def nr:aA:=⟨255,[(.sli og),nY,(.fn 256 [] [])],RF,[],U2 bE⟩
theorem fH:Ko nr:=
 aG (.l ⟨[(false,9,aq),(false,10,aq)],[]⟩ .o) call255 func255 (aw VP ax)
def anQ:aA:=⟨251,[aaV,aq,nY],aq,[],U3 Cb⟩
theorem adA:Ko anQ:=
 aG .o call251 func251 (aw fH ax)
def aj1:aA:=⟨248,[aaV,eP],.bool,[],U2 rE⟩
theorem yQ:Ko aj1:=
 aG (.l ⟨[(false,5,aq),(false,12,aq)],[]⟩ .o) call248 func248 (aw adA ax)
def ag9:aA:=⟨249,[aaV],aq,[],λs=>Lr s⟩
theorem Yw:Ko ag9:=
 aG .o call249 func249 ax
def xi:aA:=⟨252,[(.sli ug)],(.own ug 273 true),[],λs=>dT s⟩
def wW(s:cF):Option cF:= AQ s ( some []) ( aN (aH (List.length ([]:List (Q4×Int))+List.length s) 32)<| some (([]:List (Q4×Int))++s))
theorem u6:Ko xi:=
 eD .o call252 func252 ax ax ax λs=>(show _=wW s from by kernel_rfl).trans o9
def xf:aA:=⟨269,[(.sli og),(.sli og)],.bool,[],U2 ga⟩
theorem vf:Ko xf:=
 aG (.c .o (.l ⟨[(false,13,aq)],[]⟩ .o)) call269 func269 ax
def S1:aA:=⟨264,[(.bx 379 0 false [aq,(.own ug 273 false),aq,aq,Ul,(.mp bf .bo false)]),(.sli og)],RF,[],λs=>Cy s.2.2.2.2.2.2 s.1 s.2.1 s.2.2.1 s.2.2.2.1 s.2.2.2.2.1 s.2.2.2.2.2.1⟩
theorem Nf:Ko S1:=
 aG (.l ⟨[(false,14,aq)],[]⟩ .o) call264 func264 (aw vf ax)
def J8:aA:=⟨296,[Ul],aq,[],λs=>kW s⟩
theorem vr:Ko J8:=
 aG .o call296 func296 ax
def Jt:aA:=⟨298,[kU,aq,aq],iA,[(true,0,kU)],U3 im⟩
theorem mZ:Ko Jt:=
 aG (.r [0] .o) call298 func298 ax
def IA:aA:=⟨297,[Ul,aq,aq],.bool,[],U3 ir⟩
theorem tT:Ko IA:=
 aG .o call297 func297 ax
def JE:aA:=⟨272,[HU,aq,aq],.bool,[(true,0,HU)],λs=>ta s.2.1 s.2.2 s.1⟩
theorem Fc:Ko JE:=
 aG (.l ⟨[(true,0,HU),(false,7,aq)],[]⟩ (.c .o (.s (.j ⟨[(false,9,aq)],[]⟩ .o .o)))) call272 func272 (aw tT (aw mZ ax))
def PR:aA:=⟨299,[ahK],NP,[(true,0,ahK)],λs=>yx s⟩
theorem KO:Ko PR:=
 aG .o call299 func299 ax
def Kp:aA:=⟨270,[HU],NP,[(true,0,HU)],λs=>pd s⟩
theorem Gi:Ko Kp:=
 aG .o call270 func270 (aw vr (aw mZ (aw Fc (aw KO ax))))
def Rp:aA:=⟨265,[akL],aq,[(true,0,aau)],U6 vd⟩
theorem Mc:Ko Rp:=
 aG .o call265 func265 (aw Gi ax)
def UN:aA:=⟨258,[ak9,(.sli og)],aq,[(true,0,al8)],λs=>sN s.2.2.2.2.2.2 s.1 s.2.1 s.2.2.1 s.2.2.2.1 s.2.2.2.2.1 s.2.2.2.2.2.1⟩
theorem NT:Ko UN:=
 aG (.c .o (.l ⟨[(true,0,(.bx 379 0 true [.same,(.own ug 273 true),.same,.same,.same,.same])),(false,35,aq)],[]⟩ (.c (.r [0] .o) .o))) call258 func258 (aw Nf (aw Mc ax))
def adk:aA:=⟨251,[(.dat A7 [some 546,some 6]),aq,nY],aq,[],U3 M8⟩
theorem Vz:Ko adk:=
 aG .o call251 func251 (aw fH ax)
def Pu:aA:=⟨260,[(.dat og []),nY],aq,[],U2 y5⟩
theorem KW:Ko Pu:=
 aG .o call260 func260 (aw xw ax)
def lU:aA:=⟨255,[(.own og 384 false),nY,(.fn 260 [] [])],RF,[],U2 cu⟩
theorem kV:Ko lU:=
 aG (.l ⟨[(false,9,aq),(false,10,aq)],[]⟩ .o) call255 func255 (aw KW ax)
def wY:aA:=⟨259,[(.sli og)],(.own og 384 true),[],λs=>fY s⟩
def xg(s:Q4):Option Q4:= AQ s ( some []) ( aN (aH (List.length ([]:List jE)+List.length s) 16)<| some (([]:List jE)++s))
theorem vh:Ko wY:=
 eD .o call259 func259 ax ax ax λs=>(show _=xg s from by kernel_rfl).trans o9
def Jx:aA:=⟨253,[ak9,aq,eP],aq,[(true,0,al8)],λs=>y9 s.2.2.2.2.2.2.1 s.2.2.2.2.2.2.2 s.1 s.2.1 s.2.2.1 s.2.2.2.1 s.2.2.2.2.1 s.2.2.2.2.2.1⟩
def IN:TK6->TK6:=λa s=>mQ a s.1 s.2.1 s.2.2.1 s.2.2.2.1 s.2.2.2.2.1 s.2.2.2.2.2.1 s.2.2.2.2.2.2.1 s.2.2.2.2.2.2.2
theorem Mo(a:TK6)(b:OK6 a):(tB (IN a)).Ok X0.P X0.Γ:=
 aG (.c .o (.s (.j ⟨[(false,7,(.own og 384 true))],[]⟩ .o (.r [0,40000] (.s (.j ⟨[(false,7,(.own og 384 true))],[8]⟩ .o .o)))))) call253 func253 (aw NT (aw Vz (aw b (aw kV (aw ads (aw vh ax))))))
theorem Py:Ko Jx:=(show Jx=tB (aj (IN) an) by kernel_rfl)▸ot (X:=X0) (E:=tB) ⟨call253,λ_ _ h=>nomatch h⟩ (Mo) an
def Og:aA:=⟨300,[ahK,NP],iA,[(true,0,ahK)],λs=>wJ s.2 s.1⟩
theorem Jj:Ko Og:=
 aG (.r [0] .o) call300 func300 ax
def Io:aA:=⟨268,[HU,aq],iA,[(true,0,HU)],λs=>sD s.2 s.1⟩
theorem C7:Ko Io:=
 aG (.l ⟨[(true,0,HU),(false,1,aq)],[]⟩ .o) call268 func268 (aw tT (aw mZ ax))
def IQ:aA:=⟨262,[HU,NP],iA,[(true,0,HU)],λs=>nO s.2 s.1⟩
theorem Em:Ko IQ:=
 aG .o call262 func262 (aw Jj (aw vr (aw C7 ax)))
def EF:aA:=⟨254,[akL,aq],iA,[(true,0,aau)],λs=>ve s.2.2.2.2.2.2 s.1 s.2.1 s.2.2.1 s.2.2.2.1 s.2.2.2.2.1 s.2.2.2.2.2.1⟩
def Fo:TK7->TK7:=λa s=>ss a s.1 s.2.1 s.2.2.1 s.2.2.2.1 s.2.2.2.2.1 s.2.2.2.2.2.1 s.2.2.2.2.2.2
theorem Jz(a:TK7)(b:OK7 a):(pT (Fo a)).Ok X0.P X0.Γ:=
 aG (.c .o (.l ⟨[(true,0,aau),(false,42,aq)],[]⟩ .o)) call254 func254 (aw b (aw Em ax))
theorem Md:Ko EF:=(show EF=pT (aj (Fo) an) by kernel_rfl)▸ot (X:=X0) (E:=pT) ⟨call254,λ_ _ h=>nomatch h⟩ (Jz) an
def aaI:aA:=⟨250,[aaV,eP],(.cU [aaV,.bool,aq]),[],U2 fT⟩
theorem GV:Ko aaI:=
 aG (.c .o (.c .o (.r [7] (.r [7] (.j ⟨[(true,7,aau)],[]⟩ .o .o))))) call250 func250 (aw yQ (aw u6 (aw dX (aw Py (aw Md ax)))))
def Kz:aA:=⟨242,[pZ,pN,aY],W2,[],U3 kZ⟩
theorem Gk:Ko Kz:=
 aG .o call242 func242 (aw fD (aw yQ (aw Yw (aw GV ax))))
def abC:aA:=⟨291,[eP,DM,aq,aq],kU,[],U4 o6⟩
theorem oZ:Ko abC:=
 aG (.l ⟨[(false,9,kU),(false,13,aq)],[]⟩ .o) call291 func291 (aw Ct (aw A0 ax))
def ac8:aA:=⟨288,[yU,eP,(.nU (.int .i64 0)),WB],iA,[(true,3,WB)],U3 N5⟩
theorem V6:Ko ac8:=
 aG (.l ⟨[(true,3,WB),(false,19,aq)],[]⟩ (.c (.r [3] .o) .o)) call288 func288 (aw oZ ax)
def af7:aA:=⟨285,[yU,eP,(.nU (.int .i64 0))],.bool,[],U2 RC⟩
theorem Yv:Ko af7:=
 aG .o call285 func285 (aw V6 ax)
def YH:aA:=⟨286,[yU,eP],.bool,[],U2 wa⟩
theorem EZ:Ko YH:=
 aG .o call286 func286 (aw Yv ax)
def EP:aA:=⟨173,[eP],jr,[],λs=>cz s⟩
def EJ(s:Q1):Option Q1:= AQ s ( some []) ( aN (aH (List.length ([]:zl)+List.length s) 1)<| some (([]:zl)++s))
theorem eW:Ko EP:=
 eD .o call173 func173 ax ax ax λs=>(show _=EJ s from by kernel_rfl).trans o9
def VG:aA:=⟨288,[(.dat It [some 11,none,none]),eP,(.nU (.int .i64 0)),(.fn 290 [] [])],iA,[(true,0,(.agg [.same,.same,.same,jr,.same,.same]))],U2 Ah⟩
theorem CQ:Ko VG:=
 aG (.l ⟨[(true,0,(.agg [.same,.same,.same,jr,.same,.same])),(false,19,aq)],[]⟩ (.c (.r [4,0] .o) .o)) call288 func288 (aw oZ ax)
def agA:aA:=⟨287,[yU,eP,(.nU (.int .i64 0))],(.dat It [some 11,none,none]),[],U2 Ro⟩
theorem YN:Ko agA:=
 aG .o call287 func287 (aw eW (aw CQ ax))
def Y5:aA:=⟨282,[yU,eP],(.cU [yU,.bool]),[],U2 Bt⟩
theorem QX:Ko Y5:=
 aG .o call282 func282 (aw EZ (aw YN ax))
def J1:aA:=⟨276,[pZ,pN,aY],W2,[],U3 kX⟩
theorem Gl:Ko J1:=
 aG (.r [40000] .o) call276 func276 (aw fD (aw QX ax))
def V1:aA:=⟨65,[pN,aY],W2,[],U2 dC⟩
theorem PF:Ko V1:=
 aG (.c .o (.r [2,4] .o)) call65 func65 (aw iV (aw CL (aw Gd (aw FX (aw FD (aw Gk (aw Gl ax)))))))
def L9:bY:=⟨40,[Wu,aY],RG,none,false,false,.bool,[(true,0,Ke)],λs=>jT (d8 (d8 (d8 (d8 (d8 s))))).2.2.2.2.2 s.1 s.2.1 s.2.2.1 s.2.2.2.1 s.2.2.2.2.1 s.2.2.2.2.2.1 s.2.2.2.2.2.2.1 s.2.2.2.2.2.2.2.1 s.2.2.2.2.2.2.2.2.1 (d8 s).2.1 (d8 s).2.2.1 (d8 s).2.2.2.1 (d8 s).2.2.2.2.1 (d8 s).2.2.2.2.2.1 (d8 s).2.2.2.2.2.2.1 (d8 s).2.2.2.2.2.2.2.1 (d8 (d8 s)).1 (d8 (d8 s)).2.1 (d8 (d8 s)).2.2.1 (d8 (d8 s)).2.2.2.1 (d8 (d8 s)).2.2.2.2.1 (d8 (d8 s)).2.2.2.2.2.1 (d8 (d8 s)).2.2.2.2.2.2.1 (d8 (d8 s)).2.2.2.2.2.2.2.1 (d8 (d8 (d8 s))).1 (d8 (d8 (d8 s))).2.1 (d8 (d8 (d8 s))).2.2.1 (d8 (d8 (d8 s))).2.2.2.1 (d8 (d8 (d8 s))).2.2.2.2.1 (d8 (d8 (d8 s))).2.2.2.2.2.1 (d8 (d8 (d8 s))).2.2.2.2.2.2.1 (d8 (d8 (d8 s))).2.2.2.2.2.2.2.1 (d8 (d8 (d8 (d8 s)))).1 (d8 (d8 (d8 (d8 s)))).2.1 (d8 (d8 (d8 (d8 s)))).2.2.1 (d8 (d8 (d8 (d8 s)))).2.2.2.1 (d8 (d8 (d8 (d8 s)))).2.2.2.2.1 (d8 (d8 (d8 (d8 s)))).2.2.2.2.2.1 (d8 (d8 (d8 (d8 s)))).2.2.2.2.2.2.1 (d8 (d8 (d8 (d8 s)))).2.2.2.2.2.2.2.1 (d8 (d8 (d8 (d8 (d8 s))))).1 (d8 (d8 (d8 (d8 (d8 s))))).2.1 (d8 (d8 (d8 (d8 (d8 s))))).2.2.1 (d8 (d8 (d8 (d8 (d8 s))))).2.2.2.1 (d8 (d8 (d8 (d8 (d8 s))))).2.2.2.2.1⟩
theorem pw:LV L9:=
 ago (.s (.s (.j ⟨[],[]⟩ .o .o))) call40 func40 (aw PF ax)
def ZY:aA:=⟨94,[aY],(.cU [aY,aq]),[],λs=>yk s⟩
theorem Gz:Ko ZY:=
 aG .o call94 func94 ax
def ZM:aA:=⟨111,[rQ,aY],(.fn 121 [] [(.bx 35 0 true [(.sli .s),j2,aY,(.sli .s),(.sli Cs)]),Zg]),[],U2 K0⟩
theorem UR:Ko ZM:=
 aG .o call111 func111 ax
def WN:aA:=⟨122,[rQ,aY],kU,[],U2 Ed⟩
def PO(f:Ex->Ex)(h:Sh->(R:Type)->Option R->Option R)(m:il)(d:Q1)(a:fK->Option Q1):Q1×Int->Option Q1:=λ⟨b,c⟩=> bif decide (c<(m.2.2.2.2.length:Int)) then (idx m.2.2.2.2 c).bind λg=> (rV (f g.2.1) d).bind λe=> bif e==1 then aN (aH (List.length b+List.length ([c]:zl)) 8)<| a ((b++([c]:zl)),(i64.wrap (c+1))) else a (b,(i64.wrap (c+1))) else some b
def Bj(b:Ex->Ex)(c:Sh->(R:Type)->Option R->Option R)(m:il)(a:Q1):Option Q1:= aj (PO b c m a) an ([],0)
theorem Px:Ko WN:=
 eD (.l ⟨[(false,5,kU),(false,11,aq)],[]⟩ .o) call122 func122 (aw AX ax) ax ax λs=>(show _=Bj lO eO s.1 s.2 from by kernel_rfl).trans ((congrArg (λa=>Bj a eO s.1 s.2) ek).trans ((congrArg (λb=>Bj id b s.1 s.2) fU).trans (by kernel_rfl)))
def Wh:aA:=⟨91,[j2,Ul],aq,[],U2 uO⟩
theorem PQ:Ko Wh:=
 aG (.c .o (.l ⟨[(false,14,aq)],[]⟩ .o)) call91 func91 (aw Ad ax)
def ac3:aA:=⟨123,[rQ,aY,aq],(.cU [kU,aq]),[],U3 Hd⟩
def Wl(i:Ex->Ex)(k:Sh->(R:Type)->Option R->Option R)(m:il)(f:Q1)(e:Q55)(a:fK->Option fK):Q1×Int->Option fK:=λ⟨b,c⟩=> bif decide (c<(e.2.2.length:Int)) then (idx e.2.2 c).bind λd=> (rV (i d.2) f).bind λh=> (idx b d.1).bind λj=> a ((List.set b (Int.toNat d.1) h),(i64.wrap (c+1))) else (uO m.2.1 b).bind λg=> bif g != 0 then some ([],6) else some (b,0)
def Ih(c:Ex->Ex)(g:Sh->(R:Type)->Option R->Option R)(m:il)(a:Q1)(k:Int):Option fK:= ai (decide (k<0)) λh=> ai (decide ((m.2.2.2.2.length:Int)<=k)) λf=> ai (h||f) λe=> bif e then ( some ([],10)) else ( (bz a).bind λb=> (idx m.2.2.2.2 k).bind λd=> aj (Wl c g m a d) an (b,0))
theorem WE:Ko ac3:=
 eD (.c .o (.l ⟨[(true,8,kU),(false,29,aq)],[]⟩ (.c (.r [8] .o) .o))) call123 func123 (aw dX (aw AX (aw PQ ax))) ax ax λs=>(show _=Ih lO eO s.1 s.2.1 s.2.2 from by kernel_rfl).trans ((congrArg (λa=>Ih a eO s.1 s.2.1 s.2.2) ek).trans ((congrArg (λb=>Ih id b s.1 s.2.1 s.2.2) fU).trans (by kernel_rfl)))
def BR:aA:=⟨136,[(.bx 243 0 true [.sfp,(.own aW 5 false)])],iA,[(true,0,(.bx 243 0 true [.sfp,.same]))],U2 jg⟩
theorem oS:Ko BR:=
 aG .o call136 func136 ax
def Am:aA:=⟨130,[VL,.str],(.cU [aq,(.nU (.raw .nilIface))]),[(true,0,VL)],λs=>ie s.2.2 s.1 s.2.1⟩
theorem wX:Ko Am:=
 aG .o call130 func130 (aw oS ax)
def BM:aA:=⟨132,[VL,nY],(.nU (.raw .nilIface)),[(true,0,VL)],λs=>ji s.2.2 s.1 s.2.1⟩
theorem yV:Ko BM:=
 aG .o call132 func132 (aw oS ax)
def Fv:aA:=⟨133,[VL],.str,[],U2 kG⟩
theorem BQ:Ko Fv:=
 aG (.r [0] .o) call133 func133 ax
def ac7:aA:=⟨124,[aY],.str,[],λs=>MZ s⟩
theorem WI:Ko ac7:=
 aG (.l ⟨[(true,3,VL),(false,8,aq)],[]⟩ .o) call124 func124 (aw ajg (aw wX (aw yV (aw BQ ax))))
def Uo:aA:=⟨112,[amN,aY],iA,[(true,0,amN)],λs=>oA s.2.2 s.1 s.2.1⟩
theorem MW:Ko Uo:=
 aG (.j ⟨[(true,0,(.bx 218 0 true [.same,(.mp .s .bo true)]))],[]⟩ .o .o) call112 func112 (aw WI ax)
def adb:aA:=⟨105,[rQ,aY],UK,[],U2 GH⟩
theorem ajV:(⟨121,Tryz.f121⟩:pO).Ok X0.P:=⟨call121,func121⟩
theorem Wt:Ko adb:=
 eD (.c (.c (.l ⟨[(false,10,aq),(true,10004,(.bx 23 0 true [.same])),(true,10005,(.bx 42 0 true [aq])),(true,10006,amN)],[]⟩ .o) .o) (.r [70000,4,5,6] .o)) call105 func105 (aw UR (aw Px (aw WE (aw MW (aw dX ax))))) ax (aw ajV ax) λ_=>by kernel_rfl
def adg:aA:=⟨93,[rQ,mB,aY],UK,[],U3 xo⟩
theorem VA:Ko adg:=
 eD (.c .o (.l ⟨[(true,12,abR),(false,32,aq)],[]⟩ (.c (.r [] (.c (.c (.l ⟨[(false,9,aq),(true,10012,abR)],[]⟩ (.c (.n 4 (.c .o .o)) .o)) .o) (.r [70000,12] .o))) .o))) call93 func93 (aw Gz (aw Wt (aw Ja (aw LO (aw dX (aw CR ax)))))) ax (aw ZW ax) λ_=>by kernel_rfl
def JI:bY:=⟨66,[(.bx 100 0 false QL4),(.own CG 171 true),aY],RG,none,false,false,(.own CG 171 true),[],λs=>fN (d8 (d8 (d8 (d8 (d8 s))))).2.2.2.2.2.1 (d8 (d8 (d8 (d8 (d8 s))))).2.2.2.2.2.2 s.1 s.2.1 s.2.2.1 s.2.2.2.1 s.2.2.2.2.1 s.2.2.2.2.2.1 s.2.2.2.2.2.2.1 s.2.2.2.2.2.2.2.1 s.2.2.2.2.2.2.2.2.1 (d8 s).2.1 (d8 s).2.2.1 (d8 s).2.2.2.1 (d8 s).2.2.2.2.1 (d8 s).2.2.2.2.2.1 (d8 s).2.2.2.2.2.2.1 (d8 s).2.2.2.2.2.2.2.1 (d8 (d8 s)).1 (d8 (d8 s)).2.1 (d8 (d8 s)).2.2.1 (d8 (d8 s)).2.2.2.1 (d8 (d8 s)).2.2.2.2.1 (d8 (d8 s)).2.2.2.2.2.1 (d8 (d8 s)).2.2.2.2.2.2.1 (d8 (d8 s)).2.2.2.2.2.2.2.1 (d8 (d8 (d8 s))).1 (d8 (d8 (d8 s))).2.1 (d8 (d8 (d8 s))).2.2.1 (d8 (d8 (d8 s))).2.2.2.1 (d8 (d8 (d8 s))).2.2.2.2.1 (d8 (d8 (d8 s))).2.2.2.2.2.1 (d8 (d8 (d8 s))).2.2.2.2.2.2.1 (d8 (d8 (d8 s))).2.2.2.2.2.2.2.1 (d8 (d8 (d8 (d8 s)))).1 (d8 (d8 (d8 (d8 s)))).2.1 (d8 (d8 (d8 (d8 s)))).2.2.1 (d8 (d8 (d8 (d8 s)))).2.2.2.1 (d8 (d8 (d8 (d8 s)))).2.2.2.2.1 (d8 (d8 (d8 (d8 s)))).2.2.2.2.2.1 (d8 (d8 (d8 (d8 s)))).2.2.2.2.2.2.1 (d8 (d8 (d8 (d8 s)))).2.2.2.2.2.2.2.1 (d8 (d8 (d8 (d8 (d8 s))))).1 (d8 (d8 (d8 (d8 (d8 s))))).2.1 (d8 (d8 (d8 (d8 (d8 s))))).2.2.1 (d8 (d8 (d8 (d8 (d8 s))))).2.2.2.1 (d8 (d8 (d8 (d8 (d8 s))))).2.2.2.2.1⟩
theorem uQ:LV JI:=
 ago (.s (.j ⟨[],[]⟩ .o (.r [] (.j ⟨[],[]⟩ .o .o)))) call66 func66 (aw VA ax)
def Im:aA:=⟨106,[aY,aq],aq,[],U2 sy⟩
theorem DF:Ko Im:=
 aG (.l ⟨[(false,8,aq)],[]⟩ .o) call106 func106 ax
def C4:aA:=⟨95,[aY,aq],.bool,[],U2 n8⟩
theorem Bb:Ko C4:=
 aG .o call95 func95 (aw DF ax)
def aai:aA:=⟨67,[mB,aY],.bool,[],U2 Aj⟩
theorem Ud:Ko aai:=
 aG .o call67 func67 (aw Gz (aw Bb ax))
def Du:aA:=⟨72,[VQ],iA,[],λs=>vp s⟩
theorem AK:Ko Du:=
 aG .o call72 func72 ax
def Ib:aA:=⟨69,[aY,aY],.bool,[],U2 mf⟩
theorem C6:Ko Ib:=
 aG (.c .o (.l ⟨[(false,13,aq)],[]⟩ .o)) call69 func69 ax
def Yr:aA:=⟨70,[(.sli CG)],uH,[],λs=>BB s⟩
theorem QI:Ko Yr:=
 aG (.l ⟨[(false,3,uH),(false,8,aq)],[]⟩ .o) call70 func70 ax
def C8:bY:=⟨68,[VQ,aY,abH,(.bx 123 0 false [VQ])],acC,none,false,true,iA,[],U4 j8⟩
theorem AO:LV C8:=
 ago (.c (.r [80000] .o) .o) call68 func68 (aw C6 (aw QI ax))
def afS:aA:=⟨174,[aq],nY,[],λs=>FJ s⟩
theorem LX:Ko afS:=
 aG .o call174 func174 ax
def YU:aA:=⟨168,[aq,nY,agq,Ze],iA,[(true,3,Ze)],U7 Hn⟩
theorem R9:Ko YU:=
 aG .o call168 func168 ax
def aj0:aA:=⟨167,[Ss,eP,aq,(.fn 168 [] [agq,Ze])],aq,[(true,3,(.fn 168 [] [.same,Ze]))],U8 WK⟩
theorem aby:Ko aj0:=
 aG .o call167 func167 (aw LX (aw oE (aw R9 ax)))
def af8:aA:=⟨162,[Ss,eP,aq],HX,[],U3 Kr⟩
theorem YE:Ko af8:=
 aG .o call162 func162 (aw aby ax)
def Pr:aA:=⟨156,[pZ,pN,aY,aq],HX,[],U4 oQ⟩
theorem Kw:Ko Pr:=
 aG (.r [5] .o) call156 func156 (aw fD (aw YE ax))
def ajA:aA:=⟨205,[Om,j2,aY,aq],(.cU [aq,aq]),[],U4 D9⟩
theorem Oc:Ko ajA:=
 aG .o call205 func205 (aw iV (aw Jn ax))
def agv:aA:=⟨202,[Om,j2,aY,aq],HX,[],U4 Ks⟩
theorem Ym:Ko agv:=
 aG .o call202 func202 (aw Oc ax)
def NC:aA:=⟨196,[pZ,pN,aY,aq],HX,[],U4 nu⟩
theorem I7:Ko NC:=
 aG .o call196 func196 (aw Ym ax)
def ai3:aA:=⟨225,[Ng,j2,aY,aq],(.cU [aq,aq]),[],U4 DU⟩
theorem Ms:Ko ai3:=
 aG .o call225 func225 (aw iV (aw Js ax))
def afJ:aA:=⟨220,[Ng,j2,aY,aq],HX,[],U4 Ku⟩
theorem Yy:Ko afJ:=
 aG .o call220 func220 (aw Ms ax)
def NY:aA:=⟨214,[pZ,pN,aY,aq],HX,[],U4 nb⟩
theorem Jv:Ko NY:=
 aG .o call214 func214 (aw Yy ax)
def SU:aA:=⟨247,[pN,aY,aq],aq,[],U3 sL⟩
theorem BZ:Ko SU:=
 aG (.c .o (.r [3] .o)) call247 func247 (aw fD (aw yQ ax))
def PB:aA:=⟨241,[pZ,pN,aY,aq],HX,[],U4 pa⟩
theorem Lu:Ko PB:=
 aG (.c .o (.r [5] .o)) call241 func241 (aw BZ (aw fD (aw yQ ax)))
def afL:aA:=⟨284,[yU,eP,aq],aq,[],U3 EY⟩
theorem LW:Ko afL:=
 aG .o call284 func284 (aw EZ ax)
def Vx:aA:=⟨288,[yU,eP,aq,WB],iA,[(true,3,WB)],U4 ES⟩
theorem Pz:Ko Vx:=
 aG (.l ⟨[(true,3,WB),(false,19,aq)],[]⟩ (.c (.r [3] .o) .o)) call288 func288 (aw oZ ax)
def Y6:aA:=⟨285,[yU,eP,aq],.bool,[],U3 BL⟩
theorem QY:Ko Y6:=
 aG .o call285 func285 (aw Pz ax)
def ahx:aA:=⟨281,[yU,eP,aq],HX,[],U3 Lm⟩
theorem YR:Ko ahx:=
 aG .o call281 func281 (aw LW (aw QY ax))
def PA:aA:=⟨275,[pZ,pN,aY,aq],HX,[],U4 oV⟩
theorem J6:Ko PA:=
 aG (.r [5] .o) call275 func275 (aw fD (aw YR ax))
def adM:aA:=⟨96,[pN,aY,aq],HX,[],U3 dR⟩
theorem WQ:Ko adM:=
 aG (.c .o (.r [3] .o)) call96 func96 (aw iV (aw CL (aw Kw (aw I7 (aw Jv (aw Lu (aw J6 ax)))))))
def YO:aA:=⟨172,[aq,nY,agq,amt],iA,[(true,3,(.bx 76 0 true [.same,.same,.same,eP]))],λs=>HC s.1 s.2.1 s.2.2.1 s.2.2.2.1 s.2.2.2.2.1 s.2.2.2.2.2.1 s.2.2.2.2.2.2.1 s.2.2.2.2.2.2.2.1 s.2.2.2.2.2.2.2.2.1 (d8 s).2⟩
theorem Rc:Ko YO:=
 aG .o call172 func172 (aw eW ax)
def aaa:aA:=⟨167,[Ss,eP,aq,(.fn 172 [] [agq,amt])],aq,[(true,3,(.fn 172 [] [.same,amt]))],λs=>JS s.1 s.2.1 s.2.2.1 s.2.2.2.1 s.2.2.2.2.1 s.2.2.2.2.2.1 s.2.2.2.2.2.2.1 s.2.2.2.2.2.2.2.1 s.2.2.2.2.2.2.2.2.1 (d8 s).2.1 (d8 s).2.2⟩
theorem Uy:Ko aaa:=
 aG .o call167 func167 (aw LX (aw oE (aw Rc ax)))
def agB:aA:=⟨165,[Ss,eP,aq],(.cU [Ss,aq]),[],U3 J4⟩
theorem Y3:Ko agB:=
 aG .o call165 func165 (aw Uy ax)
def PM:aA:=⟨160,[pZ,pN,aY,aq],LB,[],U4 oK⟩
theorem Ki:Ko PM:=
 aG (.r [40000] .o) call160 func160 (aw fD (aw Y3 ax))
def ahH:aA:=⟨204,[Om,j2,aY,aq],(.cU [Om,aq]),[],U4 K6⟩
theorem YD:Ko ahH:=
 aG (.c .o (.r [4] .o)) call204 func204 (aw Oc (aw eW ax))
def Nz:aA:=⟨200,[pZ,pN,aY,aq],LB,[],U4 nq⟩
theorem JB:Ko Nz:=
 aG .o call200 func200 (aw YD ax)
def agl:aA:=⟨222,[Ng,j2,aY,aq],(.cU [Ng,aq]),[],U4 Lz⟩
theorem YT:Ko agl:=
 aG (.c .o (.r [4] .o)) call222 func222 (aw Ms (aw eW ax))
def On:aA:=⟨218,[pZ,pN,aY,aq],LB,[],U4 mX⟩
theorem I8:Ko On:=
 aG .o call218 func218 (aw YT ax)
def PK:aA:=⟨245,[pZ,pN,aY,aq],LB,[],U4 oY⟩
theorem JU:Ko PK:=
 aG (.c .o (.r [5] .o)) call245 func245 (aw BZ (aw fD (aw GV ax)))
def V3:aA:=⟨288,[(.dat It [none,some 11,none]),eP,(.nU (.int .i64 1)),(.fn 290 [] [])],iA,[(true,0,(.agg [.same,.same,.same,.same,jr,.same]))],U2 Fm⟩
theorem PD:Ko V3:=
 aG (.l ⟨[(true,0,(.agg [.same,.same,.same,.same,jr,.same])),(false,19,aq)],[]⟩ (.c (.r [4,0] .o) .o)) call288 func288 (aw oZ ax)
def WH:aA:=⟨288,[(.dat It [none,none,some 11]),eP,(.nU (.int .i64 2)),(.fn 290 [] [])],iA,[(true,0,(.agg [.same,.same,.same,.same,.same,jr]))],U2 Fh⟩
theorem PG:Ko WH:=
 aG (.l ⟨[(true,0,(.agg [.same,.same,.same,.same,.same,jr])),(false,19,aq)],[]⟩ (.c (.r [4,0] .o) .o)) call288 func288 (aw oZ ax)
def YI:aA:=⟨287,[yU,eP,aq],yU,[],U3 BJ⟩
theorem Rx:Ko YI:=
 aG (.r [60000,2,0,0,1,2] (.c .o (.c .o (.c .o (.n 77777 .o))))) call287 func287 (aw eW (aw CQ (aw PD (aw PG ax))))
def agC:aA:=⟨283,[yU,eP,aq],(.cU [yU,aq]),[],U3 KV⟩
theorem Y1:Ko agC:=
 aG .o call283 func283 (aw LW (aw Rx ax))
def PN:aA:=⟨279,[pZ,pN,aY,aq],LB,[],U4 oX⟩
theorem LG:Ko PN:=
 aG (.r [40000] .o) call279 func279 (aw fD (aw Y1 ax))
def acZ:aA:=⟨97,[pN,aY,aq],LB,[],U3 gE⟩
theorem WJ:Ko acZ:=
 aG (.c .o (.r [3,6] .o)) call97 func97 (aw iV (aw CL (aw Ki (aw JB (aw I8 (aw JU (aw LG ax)))))))
def Mq:bY:=⟨71,[Wu,aY],RG,none,false,false,.bool,[(true,0,Ke)],λs=>pQ (d8 (d8 (d8 (d8 (d8 s))))).2.2.2.2.2 s.1 s.2.1 s.2.2.1 s.2.2.2.1 s.2.2.2.2.1 s.2.2.2.2.2.1 s.2.2.2.2.2.2.1 s.2.2.2.2.2.2.2.1 s.2.2.2.2.2.2.2.2.1 (d8 s).2.1 (d8 s).2.2.1 (d8 s).2.2.2.1 (d8 s).2.2.2.2.1 (d8 s).2.2.2.2.2.1 (d8 s).2.2.2.2.2.2.1 (d8 s).2.2.2.2.2.2.2.1 (d8 (d8 s)).1 (d8 (d8 s)).2.1 (d8 (d8 s)).2.2.1 (d8 (d8 s)).2.2.2.1 (d8 (d8 s)).2.2.2.2.1 (d8 (d8 s)).2.2.2.2.2.1 (d8 (d8 s)).2.2.2.2.2.2.1 (d8 (d8 s)).2.2.2.2.2.2.2.1 (d8 (d8 (d8 s))).1 (d8 (d8 (d8 s))).2.1 (d8 (d8 (d8 s))).2.2.1 (d8 (d8 (d8 s))).2.2.2.1 (d8 (d8 (d8 s))).2.2.2.2.1 (d8 (d8 (d8 s))).2.2.2.2.2.1 (d8 (d8 (d8 s))).2.2.2.2.2.2.1 (d8 (d8 (d8 s))).2.2.2.2.2.2.2.1 (d8 (d8 (d8 (d8 s)))).1 (d8 (d8 (d8 (d8 s)))).2.1 (d8 (d8 (d8 (d8 s)))).2.2.1 (d8 (d8 (d8 (d8 s)))).2.2.2.1 (d8 (d8 (d8 (d8 s)))).2.2.2.2.1 (d8 (d8 (d8 (d8 s)))).2.2.2.2.2.1 (d8 (d8 (d8 (d8 s)))).2.2.2.2.2.2.1 (d8 (d8 (d8 (d8 s)))).2.2.2.2.2.2.2.1 (d8 (d8 (d8 (d8 (d8 s))))).1 (d8 (d8 (d8 (d8 (d8 s))))).2.1 (d8 (d8 (d8 (d8 (d8 s))))).2.2.1 (d8 (d8 (d8 (d8 (d8 s))))).2.2.2.1 (d8 (d8 (d8 (d8 (d8 s))))).2.2.2.2.1⟩
theorem Hx:LV Mq:=
 M1 .o call71 func71 (aw WQ (aw WJ ax)) (aw pw ax) ax λ_=>by kernel_rfl
def Jw:bY:=⟨41,[Wu,aY,(.fn 71 [(.ptr 0 0)] []),(.fn 68 [] [abH,(.bx 123 0 false [VQ])]),(.fn 72 [] [])],RG,some acC,false,true,iA,[(true,0,Ke)],λs=>nM (d8 (d8 (d8 (d8 (d8 s))))).2.2.2.2.2.1 s.1 s.2.1 s.2.2.1 s.2.2.2.1 s.2.2.2.2.1 s.2.2.2.2.2.1 s.2.2.2.2.2.2.1 s.2.2.2.2.2.2.2.1 s.2.2.2.2.2.2.2.2.1 (d8 s).2.1 (d8 s).2.2.1 (d8 s).2.2.2.1 (d8 s).2.2.2.2.1 (d8 s).2.2.2.2.2.1 (d8 s).2.2.2.2.2.2.1 (d8 s).2.2.2.2.2.2.2.1 (d8 (d8 s)).1 (d8 (d8 s)).2.1 (d8 (d8 s)).2.2.1 (d8 (d8 s)).2.2.2.1 (d8 (d8 s)).2.2.2.2.1 (d8 (d8 s)).2.2.2.2.2.1 (d8 (d8 s)).2.2.2.2.2.2.1 (d8 (d8 s)).2.2.2.2.2.2.2.1 (d8 (d8 (d8 s))).1 (d8 (d8 (d8 s))).2.1 (d8 (d8 (d8 s))).2.2.1 (d8 (d8 (d8 s))).2.2.2.1 (d8 (d8 (d8 s))).2.2.2.2.1 (d8 (d8 (d8 s))).2.2.2.2.2.1 (d8 (d8 (d8 s))).2.2.2.2.2.2.1 (d8 (d8 (d8 s))).2.2.2.2.2.2.2.1 (d8 (d8 (d8 (d8 s)))).1 (d8 (d8 (d8 (d8 s)))).2.1 (d8 (d8 (d8 (d8 s)))).2.2.1 (d8 (d8 (d8 (d8 s)))).2.2.2.1 (d8 (d8 (d8 (d8 s)))).2.2.2.2.1 (d8 (d8 (d8 (d8 s)))).2.2.2.2.2.1 (d8 (d8 (d8 (d8 s)))).2.2.2.2.2.2.1 (d8 (d8 (d8 (d8 s)))).2.2.2.2.2.2.2.1 (d8 (d8 (d8 (d8 (d8 s))))).1 (d8 (d8 (d8 (d8 (d8 s))))).2.1 (d8 (d8 (d8 (d8 (d8 s))))).2.2.1 (d8 (d8 (d8 (d8 (d8 s))))).2.2.2.1 (d8 (d8 (d8 (d8 (d8 s))))).2.2.2.2.1 (d8 (d8 (d8 (d8 (d8 s))))).2.2.2.2.2.2.1 (d8 (d8 (d8 (d8 (d8 s))))).2.2.2.2.2.2.2⟩
theorem Ff:LV Jw:=
 M1 (.l ⟨[(true,0,Ke),(false,11,(.own CG 171 true))],[]⟩ .o) call41 func41 (aw AK ax) (aw uQ (aw AO (aw Hx ax))) ax λ_=>by kernel_rfl
def H5:bY:=⟨43,[Wu,VQ],RG,some acC,false,true,iA,[(true,0,Ke)],λs=>mH (d8 (d8 (d8 (d8 (d8 s))))).2.2.2.2.2 s.1 s.2.1 s.2.2.1 s.2.2.2.1 s.2.2.2.2.1 s.2.2.2.2.2.1 s.2.2.2.2.2.2.1 s.2.2.2.2.2.2.2.1 s.2.2.2.2.2.2.2.2.1 (d8 s).2.1 (d8 s).2.2.1 (d8 s).2.2.2.1 (d8 s).2.2.2.2.1 (d8 s).2.2.2.2.2.1 (d8 s).2.2.2.2.2.2.1 (d8 s).2.2.2.2.2.2.2.1 (d8 (d8 s)).1 (d8 (d8 s)).2.1 (d8 (d8 s)).2.2.1 (d8 (d8 s)).2.2.2.1 (d8 (d8 s)).2.2.2.2.1 (d8 (d8 s)).2.2.2.2.2.1 (d8 (d8 s)).2.2.2.2.2.2.1 (d8 (d8 s)).2.2.2.2.2.2.2.1 (d8 (d8 (d8 s))).1 (d8 (d8 (d8 s))).2.1 (d8 (d8 (d8 s))).2.2.1 (d8 (d8 (d8 s))).2.2.2.1 (d8 (d8 (d8 s))).2.2.2.2.1 (d8 (d8 (d8 s))).2.2.2.2.2.1 (d8 (d8 (d8 s))).2.2.2.2.2.2.1 (d8 (d8 (d8 s))).2.2.2.2.2.2.2.1 (d8 (d8 (d8 (d8 s)))).1 (d8 (d8 (d8 (d8 s)))).2.1 (d8 (d8 (d8 (d8 s)))).2.2.1 (d8 (d8 (d8 (d8 s)))).2.2.2.1 (d8 (d8 (d8 (d8 s)))).2.2.2.2.1 (d8 (d8 (d8 (d8 s)))).2.2.2.2.2.1 (d8 (d8 (d8 (d8 s)))).2.2.2.2.2.2.1 (d8 (d8 (d8 (d8 s)))).2.2.2.2.2.2.2.1 (d8 (d8 (d8 (d8 (d8 s))))).1 (d8 (d8 (d8 (d8 (d8 s))))).2.1 (d8 (d8 (d8 (d8 (d8 s))))).2.2.1 (d8 (d8 (d8 (d8 (d8 s))))).2.2.2.1 (d8 (d8 (d8 (d8 (d8 s))))).2.2.2.2.1⟩
theorem DC:LV H5:=
 M1 .o call43 func43 (aw Ud ax) (aw Ff ax) ax λ_=>by kernel_rfl
def Db:aA:=⟨42,[VQ,aY],iA,[],U2 vt⟩
theorem Bo:Ko Db:=
 aG .o call42 func42 ax
def Oh:bY:=⟨41,[Wu,aY,(.fn 40 [(.ptr 0 0)] []),(.fn 42 [] []),(.fn 43 [(.ptr 0 0)] [])],RG,some acC,false,false,iA,[(true,0,Ke)],λs=>wZ (d8 (d8 (d8 (d8 (d8 s))))).2.2.2.2.2 s.1 s.2.1 s.2.2.1 s.2.2.2.1 s.2.2.2.2.1 s.2.2.2.2.2.1 s.2.2.2.2.2.2.1 s.2.2.2.2.2.2.2.1 s.2.2.2.2.2.2.2.2.1 (d8 s).2.1 (d8 s).2.2.1 (d8 s).2.2.2.1 (d8 s).2.2.2.2.1 (d8 s).2.2.2.2.2.1 (d8 s).2.2.2.2.2.2.1 (d8 s).2.2.2.2.2.2.2.1 (d8 (d8 s)).1 (d8 (d8 s)).2.1 (d8 (d8 s)).2.2.1 (d8 (d8 s)).2.2.2.1 (d8 (d8 s)).2.2.2.2.1 (d8 (d8 s)).2.2.2.2.2.1 (d8 (d8 s)).2.2.2.2.2.2.1 (d8 (d8 s)).2.2.2.2.2.2.2.1 (d8 (d8 (d8 s))).1 (d8 (d8 (d8 s))).2.1 (d8 (d8 (d8 s))).2.2.1 (d8 (d8 (d8 s))).2.2.2.1 (d8 (d8 (d8 s))).2.2.2.2.1 (d8 (d8 (d8 s))).2.2.2.2.2.1 (d8 (d8 (d8 s))).2.2.2.2.2.2.1 (d8 (d8 (d8 s))).2.2.2.2.2.2.2.1 (d8 (d8 (d8 (d8 s)))).1 (d8 (d8 (d8 (d8 s)))).2.1 (d8 (d8 (d8 (d8 s)))).2.2.1 (d8 (d8 (d8 (d8 s)))).2.2.2.1 (d8 (d8 (d8 (d8 s)))).2.2.2.2.1 (d8 (d8 (d8 (d8 s)))).2.2.2.2.2.1 (d8 (d8 (d8 (d8 s)))).2.2.2.2.2.2.1 (d8 (d8 (d8 (d8 s)))).2.2.2.2.2.2.2.1 (d8 (d8 (d8 (d8 (d8 s))))).1 (d8 (d8 (d8 (d8 (d8 s))))).2.1 (d8 (d8 (d8 (d8 (d8 s))))).2.2.1 (d8 (d8 (d8 (d8 (d8 s))))).2.2.2.1 (d8 (d8 (d8 (d8 (d8 s))))).2.2.2.2.1⟩
theorem IC:LV Oh:=
 M1 (.l ⟨[(true,0,Ke),(false,11,(.own CG 171 true))],[]⟩ .o) call41 func41 (aw Bo ax) (aw uQ (aw DC (aw pw ax))) ax λ_=>by kernel_rfl
def Mi:bY:=⟨25,[Wu],RG,some acC,false,false,iA,[(true,0,Ke)],λs=>pP s.1 s.2.1 s.2.2.1 s.2.2.2.1 s.2.2.2.2.1 s.2.2.2.2.2.1 s.2.2.2.2.2.2.1 s.2.2.2.2.2.2.2.1 s.2.2.2.2.2.2.2.2.1 (d8 s).2.1 (d8 s).2.2.1 (d8 s).2.2.2.1 (d8 s).2.2.2.2.1 (d8 s).2.2.2.2.2.1 (d8 s).2.2.2.2.2.2.1 (d8 s).2.2.2.2.2.2.2.1 (d8 (d8 s)).1 (d8 (d8 s)).2.1 (d8 (d8 s)).2.2.1 (d8 (d8 s)).2.2.2.1 (d8 (d8 s)).2.2.2.2.1 (d8 (d8 s)).2.2.2.2.2.1 (d8 (d8 s)).2.2.2.2.2.2.1 (d8 (d8 s)).2.2.2.2.2.2.2.1 (d8 (d8 (d8 s))).1 (d8 (d8 (d8 s))).2.1 (d8 (d8 (d8 s))).2.2.1 (d8 (d8 (d8 s))).2.2.2.1 (d8 (d8 (d8 s))).2.2.2.2.1 (d8 (d8 (d8 s))).2.2.2.2.2.1 (d8 (d8 (d8 s))).2.2.2.2.2.2.1 (d8 (d8 (d8 s))).2.2.2.2.2.2.2.1 (d8 (d8 (d8 (d8 s)))).1 (d8 (d8 (d8 (d8 s)))).2.1 (d8 (d8 (d8 (d8 s)))).2.2.1 (d8 (d8 (d8 (d8 s)))).2.2.2.1 (d8 (d8 (d8 (d8 s)))).2.2.2.2.1 (d8 (d8 (d8 (d8 s)))).2.2.2.2.2.1 (d8 (d8 (d8 (d8 s)))).2.2.2.2.2.2.1 (d8 (d8 (d8 (d8 s)))).2.2.2.2.2.2.2.1 (d8 (d8 (d8 (d8 (d8 s))))).1 (d8 (d8 (d8 (d8 (d8 s))))).2.1 (d8 (d8 (d8 (d8 (d8 s))))).2.2.1 (d8 (d8 (d8 (d8 (d8 s))))).2.2.2.1 (d8 (d8 (d8 (d8 (d8 s))))).2.2.2.2⟩
theorem H3:LV Mi:=
 M1 (.r [] (.l ⟨[(true,0,Ke),(false,14,aq)],[]⟩ .o)) call25 func25 (aw VE ax) (aw pw (aw IC ax)) ax λ_=>by kernel_rfl
def ac0:aA:=⟨10,[rQ,mB,J0],(.cU [.bool,(.dat Ip [none,none]),aq,aY]),[],U3 fG⟩
theorem ane:(⟨24,Tryz.f24⟩:pO).Ok X0.P:=⟨call24,func24⟩
theorem Jc:Ko ac0:=
 eD (.c (.r [6,7,8,9] .o) .o) call10 func10 (aw RO (aw V5 ax)) (aw H3 ax) (aw ane ax) λ_=>by kernel_rfl
def Nk:aA:=⟨81,[j2,aY],aq,[],U2 EL⟩
theorem Jl:Ko Nk:=
 aG (.c .o (.l ⟨[(false,5,aq)],[]⟩ .o)) call81 func81 ax
def Ol:aA:=⟨54,[rQ,aY],.bool,[],U2 EI⟩
theorem Jp:Ko Ol:=
 aG .o call54 func54 (aw Jl ax)
def Ou:aA:=⟨28,[rQ,mB,aY],.bool,[],U3 EW⟩
theorem Ji:Ko Ou:=
 aG .o call28 func28 (aw Jp ax)
def IF:aA:=⟨99,[.bool],aq,[],λs=>bd s⟩
theorem E7:Ko IF:=
 aG .o call99 func99 ax
def ya:aA:=⟨80,[w7,aY],aq,[],U2 eV⟩
def Gg(d:Ex->Ex)(j:Sh->(R:Type)->Option R->Option R)(h:(Ex×Q1)->zd)(e:Ex)(g:Q1)(i:Int):zd:= ai (λ(b:Int)=>lK e g i b) λa=> bif decide (1<(List.length e.l:Int)) then (idx e.l 1).bind λf=> (h ((d f),g)).bind λc=> a c else a 0
def pH(d:Ex->Ex)(i:Sh->(R:Type)->Option R->Option R)(h:(Ex×Q1)->zd)(e:Ex)(g:Q1):zd:= ai (λ(b:Int)=>Gg d i h e g b) λa=> bif decide (0<(List.length e.l:Int)) then (idx e.l 0).bind λf=> (h ((d f),g)).bind λc=> a c else a 0
def x9:TK8->TK8:=λa s=>mw a s.1 s.2
theorem DP(a:TK8)(c:OK8 a):(lJ (x9 a)).Ok X0.P X0.Γ:=
 eD (.s (.s (.s (.j ⟨[(false,5,aq)],[]⟩ .o (.j ⟨[(false,6,aq)],[]⟩ .o .o))))) call80 func80 (aw E7 (aw c ax)) ax ax λs=>(show _=pH lO eO a s.1 s.2 from by kernel_rfl).trans ((congrArg (λb=>pH b eO a s.1 s.2) ek).trans ((congrArg (λd=>pH id d a s.1 s.2) fU).trans (by kernel_rfl)))
theorem nW:Ko ya:=(show ya=lJ (aj (x9) an) by kernel_rfl)▸ot (X:=X0) (E:=lJ) ⟨call80,λ_ _ h=>nomatch h⟩ (DP) an
def Kg:aA:=⟨82,[mB,aq,aY],.bool,[],U3 tW⟩
def Gv(e:Ex->Ex)(j:Sh->(R:Type)->Option R->Option R)(a:Q9)(q:Int)(h:Q1)(b:Int->za)(d:Int):za:= (idx a.1 q).bind λi=> bif decide (d<(i.length:Int)) then (idx a.1 q).bind λg=> (idx g d).bind λf=> (eV (e f) h).bind λc=> bif c != 1 then some false else b (i64.wrap (d+1)) else some true
def sC(b:Ex->Ex)(d:Sh->(R:Type)->Option R->Option R)(a:Q9)(q:Int)(c:Q1):za:= aj (Gv b d a q c) an 0
theorem Gw:Ko Kg:=
 eD (.l ⟨[(false,7,aq)],[]⟩ .o) call82 func82 (aw nW ax) ax ax λs=>(show _=sC lO eO s.1 s.2.1 s.2.2 from by kernel_rfl).trans ((congrArg (λa=>sC a eO s.1 s.2.1 s.2.2) ek).trans ((congrArg (λb=>sC id b s.1 s.2.1 s.2.2) fU).trans (by kernel_rfl)))
def Me:aA:=⟨32,[aY,aY],.bool,[],U2 ia⟩
theorem vX:Ko Me:=
 aG (.c .o (.l ⟨[(false,5,aq)],[]⟩ .o)) call32 func32 ax
def Fp:aA:=⟨16,[(.own wV 24 false),aY],aq,[],U2 fF⟩
theorem ig:Ko Fp:=
 aG (.l ⟨[(false,5,aq)],[]⟩ .o) call16 func16 (aw vX ax)
def Hz:aA:=⟨55,[uH,mB,aY,aY],uH,[],U4 mF⟩
theorem tO:Ko Hz:=
 aG (.l ⟨[(false,0,uH),(false,9,aq)],[]⟩ (.c (.r [40000] .o) .o)) call55 func55 (aw Gw (aw ig ax))
def LD:aA:=⟨29,[rQ,mB],uH,[],U2 lf⟩
theorem vw:Ko LD:=
 aG .o call29 func29 (aw tO ax)
def IV:aA:=⟨16,[(.sli wV),aY],aq,[],U2 sY⟩
theorem uE:Ko IV:=
 aG (.l ⟨[(false,5,aq)],[]⟩ .o) call16 func16 (aw vX ax)
def Gx:aA:=⟨52,[rQ,aY],kU,[],U2 rA⟩
def Cw(f:Ex->Ex)(h:Sh->(R:Type)->Option R->Option R)(m:il)(d:Q1)(a:fK->Option Q1):Q1×Int->Option Q1:=λ⟨b,c⟩=> bif decide (c<(m.2.2.2.2.length:Int)) then (idx m.2.2.2.2 c).bind λg=> (eV (f g.2.1) d).bind λe=> bif e==1 then aN (aH (List.length b+List.length ([c]:zl)) 8)<| a ((b++([c]:zl)),(i64.wrap (c+1))) else a (b,(i64.wrap (c+1))) else some b
def nZ(b:Ex->Ex)(c:Sh->(R:Type)->Option R->Option R)(m:il)(a:Q1):Option Q1:= aj (Cw b c m a) an ([],0)
theorem CE:Ko Gx:=
 eD (.l ⟨[(false,5,kU),(false,6,aq)],[]⟩ .o) call52 func52 (aw nW ax) ax ax λs=>(show _=nZ lO eO s.1 s.2 from by kernel_rfl).trans ((congrArg (λa=>nZ a eO s.1 s.2) ek).trans ((congrArg (λb=>nZ id b s.1 s.2) fU).trans (by kernel_rfl)))
def LH:aA:=⟨53,[rQ,aY,aq],(.cU [kU,aq]),[],U3 oN⟩
def Ge(g:Ex->Ex)(l:Sh->(R:Type)->Option R->Option R)(m:il)(e:Q1)(k:Int)(a:fK->Option fK):Q1×Int->Option fK:=λ⟨b,c⟩=> (idx m.2.2.2.2 k).bind λi=> bif decide (c<(i.2.2.length:Int)) then (idx m.2.2.2.2 k).bind λh=> (idx h.2.2 c).bind λd=> (eV (g d.2) e).bind λf=> (idx b d.1).bind λj=> a ((List.set b (Int.toNat d.1) f),(i64.wrap (c+1))) else aj (iX m b) an 0
def rZ(b:Ex->Ex)(e:Sh->(R:Type)->Option R->Option R)(m:il)(a:Q1)(k:Int):Option fK:= ai (decide (k<0)) λf=> ai (decide ((m.2.2.2.2.length:Int)<=k)) λd=> ai (f||d) λc=> bif c then ( some ([],10)) else ( aN (aH (List.length ([]:zl)+List.length a) 8)<| aj (Ge b e m a k) an ((([]:zl)++a),0))
theorem Gj:Ko LH:=
 eD (.c .o (.l ⟨[(true,8,kU),(false,9,aq)],[]⟩ (.c (.r [8] .o) (.l ⟨[(false,11,aq)],[]⟩ .o)))) call53 func53 (aw nW ax) ax ax λs=>(show _=rZ lO eO s.1 s.2.1 s.2.2 from by kernel_rfl).trans ((congrArg (λa=>rZ a eO s.1 s.2.1 s.2.2) ek).trans ((congrArg (λb=>rZ id b s.1 s.2.1 s.2.2) fU).trans (by kernel_rfl)))
def J2:aA:=⟨27,[rQ,aY],UK,[],U2 oH⟩
theorem F9:Ko J2:=
 aG (.c .o (.l ⟨[(false,7,uH),(false,8,aq)],[]⟩ .o)) call27 func27 (aw CE (aw Gj (aw ig ax)))
def J5:aA:=⟨31,[rQ,mB,aY],UK,[],U3 ja⟩
theorem nX:Ko J5:=
 aG (.r [] (.c .o (.l ⟨[(false,11,uH),(false,12,aq)],[]⟩ (.c (.r [11] .o) .o)))) call31 func31 (aw F9 (aw tO ax))
def Mg:aA:=⟨30,[rQ,mB,aY,aY],.bool,[],U4 vF⟩
theorem H9:Ko Mg:=
 aG .o call30 func30 (aw nX (aw uE ax))
def IB:aA:=⟨20,[mB,aY],.bool,[],U2 kc⟩
theorem uL:Ko IB:=
 aG (.l ⟨[(false,5,aq)],[]⟩ .o) call20 func20 ax
def JD:aA:=⟨14,[rQ,mB,(.dat Ip [none,none])],.bool,[],U3 Ay⟩
theorem EM:Ko JD:=
 aG (.r [] (.c .o (.l ⟨[(false,8,aq)],[]⟩ (.c .o (.r [20007] (.c .o (.l ⟨[(false,10,aq)],[]⟩ (.c .o (.r [] (.l ⟨[(false,13,.bool),(false,14,aq)],[]⟩ .o)))))))))) call14 func14 (aw Ji (aw vw (aw uE (aw H9 (aw uL ax)))))
def Jb:aA:=⟨7,[],.bool,[],λ_=>tu⟩
theorem Fg:Ko Jb:=
 aG .o call7 func7 (aw xp (aw Jc (aw EM ax)))
def Aa:aA:=⟨83,[w7,aq],aq,[],U2 la⟩
def F6(d:Ex->Ex)(m:Sh->(R:Type)->Option R->Option R)(j:xl->zd)(e:Ex)(most:Int)(a:jE->zd):Int×Int->zd:=λ⟨g,c⟩=> ai (decide (c<(List.length e.l:Int))) λk=> ai (decide (1<most)) λi=> ai (k&&i) λh=> bif h then ( (idx e.l c).bind λf=> (j ((d f),(i64.wrap (most-1)))).bind λb=> bif decide (g<(i64.wrap (1+b))) then a ((i64.wrap (1+b)),(i64.wrap (c+1))) else a (g,(i64.wrap (c+1)))) else ( some g)
def pj(a:Ex->Ex)(c:Sh->(R:Type)->Option R->Option R)(b:xl->zd)(e:Ex)(most:Int):zd:= aj (F6 a c b e most) an (1,0)
def yj:TK9->TK9:=λa s=>jw a s.1 s.2
theorem Dx(a:TK9)(c:OK9 a):(ln (yj a)).Ok X0.P X0.Γ:=
 eD (.l ⟨[(false,5,aq),(false,6,aq)],[]⟩ .o) call83 func83 (aw c ax) ax ax λs=>(show _=pj lO eO a s.1 s.2 from by kernel_rfl).trans ((congrArg (λb=>pj b eO a s.1 s.2) ek).trans ((congrArg (λd=>pj id d a s.1 s.2) fU).trans (by kernel_rfl)))
theorem Ga:Ko Aa:=(show Aa=ln (aj (yj) an) by kernel_rfl)▸ot (X:=X0) (E:=ln) ⟨call83,λ_ _ h=>nomatch h⟩ (Dx) an
def yy:aA:=⟨84,[w7,aq],aq,[],U2 ld⟩
def Gc(f:Ex->Ex)(m:Sh->(R:Type)->Option R->Option R)(j:xl->zd)(e:Ex)(most:Int)(a:jE->zd):Int×Int->zd:=λ⟨c,d⟩=> ai (decide (d<(List.length e.l:Int))) λk=> ai (decide (c<most)) λi=> ai (k&&i) λh=> bif h then ( (idx e.l d).bind λg=> (j ((f g),most)).bind λb=> a ((i64.wrap (c+b)),(i64.wrap (d+1)))) else ( some c)
def px(a:Ex->Ex)(c:Sh->(R:Type)->Option R->Option R)(b:xl->zd)(e:Ex)(most:Int):zd:= aj (Gc a c b e most) an (1,0)
def yw:aaJ->aaJ:=λa s=>jG a s.1 s.2
theorem De(a:aaJ)(b:atI a):(lD (yw a)).Ok X0.P X0.Γ:=
 eD (.l ⟨[(false,5,aq),(false,6,aq)],[]⟩ .o) call84 func84 (aw b ax) ax ax λs=>(show _=px lO eO a s.1 s.2 from by kernel_rfl).trans ((congrArg (λc=>px c eO a s.1 s.2) ek).trans ((congrArg (λd=>px id d a s.1 s.2) fU).trans (by kernel_rfl)))
theorem F4:Ko yy:=(show yy=lD (aj (yw) an) by kernel_rfl)▸ot (X:=X0) (E:=lD) ⟨call84,λ_ _ h=>nomatch h⟩ (De) an
def Mn:aA:=⟨56,[w7],.bool,[],λs=>cE s⟩
def sX(a:Ex->Ex)(h:Sh->(R:Type)->Option R->Option R)(e:Ex):za:= (la (a e) 45).bind λg=> (ld (a e) 300).bind λf=> ai (decide (g<45)) λd=> ai (decide (f<300)) λc=> ai (d&&c) λb=> some b
theorem HJ:Ko Mn:=
 eD .o call56 func56 (aw Ga (aw F4 ax)) ax ax λs=>(show _=sX lO eO s from by kernel_rfl).trans ((congrArg (λa=>sX a eO s) ek).trans ((congrArg (λb=>sX id b s) fU).trans (by kernel_rfl)))
def Mf:aA:=⟨33,[mB,aq],.bool,[],U2 pU⟩
def Hw(h:Ex->Ex)(m:Sh->(R:Type)->Option R->Option R)(a:Q9)(g:Int)(e:Int)(c:jE->za)(l:(List Ex))(b:Int->za)(d:Int):za:= (idx a.1 e).bind λk=> bif decide (d<(k.length:Int)) then (idx a.1 e).bind λj=> (idx j d).bind λi=> (cE (h i)).bind λf=> bif !f then some false else b (i64.wrap (d+1)) else c ((i64.wrap (g+(l.length:Int))),(i64.wrap (e+1)))
def Ia(e:Ex->Ex)(o:Sh->(R:Type)->Option R->Option R)(a:Q9)(most:Int)(b:jE->za):Int×Int->za:=λ⟨c,d⟩=> ai (decide (d<(a.1.length:Int))) λn=> ai (decide (c<4000)) λm=> ai (n&&m) λl=> bif l then ( (idx a.1 d).bind λf=> aj (Hw e o a c d b f) an 0) else ( ai (decide (c<4000)) λk=> ai (decide ((a.1.length:Int)<=most)) λj=> ai (k&&j) λi=> ai (decide ((a.2.1.length:Int)<=most)) λh=> ai (i&&h) λg=> some g)
def HH(e:Ex->Ex)(j:Sh->(R:Type)->Option R->Option R)(a:Q9)(most:Int)(b:jE->za):Int×Int->za:=λ⟨c,d⟩=> ai (decide (d<(a.2.2.2.length:Int))) λi=> ai (decide (c<4000)) λh=> ai (i&&h) λg=> bif g then ( (idx a.2.2.2 d).bind λf=> b ((i64.wrap (c+(f.length:Int))),(i64.wrap (d+1)))) else ( aj (Ia e j a most) an (c,0))
def HR(e:Ex->Ex)(i:Sh->(R:Type)->Option R->Option R)(a:Q9)(most:Int)(b:jE->za):Int×Int->za:=λ⟨c,d⟩=> ai (decide (d<(a.2.1.length:Int))) λj=> ai (decide (c<4000)) λh=> ai (j&&h) λg=> bif g then ( (idx a.2.1 d).bind λf=> b ((i64.wrap (c+(f.length:Int))),(i64.wrap (d+1)))) else ( aj (HH e i a most) an (c,0))
def tz(b:Ex->Ex)(c:Sh->(R:Type)->Option R->Option R)(a:Q9)(most:Int):za:= aj (HR b c a most) an ((i64.wrap ((a.2.2.1.length:Int)+(a.2.2.2.length:Int))),0)
theorem H7:Ko Mf:=
 eD (.l ⟨[(false,5,aq),(false,6,aq)],[]⟩ (.c .o (.l ⟨[(false,5,aq),(false,7,aq)],[]⟩ (.c .o (.l ⟨[(false,5,aq),(false,8,aq)],[]⟩ (.c (.l ⟨[(false,9,aq)],[]⟩ .o) .o)))))) call33 func33 (aw HJ ax) ax ax λs=>(show _=tz lO eO s.1 s.2 from by kernel_rfl).trans ((congrArg (λa=>tz a eO s.1 s.2) ek).trans ((congrArg (λb=>tz id b s.1 s.2) fU).trans (by kernel_rfl)))
def HI:aA:=⟨57,[aY,aq],.bool,[],U2 fk⟩
theorem DA:Ko HI:=
 aG (.l ⟨[(false,5,aq)],[]⟩ .o) call57 func57 ax
def Ma:aA:=⟨58,[w7],.bool,[],λs=>lZ s⟩
def s8(a:Ex->Ex)(f:Sh->(R:Type)->Option R->Option R)(e:Ex):za:= (dO (a e)).bind λd=> ai (d.2.1==0) λb8=> ai (d.1==2) λc=> ai (b8&&c) λb=> some b
theorem Ir:Ko Ma:=
 eD .o call58 func58 (aw vo ax) ax ax λs=>(show _=s8 lO eO s from by kernel_rfl).trans ((congrArg (λa=>s8 a eO s) ek).trans ((congrArg (λb=>s8 id b s) fU).trans (by kernel_rfl)))
def IM:aA:=⟨34,[mB],.bool,[],λs=>nN s⟩
def Ep(g:Ex->Ex)(k:Sh->(R:Type)->Option R->Option R)(a:Q9)(d:Int)(c:Int->za)(b:Int->za)(e:Int):za:= (idx a.1 d).bind λj=> bif decide (e<(j.length:Int)) then (idx a.1 d).bind λi=> (idx i e).bind λh=> (lZ (g h)).bind λf=> bif !f then some false else b (i64.wrap (e+1)) else c (i64.wrap (d+1))
def F0(e:Ex->Ex)(g:Sh->(R:Type)->Option R->Option R)(a:Q9)(b:Int->za)(c:Int):za:= bif decide (c<(a.1.length:Int)) then (idx a.2.1 c).bind λf=> (fk f (a.1.length:Int)).bind λd=> bif !d then some false else aj (Ep e g a c b) an 0 else aj (iD a) an 0
def ru(b:Ex->Ex)(f:Sh->(R:Type)->Option R->Option R)(a:Q9):za:= (fk a.2.2.1 (a.1.length:Int)).bind λe=> ai (!e) λb8=> ai ((a.2.1.length:Int) != (a.1.length:Int)) λd=> ai (b8||d) λc=> bif c then ( some false) else ( aj (F0 b f a) an 0)
theorem F3:Ko IM:=
 eD (.c .o (.l ⟨[(false,5,aq)],[]⟩ (.c (.c .o (.l ⟨[(false,7,aq)],[]⟩ .o)) (.l ⟨[(false,9,aq)],[]⟩ .o)))) call34 func34 (aw DA (aw Ir ax)) ax ax λs=>(show _=ru lO eO s from by kernel_rfl).trans ((congrArg (λa=>ru a eO s) ek).trans ((congrArg (λb=>ru id b s) fU).trans (by kernel_rfl)))
def Az:aA:=⟨59,[w7,aq],.bool,[],U2 pW⟩
def HB(g:Ex->Ex)(j:Sh->(R:Type)->Option R->Option R)(i:xl->za)(e:Ex)(d:Int)(b:Int)(a:Int->za)(c:Int):za:= bif decide (c<b) then (idx e.l c).bind λh=> (i ((g h),d)).bind λf=> bif !f then some false else a (i64.wrap (c+1)) else some true
def Ii(c:Ex->Ex)(y:Sh->(R:Type)->Option R->Option R)(z:xl->za)(e:Ex)(b:Int)(a:Int):za:= ai (decide (e.op<1)) λB=> ai (decide (24<e.op)) λA=> ai (B||A) λx=> ai ((List.length e.l:Int) != a) λw=> ai (x||w) λv=> bif v then ( some false) else ( ai (e.op==1) λu=> ai (decide (e.n<0)) λt=> ai (decide (1073741824<e.n)) λs=> ai (t||s) λr=> ai (u&&r) λq=> ai (e.op==2) λp=> ai (decide (e.n<0)) λo=> ai (decide (b<=e.n)) λm=> ai (o||m) λk=> ai (p&&k) λj=> ai (q||j) λi=> ai (decide (2<e.op)) λh=> ai (e.n != 0) λg=> ai (h&&g) λf=> ai (i||f) λd=> bif d then ( some false) else ( aj (HB c y z e b a) an 0))
def p8(g:Ex->Ex)(h:Sh->(R:Type)->Option R->Option R)(i:xl->za)(e:Ex)(b:Int):za:= ai (λ(f:Int)=>Ii g h i e b f) λc=> ai (λ(d:Bool)=>rW e c d) λa=> bif e.op==1 then a (e.op==1) else bif e.op==2 then a (e.op==2) else bif e.op==13 then a (e.op==13) else a (e.op==14)
def AA:acN->acN:=λa s=>iq a s.1 s.2
theorem EK(a:acN)(b:atM a):(ml (AA a)).Ok X0.P X0.Γ:=
 eD (.s (.s (.j ⟨[(false,5,aq)],[]⟩ (.s (.j ⟨[(false,10,.bool)],[]⟩ .o (.c .o (.j ⟨[(false,15,.bool)],[]⟩ .o .o)))) (.c .o (.c .o (.l ⟨[(false,6,aq)],[]⟩ .o)))))) call59 func59 (aw b ax) ax ax λs=>(show _=p8 lO eO a s.1 s.2 from by kernel_rfl).trans ((congrArg (λd=>p8 d eO a s.1 s.2) ek).trans ((congrArg (λe=>p8 id e a s.1 s.2) fU).trans (by kernel_rfl)))
theorem HE:Ko Az:=(show Az=ml (aj (AA) an) by kernel_rfl)▸ot (X:=X0) (E:=ml) ⟨call59,λ_ _ h=>nomatch h⟩ (EK) an
def Mj:aA:=⟨35,[mB,aq],.bool,[],U2 vP⟩
def H8(h:Ex->Ex)(l:Sh->(R:Type)->Option R->Option R)(a:Q9)(e:Int)(g:Int)(c:Int->za)(b:Int->za)(d:Int):za:= (idx a.1 g).bind λk=> bif decide (d<(k.length:Int)) then (idx a.1 g).bind λj=> (idx j d).bind λi=> (pW (h i) e).bind λf=> bif !f then some false else b (i64.wrap (d+1)) else c (i64.wrap (g+1))
def HG(d:Ex->Ex)(f:Sh->(R:Type)->Option R->Option R)(a:Q9)(c:Int)(b:Int->za)(e:Int):za:= bif decide (e<(a.1.length:Int)) then aj (H8 d f a c e b) an 0 else some true
def sZ(c:Ex->Ex)(d:Sh->(R:Type)->Option R->Option R)(a:Q9)(b:Int):za:= aj (HG c d a b) an 0
theorem Iq:Ko Mj:=
 eD (.l ⟨[(false,5,aq)],[]⟩ (.c (.l ⟨[(false,6,aq)],[]⟩ .o) .o)) call35 func35 (aw HE ax) ax ax λs=>(show _=sZ lO eO s.1 s.2 from by kernel_rfl).trans ((congrArg (λa=>sZ a eO s.1 s.2) ek).trans ((congrArg (λb=>sZ id b s.1 s.2) fU).trans (by kernel_rfl)))
def HY:aA:=⟨17,[aoD,mB],.bool,[],U2 mC⟩
theorem DO:Ko HY:=
 aG .o call17 func17 (aw H7 (aw F3 (aw Iq ax)))
def E9:aA:=⟨18,[aoD,aq],.bool,[],U2 fC⟩
theorem Ck:Ko E9:=
 aG (.l ⟨[(false,5,aq),(false,6,aq)],[]⟩ .o) call18 func18 ax
def Iz:aA:=⟨8,[.str,mB],(.cU [anb,.bool]),[],U2 gK⟩
theorem Di:Ko Iz:=
 aG (.r [4] .o) call8 func8 (aw xp (aw DO (aw Ck ax)))
def JM:aA:=⟨15,[rQ,mB,aq],UK,[],U3 nG⟩
theorem Ek:Ko JM:=
 aG (.l ⟨[(false,8,uH),(false,9,aq)],[]⟩ (.c (.c .o (.r [] (.c .o (.l ⟨[(false,8,uH),(false,12,aq)],[]⟩ .o)))) .o)) call15 func15 (aw vw (aw nX (aw ig ax)))
def IZ:aA:=⟨19,[rQ,mB,aq],(.cU [uH,uH,aq]),[],U3 nL⟩
theorem Ew:Ko IZ:=
 aG (.c .o (.l ⟨[(false,11,uH),(false,12,aq)],[]⟩ (.c (.r [] (.l ⟨[(false,15,kU),(false,16,aq)],[]⟩ .o)) .o))) call19 func19 (aw Ek (aw nX (aw ig ax)))
def Lj:aA:=⟨21,[(.sli wV),(.sli .bo),(.sli (.l .bo))],Fs,[],U3 oF⟩
theorem Gq:Ko Lj:=
 aG (.l ⟨[(true,7,Fs),(false,8,.bool)],[]⟩ (.c (.l ⟨[(true,7,Fs),(false,8,.bool),(false,9,aq)],[]⟩ (.c (.l ⟨[(true,10,Fs),(false,11,.bool)],[]⟩ (.c (.l ⟨[(true,10,Fs),(false,11,.bool),(false,12,aq)],[]⟩ (.c (.l ⟨[(true,10,Fs),(false,11,.bool),(false,13,aq)],[]⟩ .o) .o)) (.l ⟨[(true,7,Fs),(false,8,.bool),(false,15,aq)],[]⟩ .o))) .o)) .o)) call21 func21 ax
def HN:aA:=⟨9,[rQ,mB,aq],(.cU [.bool,aq,aq]),[],U3 my⟩
theorem Dv:Ko HN:=
 aG (.c .o (.l ⟨[(false,12,Fs),(true,13,Fs),(false,14,aq)],[]⟩ (.c .o (.l ⟨[(false,17,aq)],[]⟩ .o)))) call9 func9 (aw Ew (aw uL (aw Gq ax)))
def Kq:aA:=⟨11,[J0],.bool,[],λs=>oJ s⟩
theorem F7:Ko Kq:=
 aG .o call11 func11 ax
end
end Go.Proofs.YtcgihjbfppkcfaaGreatDoor
