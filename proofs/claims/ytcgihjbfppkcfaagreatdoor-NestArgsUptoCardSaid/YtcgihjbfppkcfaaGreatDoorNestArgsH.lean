/-
  Own texts for the statement NestArgs, cut down to what it needs: Den. (cut and joined by a program)
-/
import Derived.Test.YtcgihjbfppkcfaaGreatDoorNestArgsG
set_option linter.unusedVariables false
set_option linter.unusedSimpArgs false
namespace Go.Proofs.YtcgihjbfppkcfaaGreatDoor
open IntKind (i64)
open Go.Proofs
noncomputable section
set_option maxRecDepth 100000
abbrev UN:Ty:=(.p (.i .i64) (.p (.l (.p (.i .i64) (.i .i64))) (.p (.i .i64) (.p (.p (.p (.i .i64) (.p (.l (.l (.i .u8))) (.l (.i .i64)))) (.l (.i .u8))) (.p (.p (.l (.p (.i .i64) (.p (.l (.l (.i .u8))) (.l (.i .i64))))) (.p (.p (.i .i64) (.p (.l (.l (.i .u8))) (.l (.i .i64)))) (.l (.i .u8)))) (.p (.p (.l (.p (.i .i64) (.p (.l (.l (.i .u8))) (.l (.i .i64))))) (.l (.i .u8))) (.p (.p (.p (.i .i64) (.p (.l (.p (.l (.p (.i .u8) (.i .i64))) (.i .i64))) (.p (.i .i64) (.p (.i .i64) (.l (.i .i64)))))) (.p (.p (.i .i64) (.p (.l (.p (.l (.p (.i .u8) (.i .i64))) (.i .i64))) (.p (.i .i64) (.p (.i .i64) (.l (.i .i64)))))) (.p (.i .i64) (.p (.l (.p (.l (.p (.i .u8) (.i .i64))) (.i .i64))) (.p (.i .i64) (.p (.i .i64) (.l (.i .i64)))))))) (.p (.i .i64) (.p (.i .i64) (.p (.i .u64) (.p (.l (.i .u8)) (.p (.l (.i .u8)) (.l (.i .u8))))))))))))))
abbrev bf:Ty:=(.i .i64)
abbrev QL3:List Pt:=(.same:: .same:: .same:: .same:: .same:: .same:: .same:: .same:: .same::(.int .i64)::(.sli (.p bf bf))::(.int .i64)::(.int .i64)::(.sli (.l (.i .u8)))::(.sli bf)::(.sli (.i .u8))::(.sli (.p bf (.p (.l (.l (.i .u8))) (.l bf))))::(.int .i64)::(.sli (.l (.i .u8)))::(.sli bf)::(.sli (.i .u8))::(.sli (.p bf (.p (.l (.l (.i .u8))) (.l bf))))::(.sli (.i .u8))::(.int .i64)::(.sli (.p (.l (.p (.i .u8) bf)) bf))::(.int .i64)::(.int .i64)::(.sli bf)::(.int .i64)::(.sli (.p (.l (.p (.i .u8) bf)) bf))::(.int .i64)::(.int .i64)::(.sli bf)::(.int .i64)::(.sli (.p (.l (.p (.i .u8) bf)) bf))::(.int .i64)::(.int .i64)::(.sli bf)::(.int .i64)::(.int .i64)::(.int .u64)::(.sli (.i .u8))::(.sli (.i .u8))::(.sli (.i .u8)):: .same::[])
abbrev QL4:List Pt:=((.sli .s)::(.sli (.p bf bf))::(.sli bf)::(.sli .s)::(.sli (.p bf (.p .ex (.l (.p bf .ex)))))::(.sli (.l .ex))::(.sli (.l bf))::(.sli bf)::(.sli (.l bf))::(.int .i64)::(.sli (.p bf bf))::(.int .i64)::(.int .i64)::(.sli (.l (.i .u8)))::(.sli bf)::(.sli (.i .u8))::(.sli (.p bf (.p (.l (.l (.i .u8))) (.l bf))))::(.int .i64)::(.sli (.l (.i .u8)))::(.sli bf)::(.sli (.i .u8))::(.sli (.p bf (.p (.l (.l (.i .u8))) (.l bf))))::(.sli (.i .u8))::(.int .i64)::(.sli (.p (.l (.p (.i .u8) bf)) bf))::(.int .i64)::(.int .i64)::(.sli bf)::(.int .i64)::(.sli (.p (.l (.p (.i .u8) bf)) bf))::(.int .i64)::(.int .i64)::(.sli bf)::(.int .i64)::(.sli (.p (.l (.p (.i .u8) bf)) bf))::(.int .i64)::(.int .i64)::(.sli bf)::(.int .i64)::(.int .i64)::(.int .u64)::(.sli (.i .u8))::(.sli (.i .u8))::(.sli (.i .u8))::(.int .i64)::[])
abbrev pL:Pt:=(.dat UN [none,none,none,none,none,none,none,none,none,none,none,none,none,none,none,none,none,none,none])
abbrev aq:Pt:=(.int .i64)
abbrev gW:Ty:=(.p bf (.p (.l (.l (.i .u8))) (.l bf)))
abbrev Vo:Ty:=(.p (.l .s) (.p (.l (.p bf bf)) (.p (.l bf) (.p (.l .s) (.l (.p bf (.p .ex (.l (.p bf .ex)))))))))
abbrev aW:Ty:=(.i .u8)
abbrev Nh:Ty:=(.p (.l (.l .ex)) (.p (.l (.l bf)) (.p (.l bf) (.l (.l bf)))))
abbrev ahn:Ty:=(.p aW (.p aW (.p aW (.p aW (.p aW (.p aW (.p aW (.p aW (.p aW (.p aW (.p aW (.p aW (.p aW (.p aW (.p aW (.p aW (.p aW (.p aW (.p aW (.p aW (.p aW (.p aW (.p aW (.p aW (.p aW (.p aW (.p aW (.p aW (.p aW (.p aW (.p aW (.p aW (.p aW (.p aW (.p aW (.p aW (.p aW (.p aW (.p aW (.p aW (.p aW (.p aW (.p aW (.p aW (.p aW (.p aW (.p aW (.p aW (.p aW (.p aW (.p aW (.p aW (.p aW (.p aW (.p aW (.p aW (.p aW (.p aW (.p aW (.p aW (.p aW (.p aW (.p aW aW)))))))))))))))))))))))))))))))))))))))))))))))))))))))))))))))
abbrev HD:Ty:=(.p bf (.p bf (.p (.i .u64) (.p (.l aW) (.p (.l aW) (.l aW))))))
abbrev A5:Ty:=(.p bf (.p (.l (.p (.l (.p aW bf)) bf)) (.p bf (.p bf (.l bf)))))
abbrev aay:Pt:=(.bx 130 0 true [(.own (.p bf (.p .s (.p bf bf))) 132 false),aq,(.own .s 9 false),(.own (.p bf bf) 112 false),(.own bf 3 false),(.own .s 9 false),(.own (.p bf (.p .ex (.l (.p bf .ex)))) 180 false),aq,aq])
abbrev lO:Ty:=(.p bf bf)
abbrev my:Pt:=(.dat Nh [none,none,none,none])
abbrev rQ:Pt:=(.dat Vo [none,none,none,none,none])
abbrev aY:Pt:=(.sli bf)
abbrev kZ:Pt:=(.own bf 3 true)
abbrev anJ:Ty:=(.p aW (.p aW (.p aW (.p aW (.p aW (.p aW (.p aW (.p aW (.p aW (.p aW (.p aW (.p aW (.p aW (.p aW (.p aW (.p aW (.p aW (.p aW (.p aW (.p aW (.p aW (.p aW (.p aW aW)))))))))))))))))))))))
abbrev tS:Ty:=(.p (.l (.p aW bf)) bf)
abbrev aav:Ty:=(.p bf (.p bf (.p bf (.p (.i .u64) lO))))
abbrev MQ:Pt:=(.bx 130 0 true [.same,.same,.same,.same,.same,.same,.same,aq,aq])
abbrev uz:Pt:=(.own (.l bf) 24 true)
abbrev jB:Pt:=(.own aW 5 true)
abbrev vM:Ty:=(.p bf (.p .s lO))
abbrev Mz:Pt:=(.dat (.p (.l gW) (.p gW (.l aW))) [none,none,none,none])
abbrev Cq:Ty:=(.p bf (.p .ex (.l (.p bf .ex))))
abbrev CI:Ty:=(.p (.l bf) (.l (.l bf)))
abbrev yJ:Pt:=(.dat HD [none,none,none])
abbrev VJ:Ty:=(.p aW (.p aW (.p aW (.p aW (.p aW (.p aW (.p aW aW)))))))
abbrev asg:Ty:=(.p (.i .u64) (.p (.i .u64) (.p (.i .u64) (.p (.i .u64) (.p (.i .u64) (.p (.i .u64) (.p (.i .u64) (.p (.i .u64) (.p (.i .u64) (.p (.i .u64) (.p (.i .u64) (.p (.i .u64) (.p (.i .u64) (.p (.i .u64) (.p (.i .u64) (.p (.i .u64) (.p (.i .u64) (.p (.i .u64) (.p (.i .u64) (.i .u64))))))))))))))))))))
abbrev abe:Pt:=(.bx 130 0 true [.same,aq,.same,.same,.same,.same,.same,aq,aq])
abbrev aao:Pt:=(.bx 379 0 true [.same,(.own tS 273 true),.same,.same,kZ,.same])
abbrev H3:Pt:=(.ifc 392 (.bx 390 0 true [kZ]))
abbrev M7:Pt:=(.dat (.p (.l gW) (.l aW)) [none,none])
abbrev eR:Pt:=(.sli aW)
abbrev Hx:Ty:=(.p (.l (.l bf)) (.l (.l bf)))
abbrev Rn:Pt:=(.dat (.p gW (.l aW)) [none,none,none])
abbrev agj:Pt:=(.bx 212 0 true [(.own vM 132 false),aq,(.own .s 9 false),aq,aq])
abbrev mJ:Ty:=(.l aW)
abbrev jZ:Pt:=(.sli lO)
abbrev ZW:Pt:=(.ifc 97 (.agg [(.sli (.l bf)),(.sli (.l bf))]))
abbrev ahR:Pt:=(.bx 355 0 true [(.own gW 270 true),(.fn 229 [(.ptr 0 0)] [])])
abbrev wS:Pt:=(.dat .ex [none])
abbrev ag4:Pt:=(.bx 79 0 true [(.own gW 73 true),.same,.same,.same,.same])
abbrev p7:Pt:=(.dat .un [])
abbrev Ii:Pt:=(.dat gW [none,none])
abbrev nW:Ty:=(.p aW bf)
abbrev Wm:Pt:=(.fn 289 [] [(.bx 4 0 true [.bool])])
abbrev amQ:Pt:=(.bx 379 0 true [.same,(.own tS 273 true),.same,.same,kZ,(.mp bf .bo true)])
abbrev afE:Pt:=(.bx 355 0 false [(.sli gW),(.fn 233 [(.ptr 0 0)] [])])
abbrev arw:Pt:=(.bx 130 0 false [(.own vM 132 false),aq,(.own .s 9 false),(.own lO 112 false),(.own bf 3 false),(.own .s 9 false),(.own Cq 180 false),aq,aq])
abbrev iA:Pt:=(.cU [])
abbrev alT:Pt:=(.bx 379 0 true [aq,(.own tS 273 true),aq,aq,kZ,(.mp bf .bo false)])
abbrev alx:Pt:=(.bx 379 0 true [aq,(.own tS 273 true),aq,aq,kZ,(.mp bf .bo true)])
abbrev ab7:Pt:=(.bx 161 0 true [uz,(.mp .s .bo true)])
abbrev QY:Pt:=(.bx 27 0 true [(.int .u64)])
abbrev akW:Pt:=(.bx 130 0 true [.same,aq,.same,.same,.same,.same,.same,.same,.same])
abbrev QI:Pt:=(.ifc 95 (.agg [aq,aY]))
abbrev af3:Pt:=(.bx 79 0 true [.same,.same,.same,.same,.same])
abbrev Iy:Pt:=(.cU [.bool,aq])
abbrev afR:Ty:=(.p .s (.p Nh (.p aW (.p aW (.p aW aW)))))
abbrev Fp:Pt:=(.own .bo 4 true)
abbrev agq:Pt:=(.bx 76 0 false [aq,(.sli mJ),aY,eR])
abbrev Lq:Pt:=(.bx 100 0 true QL3)
abbrev wI:Ty:=(.p mJ bf)
abbrev ags:Pt:=(.bx 212 0 true [.same,aq,.same,aq,aq])
abbrev nY:Pt:=(.int .u8)
abbrev WG:Pt:=(.bx 243 0 true [.sfp,jB])
abbrev ag9:Pt:=(.bx 355 0 true [(.own gW 270 true),.same])
abbrev sY:Pt:=(.int .u32)
abbrev afF:Ty:=(.p (.l vM) (.p bf (.p (.l .s) lO)))
abbrev amq:Pt:=(.dat Vo [some 19,some 225,some 7,some 19,some 361])
abbrev Lg:Pt:=(.cU [pL,aq])
abbrev VX:Pt:=(.cU [pL,.bool,aq])
abbrev ahw:Ty:=(.p (.l vM) (.p bf (.p Vo lO)))
abbrev ahB:Ty:=(.p .s (.p Nh (.p aW (.i .u64))))
abbrev aq3:Pt:=(.bx 130 0 true [.same,aq,(.own .s 9 true),(.own lO 112 true),kZ,.same,.same,aq,aq])
abbrev ab9:Ty:=(.p (.l gW) (.p gW mJ))
abbrev Rd:Pt:=(.cU [aq,.bool])
abbrev WI:Pt:=(.dat .ex [some 293])
abbrev asl:Pt:=(.bx 130 0 true [.same,aq,.same,.same,.same,.same,(.own Cq 180 true),aq,aq])
abbrev V0:Pt:=(.own CI 171 false)
abbrev amz:Pt:=(.bx 76 0 true [aq,(.sli mJ),aY,eR])
abbrev afz:Ty:=(.p Vo (.p Nh (.p UN bf)))
abbrev JV:Pt:=(.dat aav [])
abbrev ZB:Pt:=(.dat A5 [none,none])
abbrev W9:Pt:=(.bx 100 0 true QL4)
abbrev agW:Ty:=(.p bf (.p bf (.p .bo aW)))
abbrev abq:Pt:=(.bx 24 0 false [aY])
abbrev am6:Pt:=(.bx 218 0 true [uz,(.mp .s .bo true)])
abbrev aq6:Ty:=(.p aW (.p aW (.p aW (.p aW (.p aW (.p aW (.p aW (.p aW anJ))))))))
abbrev ahl:Pt:=(.bx 317 0 true [jB,aq])
abbrev Vv:Pt:=(.sli (.i .u32))
abbrev afy:Pt:=(.bx 390 0 true [kZ])
abbrev wW:Ty:=(.l bf)
abbrev acs:Ty:=(.p (.l gW) mJ)
abbrev Mt:Pt:=(.ifc 3 aq)
abbrev UI:Pt:=(.own bf 3 false)
abbrev Da:Pt:=(.int .u64)
abbrev Sv:Pt:=(.cU [uz,aq])
abbrev Zn:Pt:=(.bx 24 0 true [aY])
abbrev Zh:Pt:=(.bx 4 0 true [.bool])
abbrev aoE:Pt:=(.dat Vo [some 18,some 224,some 6,some 18,some 360])
abbrev Uw:Pt:=(.own .s 9 false)
open Tryz
theorem aeu:ann Tryz.prog 138:=λv w=>by rw [run_callFunc_extern func138 (by kernel_rfl) (by kernel_rfl) (by kernel_rfl) (e:=Extern.AbiNoEscape.same) (by kernel_rfl)];rfl
noncomputable def XR:Cx:=⟨Tryz.prog,[(2,bf),(3,bf),(4,.bo),(5,aW),(6,aW),(7,agW),(8,agW),(9,.s),(10,.s),(11,.s),(12,(.i .u64)),(13,(.p .s (.i .u64))),(14,(.p .s (.i .u64))),(21,(.i .i32)),(22,(.l (.l .ex))),(23,(.l wW)),(24,wW),(25,Nh),(26,Nh),(27,(.i .u64)),(28,aav),(29,aav),(31,(.l .s)),(32,(.l lO)),(33,(.l Cq)),(34,Vo),(35,Vo),(40,Hx),(41,Hx),(42,bf),(47,afR),(48,afR),(55,ahB),(56,ahB),(65,(.l .bo)),(68,(.l (.l .bo))),(71,(.l mJ)),(72,gW),(73,gW),(74,mJ),(75,(.p gW mJ)),(76,(.p gW mJ)),(77,(.l gW)),(78,ab9),(79,ab9),(80,(.l gW)),(81,acs),(82,acs),(83,(.l tS)),(84,A5),(85,A5),(86,(.p A5 (.p A5 A5))),(87,(.p mJ (.p mJ mJ))),(88,HD),(89,HD),(90,UN),(91,UN),(94,(.p bf wW)),(95,(.p bf wW)),(96,Hx),(97,Hx),(99,afz),(100,afz),(111,lO),(112,lO),(115,(.l .n)),(120,.n),(123,(.l CI)),(126,(.l vM)),(129,ahw),(130,ahw),(131,vM),(132,vM),(143,(.l .ex)),(145,(.p bf (.p bf (.p bf (.l .ex))))),(146,.ex),(152,lO),(153,.un),(154,.un),(155,.un),(156,.un),(157,.un),(158,.un),(170,CI),(171,CI),(178,(.l (.p bf .ex))),(179,Cq),(180,Cq),(182,(.p bf .ex)),(183,(.p bf .ex)),(211,afF),(212,afF),(215,lO),(225,anJ),(236,asg),(237,(.i .u32)),(238,(.p aW ahn)),(239,(.i .u64)),(252,aq6),(253,ahn),(259,.un),(260,.un),(261,.un),(262,aW),(263,aW),(265,(.i .i32)),(266,(.i .i32)),(269,gW),(270,gW),(271,(.l nW)),(272,tS),(273,tS),(295,wI),(296,wI),(303,gW),(304,gW),(305,gW),(306,gW),(314,wI),(315,wI),(316,wI),(317,wI),(357,(.l (.i .u32))),(364,VJ),(365,VJ),(383,nW),(384,nW),(390,wW)],[],[138],(List.forall_mem_cons.2 ⟨aeu,(λ_ h=>nomatch h)⟩),an,[154,155,156,157,158],[],(λ_ h=>nomatch h),[(25,21),(66,40)]⟩
noncomputable def X0:Cx:=⟨Tryz.prog,[(2,bf),(3,bf),(4,.bo),(5,aW),(6,aW),(7,agW),(8,agW),(9,.s),(10,.s),(11,.s),(12,(.i .u64)),(13,(.p .s (.i .u64))),(14,(.p .s (.i .u64))),(21,(.i .i32)),(22,(.l (.l .ex))),(23,(.l wW)),(24,wW),(25,Nh),(26,Nh),(27,(.i .u64)),(28,aav),(29,aav),(31,(.l .s)),(32,(.l lO)),(33,(.l Cq)),(34,Vo),(35,Vo),(40,Hx),(41,Hx),(42,bf),(47,afR),(48,afR),(55,ahB),(56,ahB),(65,(.l .bo)),(68,(.l (.l .bo))),(71,(.l mJ)),(72,gW),(73,gW),(74,mJ),(75,(.p gW mJ)),(76,(.p gW mJ)),(77,(.l gW)),(78,ab9),(79,ab9),(80,(.l gW)),(81,acs),(82,acs),(83,(.l tS)),(84,A5),(85,A5),(86,(.p A5 (.p A5 A5))),(87,(.p mJ (.p mJ mJ))),(88,HD),(89,HD),(90,UN),(91,UN),(94,(.p bf wW)),(95,(.p bf wW)),(96,Hx),(97,Hx),(99,afz),(100,afz),(111,lO),(112,lO),(115,(.l .n)),(120,.n),(123,(.l CI)),(126,(.l vM)),(129,ahw),(130,ahw),(131,vM),(132,vM),(143,(.l .ex)),(145,(.p bf (.p bf (.p bf (.l .ex))))),(146,.ex),(152,lO),(153,.un),(154,.un),(155,.un),(156,.un),(157,.un),(158,.un),(170,CI),(171,CI),(178,(.l (.p bf .ex))),(179,Cq),(180,Cq),(182,(.p bf .ex)),(183,(.p bf .ex)),(211,afF),(212,afF),(215,lO),(225,anJ),(236,asg),(237,(.i .u32)),(238,(.p aW ahn)),(239,(.i .u64)),(252,aq6),(253,ahn),(259,.un),(260,.un),(261,.un),(262,aW),(263,aW),(265,(.i .i32)),(266,(.i .i32)),(269,gW),(270,gW),(271,(.l nW)),(272,tS),(273,tS),(295,wI),(296,wI),(303,gW),(304,gW),(305,gW),(306,gW),(314,wI),(315,wI),(316,wI),(317,wI),(357,(.l (.i .u32))),(364,VJ),(365,VJ),(383,nW),(384,nW),(390,wW)],[(0,0,⟨.l (.i .u64),vY⟩)],[138],(List.forall_mem_cons.2 ⟨aeu,(λ_ h=>nomatch h)⟩),an,[154,155,156,157,158],[⟨180,λargs H st K=>RD XR Tryz.f180 args H st K⟩,⟨171,λargs H st K=>RD XR Tryz.f171 args H st K⟩,⟨289,λargs H st K=>RD XR Tryz.f289 args H st K⟩,⟨290,λargs H st K=>RD XR Tryz.f290 args H st K⟩],(List.forall_mem_cons.2 ⟨U5 (X:=XR) call180 func180 rfl,(List.forall_mem_cons.2 ⟨U5 (X:=XR) call171 func171 rfl,(List.forall_mem_cons.2 ⟨U5 (X:=XR) call289 func289 rfl,(List.forall_mem_cons.2 ⟨U5 (X:=XR) call290 func290 rfl,(λ_ h=>nomatch h)⟩)⟩)⟩)⟩),[(25,21),(66,40)]⟩
abbrev Ko(e:aA):=e.Ok X0.P X0.Γ
abbrev L0(e:bZ):=e.Ok X0.P X0.Γ
theorem aG{X:Cx}{tb:List aA}{fn:Func}{e:aA}(h:HT)(c:Enters X.P e.f)(b:X.P.funcs[e.f]? =some fn)(a:∀e∈tb,e.Ok X.P X.Γ)(eq:∀s,aaR X tb [] [] h fn e s=e.m s:=by intro _;kernel_rfl):e.Ok X.P X.Γ:=eB h c b a ax ax eq
theorem afx{X:Cx}{tb:List aA}{fn:Func}{e:bZ}(h:HT)(c:Enters X.P e.f)(b:X.P.funcs[e.f]? =some fn)(a:∀e∈tb,e.Ok X.P X.Γ)(eq:∀s,alb X tb [] [] h fn e s=e.m s:=by intro _;kernel_rfl):e.Ok X.P X.Γ:=Nw h c b a ax ax eq
abbrev U2{a z r:Type}(F:a->z->r)(s:a×z):r:=F s.1 s.2
abbrev U3{a b z r:Type}(F:a->b->z->r)(s:a×b×z):r:=F s.1 s.2.1 s.2.2
abbrev U4{a b c z r:Type}(F:a->b->c->z->r)(s:a×b×c×z):r:=F s.1 s.2.1 s.2.2.1 s.2.2.2
abbrev U6{a b c d e z r:Type}(F:a->b->c->d->e->z->r)(s:a×b×c×d×e×z):r:=F s.1 s.2.1 s.2.2.1 s.2.2.2.1 s.2.2.2.2.1 s.2.2.2.2.2
abbrev U7{a b c d e f z r:Type}(F:a->b->c->d->e->f->z->r)(s:a×b×c×d×e×f×z):r:=F s.1 s.2.1 s.2.2.1 s.2.2.2.1 s.2.2.2.2.1 s.2.2.2.2.2.1 s.2.2.2.2.2.2
abbrev U8{a b c d e f g z r:Type}(F:a->b->c->d->e->f->g->z->r)(s:a×b×c×d×e×f×g×z):r:=F s.1 s.2.1 s.2.2.1 s.2.2.2.1 s.2.2.2.2.1 s.2.2.2.2.2.1 s.2.2.2.2.2.2.1 s.2.2.2.2.2.2.2
abbrev U9{a b c d e f g h z r:Type}(F:a->b->c->d->e->f->g->h->z->r)(s:a×b×c×d×e×f×g×h×z):r:=F s.1 s.2.1 s.2.2.1 s.2.2.2.1 s.2.2.2.2.1 s.2.2.2.2.2.1 s.2.2.2.2.2.2.1 s.2.2.2.2.2.2.2.1 s.2.2.2.2.2.2.2.2
def lN(x:Ex):Ex:=Ex.mk x.op x.n x.at_ x.l
theorem dZ:lN=id:=funext λx=>by cases x;rfl
def asB:aA:=⟨131,[.int .i64],.str,[],λs=>Zp s⟩
theorem ajk:Ko asB:=amf (ρ:=Tryz.MS) Tryz.am7 call131 (G:=0) (tab:=vY) (by kernel_rfl) (show gl 0 (vY.map (Value.int .u64))∈X0.Γ by first|exact c8 ..|exact (.tail _ (c8 ..))|exact (.tail _ (.tail _ (c8 ..)))|exact (.tail _ (.tail _ (.tail _ (c8 ..))))|exact (.tail _ (.tail _ (.tail _ (.tail _ (c8 ..)))))|exact (.tail _ (.tail _ (.tail _ (.tail _ (.tail _ (c8 ..))))))) (by decide+kernel) Zp λn r h=>by obtain ⟨b,a⟩:=jr h;cases a;exact ⟨b,rfl⟩
def arO:aA:=⟨110,[.own aW 5 true,.int .u64,.int .i64],.own aW 5 true,[],U3 UT⟩
theorem aiV:Ko arO:=ans (ρ:=Tryz.P6) Tryz.ao2 call110 (G:=0) (tab:=vY) (by kernel_rfl) (show gl 0 (vY.map (Value.int .u64))∈X0.Γ by first|exact c8 ..|exact (.tail _ (c8 ..))|exact (.tail _ (.tail _ (c8 ..)))|exact (.tail _ (.tail _ (.tail _ (c8 ..))))|exact (.tail _ (.tail _ (.tail _ (.tail _ (c8 ..)))))|exact (.tail _ (.tail _ (.tail _ (.tail _ (.tail _ (c8 ..))))))) (by decide+kernel) UT λl u b r h=>by obtain ⟨a,c⟩:=jr h;simp only [au,n6,er] at a;cases c;exact ⟨a.1.1,a.1.2.1,a.1.2.2,a.2,rfl⟩
theorem aip{α:Type}{b:Nat}{s y r:List α}{k:Int}(h:W6 b s k y=some r):y≠[]/\Cu k s.length=true/\aH (s.length+y.length) b=true/\r=nC s k y:=by
 unfold W6 at h;split at h
 .cases h
 .obtain ⟨a,c⟩:=jr h;simp only [au] at a;cases c;exact ⟨by simp,a.1,a.2,rfl⟩
def alh:aA:=⟨261,[.own nW 384 true,.int .i64,.own nW 384 true],.own nW 384 true,[],λs=>W6 16 s.1 s.2.1 s.2.2⟩
theorem adt:Ko alh:=aqr (t:=nW) (bytes:=16) call261 (λa d c b=>I261.aaO a d c b) (W6 16) (λ_ _ _ _ h=>aip h)
abbrev ZT:=Aw->Option fG
def gq(k:ZT):aA:=⟨107,[agj,aq,aq],WI,[(true,0,ags)],λs=>k (s.2.2.2.2.2.1,s.2.2.2.2.2.2,s.1,s.2.1,s.2.2.1,s.2.2.2.1,s.2.2.2.2.1)⟩
abbrev OK0(k:ZT):Prop:=Ko (gq k)
abbrev TK1:=Ex->Option lL
def lh(k:TK1):aA:=⟨85,[wS],(.cU [aq,aq,aq]),[],λs=>k s⟩
abbrev OK1(k:TK1):Prop:=Ko (lh k)
abbrev TK2:=Int->zd
def Ah(k:TK2):aA:=⟨224,[aq],aq,[],λs=>k s⟩
abbrev OK2(k:TK2):Prop:=Ko (Ah k)
abbrev TK3:=(Ex×Q1)->zd
def y7(k:TK3):aA:=⟨102,[wS,aY],aq,[],λs=>k (s.1,s.2)⟩
abbrev OK3(k:TK3):Prop:=Ko (y7 k)
abbrev TK4:=Q49->Option xc
def pT(k:TK4):bZ:=⟨236,[afE,aq,Vv],Mt,none,false,false,sY,[],λs=>k (s.2.1,s.2.2,s.1)⟩
abbrev OK4(k:TK4):Prop:=L0 (pT k)
abbrev TK5:=Q49->Option Q56
def mf(k:TK5):aA:=⟨236,[ahR,aq,Vv],sY,[(true,0,ag9)],λs=>k (s.2.1,s.2.2,s.1)⟩
abbrev OK5(k:TK5):Prop:=Ko (mf k)
abbrev TK6:=Q43->Option LN
def tB(k:TK6):aA:=⟨253,[alx,aq,eR],aq,[(true,0,amQ)],λs=>k (s.2.2.2.2.2.2.1,s.2.2.2.2.2.2.2,s.1,s.2.1,s.2.2.1,s.2.2.2.1,s.2.2.2.2.1,s.2.2.2.2.2.1)⟩
abbrev OK6(k:TK6):Prop:=Ko (tB k)
abbrev TK7:=Q47->Option (cF×Q1)
def pS(k:TK7):aA:=⟨254,[alT,aq],iA,[(true,0,aao)],λs=>k (s.2.2.2.2.2.2,s.1,s.2.1,s.2.2.1,s.2.2.2.1,s.2.2.2.2.1,s.2.2.2.2.2.1)⟩
abbrev OK7(k:TK7):Prop:=Ko (pS k)
abbrev TK8:=(Ex×Q1)->zd
def lK(k:TK8):aA:=⟨80,[wS,aY],aq,[],λs=>k (s.1,s.2)⟩
abbrev OK8(k:TK8):Prop:=Ko (lK k)
abbrev TK9:=xp->zd
def lI(k:TK9):aA:=⟨83,[wS,aq],aq,[],λs=>k (s.1,s.2)⟩
abbrev OK9(k:TK9):Prop:=Ko (lI k)
abbrev ZQ:=xp->zd
def lA(k:ZQ):aA:=⟨84,[wS,aq],aq,[],λs=>k (s.1,s.2)⟩
abbrev atC(k:ZQ):Prop:=Ko (lA k)
abbrev aam:=xp->za
def mz(k:aam):aA:=⟨59,[wS,aq],.bool,[],λs=>k (s.1,s.2)⟩
abbrev atK(k:aam):Prop:=Ko (mz k)
def K4:aA:=⟨73,[nY],aq,[],λs=>gA s⟩
theorem Gj:Ko K4:=
 aG .o call73 func73 ax
def Ja:aA:=⟨74,[],(.own .s 9 true),[],λ_=>tv⟩
theorem FJ:Ko Ja:=
 aG .o call74 func74 ax
def HA:aA:=⟨44,[.str],(.cU [(.own vM 132 true),aq,aq]),[],λs=>gI s⟩
theorem Dm:Ko HA:=
 aG (.c .o (.l ⟨[(false,5,(.own vM 132 true)),(false,6,aq)],[]⟩ (.c (.c .o (.c (.l ⟨[(false,6,aq)],[]⟩ .o) (.c (.l ⟨[(false,6,aq)],[]⟩ .o) (.c (.l ⟨[(false,6,aq),(false,9,aq)],[]⟩ .o) (.l ⟨[(false,11,.str),(false,12,aq)],[]⟩ .o))))) .o))) call44 func44 (aw Gj (aw FJ ax))
def Gv:aA:=⟨45,[arw,aq,.str],.bool,[],λs=>bV (d8 s).2.1 (d8 s).2.2 s.1 s.2.1 s.2.2.1 s.2.2.2.1 s.2.2.2.2.1 s.2.2.2.2.2.1 s.2.2.2.2.2.2.1 s.2.2.2.2.2.2.2.1 s.2.2.2.2.2.2.2.2.1⟩
theorem iH:Ko Gv:=
 aG .o call45 func45 ax
def Mh:aA:=⟨77,[.str],.bool,[],λs=>jS s⟩
theorem wq:Ko Mh:=
 aG (.s (.s (.s (.j ⟨[(false,4,.bool)],[]⟩ .o .o)))) call77 func77 ax
def Dj:aA:=⟨46,[aay,aq,aq],iA,[(true,0,MQ)],λs=>aJ (d8 s).2.1 (d8 s).2.2 s.1 s.2.1 s.2.2.1 s.2.2.2.1 s.2.2.2.2.1 s.2.2.2.2.2.1 s.2.2.2.2.2.2.1 s.2.2.2.2.2.2.2.1 s.2.2.2.2.2.2.2.2.1⟩
theorem cP:Ko Dj:=
 aG .o call46 func46 ax
def E9:aA:=⟨78,[Uw,.str],aq,[],U2 cR⟩
theorem rT:Ko E9:=
 aG (.l ⟨[(false,5,aq)],[]⟩ .o) call78 func78 ax
def DM:aA:=⟨49,[aay,.bool],.str,[(true,0,abe)],λs=>gU (d8 s).2 s.1 s.2.1 s.2.2.1 s.2.2.2.1 s.2.2.2.2.1 s.2.2.2.2.2.1 s.2.2.2.2.2.2.1 s.2.2.2.2.2.2.2.1 s.2.2.2.2.2.2.2.2.1⟩
theorem rq:Ko DM:=
 aG .o call49 func49 (aw wq (aw cP (aw rT ax)))
def DO:aA:=⟨47,[arw],aq,[],U9 bu⟩
theorem gK:Ko DO:=
 aG .o call47 func47 ax
def DI:aA:=⟨50,[aay,.str],iA,[(true,0,abe)],λs=>bO (d8 s).2 s.1 s.2.1 s.2.2.1 s.2.2.2.1 s.2.2.2.2.1 s.2.2.2.2.2.1 s.2.2.2.2.2.2.1 s.2.2.2.2.2.2.2.1 s.2.2.2.2.2.2.2.2.1⟩
theorem kr:Ko DI:=
 aG .o call50 func50 (aw iH (aw gK (aw cP ax)))
def Ie:aA:=⟨113,[aq],.bool,[],λs=>mh s⟩
theorem Db:Ko Ie:=
 aG .o call113 func113 ax
def AT:aA:=⟨114,[agj,aq],WI,[(true,0,(.bx 212 0 true [.same,.same,.same,aq,aq]))],λs=>bH s.2.2.2.2.2 s.1 s.2.1 s.2.2.1 s.2.2.2.1 s.2.2.2.2.1⟩
theorem nU:Ko AT:=
 aG (.c (.r [0] .o) .o) call114 func114 ax
def Cm(a:ZT):aA:=⟨115,[agj,aq],WI,[(true,0,ags)],λs=>ed a s.2.2.2.2.2 s.1 s.2.1 s.2.2.1 s.2.2.2.1 s.2.2.2.2.1⟩
def yG(g:Ex->Ex)(i:Sh->(R:Type)->Option R->Option R)(l:Q7)(at_:Int)(names:bq)(f:Int)(a:Int)(e:uk)(b:Int->Option fG)(c:Int):Option fG:=
bif decide (c<(names.length:Int)) then (idx names c).bind λh=>
bif h==e.2.1 then some ((Ex.mk 2 c e.2.2.2 []),(i64.wrap (at_+1)),f,a) else b (i64.wrap (c+1)) else (bH 3 l at_ names f a).bind λd=>
some ((g d.1),at_,d.2.1,d.2.2)
def kT(f:Ex->Ex)(B:Sh->(R:Type)->Option R->Option R)(C:Aw->Option fG)(h:Int)(l:Q7)(at_:Int)(names:bq)(d:Int)(c:Int):Option fG:=
(idx l at_).bind λb=>
bif b.1==2 then some ((Ex.mk 1 b.2.2.1 b.2.2.2 []),(i64.wrap (at_+1)),d,c) else ai (b.1==1) λA=>
ai (b.2.1==[116,114,117,101]) λz=>
ai (A&&z) λy=>
bif y then (
some ((Ex.mk 13 0 b.2.2.2 []),(i64.wrap (at_+1)),d,c)) else (
ai (b.1==1) λx=>
ai (b.2.1==[102,97,108,115,101]) λw=>
ai (x&&w) λv=>
bif v then (
some ((Ex.mk 14 0 b.2.2.2 []),(i64.wrap (at_+1)),d,c)) else (
(jS b.2.1).bind λj=>
ai (b.1==1) λu=>
ai (!j) λt=>
ai (u&&t) λs=>
bif s then (
aj (yG f B l at_ names d c b) an 0) else (
ai (b.1 != 3) λr=>
ai (b.2.1 != [40]) λq=>
ai (r||q) λp=>
bif p then (
(bH 2 l at_ names d c).bind λg=>
some ((f g.1),at_,g.2.1,g.2.2)) else (
(C (1,h,l,(i64.wrap (at_+1)),names,d,c)).bind λa=>
bif a.2.2.1 != 0 then some ((Ex.mk 0 0 0 []),a.2.1,a.2.2.1,a.2.2.2) else (idx l a.2.1).bind λm=>
ai (m.1 != 3) λi=>
bp (!i) (0,[],0,0) (idx l a.2.1) λk=>
ai (k.2.1 != [41]) λo=>
ai (i||o) λn=>
bif n then (
(bH 2 l a.2.1 names a.2.2.1 a.2.2.2).bind λe=>
some ((f e.1),a.2.1,e.2.1,e.2.2)) else (
some ((f a.1),(i64.wrap (a.2.1+1)),a.2.2.1,a.2.2.2))))))
theorem yv(a:ZT)(i0:OK0 a):Ko (Cm a):=
 eB (.r [] (.c .o (.c .o (.c .o (.c (.l ⟨[(true,0,(.bx 212 0 true [.same,.same,.same,.same,.same])),(true,4,(.bx 146 0 true [.same,.same,.same,.same])),(false,7,aq)],[]⟩ .o) .o))))) call115 func115 (aw wq (aw nU (aw i0 ax))) ax ax λs=>(show _=kT lN eN a s.2.2.2.2.2 s.1 s.2.1 s.2.2.1 s.2.2.2.1 s.2.2.2.2.1 from by kernel_rfl).trans ((congrArg (λb=>kT b eN a s.2.2.2.2.2 s.1 s.2.1 s.2.2.1 s.2.2.2.1 s.2.2.2.2.1) dZ).trans ((congrArg (λd=>kT id d a s.2.2.2.2.2 s.1 s.2.1 s.2.2.1 s.2.2.2.1 s.2.2.2.2.1) fS).trans (by kernel_rfl)))
def On:aA:=⟨116,[(.dat vM []),aq],aq,[],U2 cY⟩
theorem Jq:Ko On:=
 aG (.c (.c .o (.c .o (.c .o (.c .o (.c .o (.c (.l ⟨[(false,7,aq)],[]⟩ .o) .o)))))) .o) call116 func116 ax
def rA:aA:=⟨107,[agj,aq,aq],WI,[(true,0,ags)],λs=>iI s.2.2.2.2.2.1 s.2.2.2.2.2.2 s.1 s.2.1 s.2.2.1 s.2.2.2.1 s.2.2.2.2.1⟩
def xW(f:Ex->Ex)(j:Sh->(R:Type)->Option R->Option R)(i:Aw->Option fG)(l:Q7)(at_:Int)(names:bq)(g:Int)(b:Int)(a:Int)(h:uk)(e:Int):Option fG:=
bif e==0 then (i (7,a,l,at_,names,g,b)).bind λd=>
some ((f d.1),d.2.1,d.2.2.1,d.2.2.2) else (i (6,a,l,(i64.wrap (at_+1)),names,g,b)).bind λc=>
some ((Ex.mk e 0 h.2.2.2 ([(f c.1)]:List Ex)),c.2.1,c.2.2.1,c.2.2.2)
def xZ(g:Ex->Ex)(m:Sh->(R:Type)->Option R->Option R)(n:Aw->Option fG)(l:Q7)(at_:Int)(names:bq)(h:Int)(c:Int)(a:Int)(d:uk)(f:Int):Option fG:=
ai (λ(e:Int)=>xW g m n l at_ names h c a d e) λb=>
ai (d.1==1) λk=>
ai (d.2.1==[71]) λj=>
ai (k&&j) λi=>
bif i then (
b 22) else (
b f)
def xT(g:Ex->Ex)(m:Sh->(R:Type)->Option R->Option R)(n:Aw->Option fG)(l:Q7)(at_:Int)(names:bq)(h:Int)(c:Int)(a:Int)(d:uk)(f:Int):Option fG:=
ai (λ(e:Int)=>xZ g m n l at_ names h c a d e) λb=>
ai (d.1==1) λk=>
ai (d.2.1==[70]) λj=>
ai (k&&j) λi=>
bif i then (
b 21) else (
b f)
def xQ(g:Ex->Ex)(m:Sh->(R:Type)->Option R->Option R)(n:Aw->Option fG)(l:Q7)(at_:Int)(names:bq)(h:Int)(c:Int)(a:Int)(d:uk)(f:Int):Option fG:=
ai (λ(e:Int)=>xT g m n l at_ names h c a d e) λb=>
ai (d.1==1) λk=>
ai (d.2.1==[88]) λj=>
ai (k&&j) λi=>
bif i then (
b 20) else (
b f)
def x8(p:Ex->Ex)(w:Sh->(R:Type)->Option R->Option R)(v:Aw->Option fG)(a:Int)(l:Q7)(names:bq)(m:Int)(o:(Int×Int×Int×Int×Int×Int×(List Ex))->Option fG):Int×Int×Int×Int×Int×Int×(List Ex)->Option fG:=λ⟨h,g,n,f,e,d,c⟩=>
bif g==0 then (idx l h).bind λk=>
(cY k a).bind λj=>
bif j==0 then some ((Ex.mk f e d c),h,g,n) else ai (a==1) λu=>
ai (a==2) λt=>
ai (u||t) λs=>
ai (a==5) λr=>
ai (s||r) λq=>
bif q then (
(v (a,m,l,(i64.wrap (h+1)),names,g,n)).bind λi=>
some ((Ex.mk j 0 k.2.2.2 ([(Ex.mk f e d c),(p i.1)]:List Ex)),i.2.1,i.2.2.1,i.2.2.2)) else (
(v ((i64.wrap (a+1)),m,l,(i64.wrap (h+1)),names,g,n)).bind λb=>
bif a==7 then some ((Ex.mk j 0 k.2.2.2 ([(Ex.mk f e d c),(p b.1)]:List Ex)),b.2.1,b.2.2.1,b.2.2.2) else o (b.2.1,b.2.2.1,b.2.2.2,j,0,k.2.2.2,([(Ex.mk f e d c),(p b.1)]:List Ex))) else some ((Ex.mk f e d c),h,g,n)
def xU(h:Ex->Ex)(y:Sh->(R:Type)->Option R->Option R)(q:Aw->Option fG)(a:Int)(l:Q7)(at_:Int)(names:bq)(i:Int)(d:Int)(s:Bool)(b:Int):Option fG:=
ai (decide (320<b)) λx=>
ai (s&&x) λw=>
bif w then (
(bH 9 l at_ names i d).bind λk=>
some ((h k.1),at_,k.2.1,k.2.2)) else (
(idx l at_).bind λg=>
bif a==6 then ai (λ(r:Int)=>xQ h y q l at_ names i d b g r) λj=>
ai (g.1==3) λv=>
ai (g.2.1==[33]) λu=>
ai (v&&u) λt=>
bif t then (
j 15) else (
j 0) else bif a==10 then ai (g.1 != 3) λp=>
ai (g.2.1 != [45]) λo=>
ai (p||o) λm=>
bif m then (
(ed q b l at_ names i d).bind λf=>
some ((h f.1),f.2.1,f.2.2.1,f.2.2.2)) else (
(q (10,b,l,(i64.wrap (at_+1)),names,i,d)).bind λe=>
some ((Ex.mk 6 0 g.2.2.2 ([(h e.1)]:List Ex)),e.2.1,e.2.2.1,e.2.2.2)) else (q ((i64.wrap (a+1)),b,l,at_,names,i,d)).bind λc=>
aj (x8 h y q a l names b) an (c.2.1,c.2.2.1,c.2.2.2,c.1.op,c.1.n,c.1.at_,c.1.l))
def jo(h:Ex->Ex)(i:Sh->(R:Type)->Option R->Option R)(j:Aw->Option fG)(a:Int)(d:Int)(l:Q7)(at_:Int)(names:bq)(e:Int)(b:Int):Option fG:=
bif e != 0 then some ((Ex.mk 0 0 0 []),at_,e,b) else (mh a).bind λg=>
ai (λ(f:Int)=>xU h i j a l at_ names e b g f) λc=>
bif g then (
c (i64.wrap (d+1))) else (
c d)
def pY:ZT->ZT:=λa s=>dz a s.1 s.2.1 s.2.2.1 s.2.2.2.1 s.2.2.2.2.1 s.2.2.2.2.2.1 s.2.2.2.2.2.2
theorem wu(a:ZT)(i0:OK0 a):(gq (pY a)).Ok X0.P X0.Γ:=
 eB (.c .o (.s (.j ⟨[(false,2,aq)],[]⟩ .o (.c .o (.r [] (.c (.s (.j ⟨[(false,9,aq)],[]⟩ .o (.j ⟨[(false,9,aq)],[]⟩ .o (.j ⟨[(false,9,aq)],[]⟩ .o (.j ⟨[(false,9,aq)],[]⟩ .o .o))))) (.c .o (.l ⟨[(true,0,ags),(true,6,(.bx 146 0 true [.same,.same,.same,.same])),(true,12,(.bx 146 0 true [aq,aq,aq,(.own .ex 146 true)]))],[]⟩ .o)))))))) call107 func107 (aw Db (aw nU (aw i0 (aw (yv a i0) (aw Jq ax))))) ax ax λs=>(show _=jo lN eN a s.2.2.2.2.2.1 s.2.2.2.2.2.2 s.1 s.2.1 s.2.2.1 s.2.2.2.1 s.2.2.2.2.1 from by kernel_rfl).trans ((congrArg (λb=>jo b eN a s.2.2.2.2.2.1 s.2.2.2.2.2.2 s.1 s.2.1 s.2.2.1 s.2.2.2.1 s.2.2.2.2.1) dZ).trans ((congrArg (λd=>jo id d a s.2.2.2.2.2.1 s.2.2.2.2.2.2 s.1 s.2.1 s.2.2.1 s.2.2.2.1 s.2.2.2.2.1) fS).trans (by kernel_rfl)))
theorem xR:Ko rA:=(show rA=gq (aj (pY) an) by kernel_rfl)▸ox (X:=X0) (E:=gq) ⟨call107,λ_ _ h=>nomatch h⟩ (wu) an
def Fm:aA:=⟨98,[(.own vM 132 false),aq,Uw],(.cU [WI,aq,aq,aq]),[],U3 fD⟩
def nn(b:Ex->Ex)(c:Sh->(R:Type)->Option R->Option R)(l:Q7)(at_:Int)(names:bq):Option fG:=
(iI 1 0 l at_ names 0 0).bind λa=>
bif a.2.2.1 != 0 then some ((Ex.mk 0 0 0 []),0,a.2.2.1,a.2.2.2) else some ((b a.1),a.2.1,0,0)
theorem B9:Ko Fm:=
 eB (.c (.r [6] .o) (.r [6] .o)) call98 func98 (aw xR ax) ax ax λs=>(show _=nn lN eN s.1 s.2.1 s.2.2 from by kernel_rfl).trans ((congrArg (λa=>nn a eN s.1 s.2.1 s.2.2) dZ).trans ((congrArg (λb=>nn id b s.1 s.2.1 s.2.2) fS).trans (by kernel_rfl)))
def yM:aA:=⟨85,[wS],(.cU [aq,aq,aq]),[],λs=>dR s⟩
def Gg(j:Ex->Ex)(H:Sh->(R:Type)->Option R->Option R)(G:Ex->Option lL)(e:Ex)(f:GY->Option lL):Int×Int×Int×Int->Option lL:=λ⟨a,b,c,h⟩=>
bif decide (h<(List.length e.l:Int)) then (idx e.l h).bind λk=>
(G (j k)).bind λd=>
bif d.2.1 != 0 then some (0,d.2.1,d.2.2) else ai (λ(i:Int)=>rN b c h f d i) λg=>
bif d.1==1 then g (i64.wrap (a+1)) else g a else ai (decide (e.op<=6)) λF=>
ai (a==(List.length e.l:Int)) λE=>
ai (F&&E) λD=>
bif D then (
some (1,0,0)) else (
ai (decide (7<=e.op)) λC=>
ai (decide (e.op<=12)) λB=>
ai (C&&B) λA=>
ai (a==(List.length e.l:Int)) λz=>
ai (A&&z) λy=>
ai (e.op==13) λx=>
ai (y||x) λw=>
ai (e.op==14) λv=>
ai (w||v) λu=>
bif u then (
some (2,0,0)) else (
ai (decide (15<=e.op)) λt=>
ai (decide (e.op<=19)) λs=>
ai (t&&s) λr=>
ai (b==(List.length e.l:Int)) λq=>
ai (r&&q) λp=>
bif p then (
some (2,0,0)) else (
ai (decide (15<=e.op)) λo=>
ai ((i64.wrap (b+c))==(List.length e.l:Int)) λn=>
ai (o&&n) λm=>
bif m then (
some (3,0,0)) else (
some (0,4,e.at_)))))
def px(a:Ex->Ex)(c:Sh->(R:Type)->Option R->Option R)(b:Ex->Option lL)(e:Ex):Option lL:=
aj (Gg a c b e) an (0,0,0,0)
def ya:TK1->TK1:=λk1 s=>ju k1 s
theorem DL(k1:TK1)(b:OK1 k1):(lh (ya k1)).Ok X0.P X0.Γ:=
 eB (.l ⟨[(false,5,aq),(false,6,aq),(false,7,aq),(false,8,aq)],[]⟩ (.c (.c .o (.j ⟨[(false,5,aq)],[]⟩ .o (.j ⟨[(false,6,aq)],[]⟩ .o .o))) .o)) call85 func85 (aw b ax) ax ax λs=>(show _=px lN eN k1 s from by kernel_rfl).trans ((congrArg (λa=>px a eN k1 s) dZ).trans ((congrArg (λd=>px id d k1 s) fS).trans (by kernel_rfl)))
theorem vm:Ko yM:=(show yM=lh (aj (ya) an) by kernel_rfl)▸ox (X:=X0) (E:=lh) ⟨call85,λ_ _ h=>nomatch h⟩ (DL) an
def Gq:aA:=⟨85,[(.dat .ex [some 292])],(.cU [aq,aq,aq]),[],λs=>jd s⟩
def Ct(j:Ex->Ex)(G:Sh->(R:Type)->Option R->Option R)(e:Ex)(f:GY->Option lL):Int×Int×Int×Int->Option lL:=λ⟨a,b,c,h⟩=>
bif decide (h<(List.length e.l:Int)) then (idx e.l h).bind λk=>
(dR (j k)).bind λd=>
bif d.2.1 != 0 then some (0,d.2.1,d.2.2) else ai (λ(i:Int)=>uA b c h f d i) λg=>
bif d.1==1 then g (i64.wrap (a+1)) else g a else ai (decide (e.op<=6)) λF=>
ai (a==(List.length e.l:Int)) λE=>
ai (F&&E) λD=>
bif D then (
some (1,0,0)) else (
ai (decide (7<=e.op)) λC=>
ai (decide (e.op<=12)) λB=>
ai (C&&B) λA=>
ai (a==(List.length e.l:Int)) λz=>
ai (A&&z) λy=>
ai (e.op==13) λx=>
ai (y||x) λw=>
ai (e.op==14) λv=>
ai (w||v) λu=>
bif u then (
some (2,0,0)) else (
ai (decide (15<=e.op)) λt=>
ai (decide (e.op<=19)) λs=>
ai (t&&s) λr=>
ai (b==(List.length e.l:Int)) λq=>
ai (r&&q) λp=>
bif p then (
some (2,0,0)) else (
ai (decide (15<=e.op)) λo=>
ai ((i64.wrap (b+c))==(List.length e.l:Int)) λn=>
ai (o&&n) λm=>
bif m then (
some (3,0,0)) else (
some (0,4,e.at_)))))
def nZ(a:Ex->Ex)(b:Sh->(R:Type)->Option R->Option R)(e:Ex):Option lL:=
aj (Ct a b e) an (0,0,0,0)
theorem CH:Ko Gq:=
 eB (.l ⟨[(false,5,aq),(false,6,aq),(false,7,aq),(false,8,aq)],[]⟩ (.c (.c .o (.j ⟨[(false,5,aq)],[]⟩ .o (.j ⟨[(false,6,aq)],[]⟩ .o .o))) .o)) call85 func85 (aw vm ax) ax ax λs=>(show _=nZ lN eN s from by kernel_rfl).trans ((congrArg (λa=>nZ a eN s) dZ).trans ((congrArg (λb=>nZ id b s) fS).trans (by kernel_rfl)))
def xY:aA:=⟨79,[aay,aq],WI,[(true,0,abe)],λs=>cH (d8 s).2 s.1 s.2.1 s.2.2.1 s.2.2.2.1 s.2.2.2.2.1 s.2.2.2.2.2.1 s.2.2.2.2.2.2.1 s.2.2.2.2.2.2.2.1 s.2.2.2.2.2.2.2.2.1⟩
def vJ(b:Ex->Ex)(e:Sh->(R:Type)->Option R->Option R)(a:fG)(d:Int)(c:Int):Option fG:=
some ((b a.1),a.2.1,d,c)
def jm(p:Ex->Ex)(q:Sh->(R:Type)->Option R->Option R)(j:Int)(l:Q7)(at_:Int)(c:bq)(b:Q4)(h:Q1)(d:bq)(aT:Q5)(f:Int)(a:Int):Option fG:=
bif f != 0 then some ((Ex.mk 0 0 0 []),at_,f,a) else (fD l at_ c).bind λe=>
bif e.2.2.1 != 0 then (aJ e.2.2.1 e.2.2.2 l at_ c b h d aT f a).bind λo=>
some ((Ex.mk 0 0 0 []),at_,o.1,o.2) else (jd (p e.1)).bind λi=>
ai (λ(k:Int×Int)=>vJ p q e k.1 k.2) λg=>
bif i.2.1 != 0 then (aJ i.2.1 i.2.2 l at_ c b h d aT f a).bind λn=>
g (n.1,n.2) else bif i.1 != j then (aJ 4 e.1.at_ l at_ c b h d aT f a).bind λm=>
g (m.1,m.2) else g (f,a)
theorem vB:Ko xY:=
 eB (.c .o (.r [0,40000] (.c .o (.s (.j ⟨[(true,0,MQ)],[]⟩ .o .o))))) call79 func79 (aw B9 (aw cP (aw CH ax))) ax ax λs=>(show _=jm lN eN (d8 s).2 s.1 s.2.1 s.2.2.1 s.2.2.2.1 s.2.2.2.2.1 s.2.2.2.2.2.1 s.2.2.2.2.2.2.1 s.2.2.2.2.2.2.2.1 s.2.2.2.2.2.2.2.2.1 from by kernel_rfl).trans ((congrArg (λa=>jm a eN (d8 s).2 s.1 s.2.1 s.2.2.1 s.2.2.2.1 s.2.2.2.2.1 s.2.2.2.2.2.1 s.2.2.2.2.2.2.1 s.2.2.2.2.2.2.2.1 s.2.2.2.2.2.2.2.2.1) dZ).trans ((congrArg (λb=>jm id b (d8 s).2 s.1 s.2.1 s.2.2.1 s.2.2.2.1 s.2.2.2.2.1 s.2.2.2.2.2.1 s.2.2.2.2.2.2.1 s.2.2.2.2.2.2.2.1 s.2.2.2.2.2.2.2.2.1) fS).trans (by kernel_rfl)))
def A8:aA:=⟨51,[(.bx 130 0 true [(.own vM 132 false),aq,Uw,(.own lO 112 false),UI,Uw,(.own Cq 180 true),aq,aq])],iA,[(true,0,asl)],U9 iL⟩
def xX(k:Ex->Ex)(p:Sh->(R:Type)->Option R->Option R)(l:Q7)(e:bq)(b:Q4)(f:Q1)(d:bq)(aT:Q5)(j:Ux)(c:X9->Option vq)(i:Int)(o:Int)(n:Int)(m:Int):Option vq:=
(bO [61] l m e b f d aT o n).bind λh=>
(cH 1 l h.1 e b f d aT h.2.1 h.2.2).bind λa=>
aN (aH (List.length j+List.length ([(i,(k a.1))]:List (Int×Ex))) 56)<|
(bV 3 [44] l a.2.1 e b f d aT a.2.2.1 a.2.2.2).bind λg=>
bif g then (
c ((i64.wrap (a.2.1+1)),a.2.2.1,a.2.2.2,(j++([(i,(k a.1))]:List (Int×Ex))),g)) else (
c (a.2.1,a.2.2.1,a.2.2.2,(j++([(i,(k a.1))]:List (Int×Ex))),g))
def x5(m:Ex->Ex)(o:Sh->(R:Type)->Option R->Option R)(l:Q7)(e:bq)(b:Q4)(h:Q1)(d:bq)(aT:Q5)(g:Int)(k:Ux)(a:X9->Option vq)(j:Int)(f:Int)(n:Int):Option vq:=
ai (λ(i:Int)=>xX m o l e b h d aT k a j f n i) λc=>
bif f==0 then c (i64.wrap (g+1)) else c g
def xV(v:Ex->Ex)(z:Sh->(R:Type)->Option R->Option R)(l:Q7)(d:bq)(b:Q4)(h:Q1)(c:bq)(aT:Q5)(r:Int)(q:Int)(p:Int)(m:Ux)(g:X9->Option vq)(o:uk)(k:Int)(f:FM->Option vq):Bool×Int->Option vq:=λ⟨a,n⟩=>
bif decide (n<(m.length:Int)) then bp (!a) (0,(Ex.mk 0 0 0 [])) (idx m n) λw=>
ai (w.1==k) λy=>
ai (a||y) λx=>
f (x,(i64.wrap (n+1))) else ai (λ(s:Int×Int)=>x5 v z l d b h c aT r m g k s.1 s.2) λe=>
bif o.1 != 1 then (aJ 2 o.2.2.2 l r d b h c aT q p).bind λj=>
e (j.1,j.2) else ai (decide (k<0)) λu=>
ai (u||a) λt=>
bif t then (
(aJ 3 o.2.2.2 l r d b h c aT q p).bind λi=>
e (i.1,i.2)) else (
e (q,p))
def x4(i:Ex->Ex)(s:Sh->(R:Type)->Option R->Option R)(l:Q7)(b:bq)(c:Q4)(g:Q1)(a:bq)(aT:Q5)(m:fG)(e:X9->Option vq):Int×Int×Int×Ux×Bool->Option vq:=λ⟨k,j,o,h,f⟩=>
ai (j==0) λr=>
ai (f&&r) λq=>
bif q then (
(idx l k).bind λn=>
(cR b n.2.1).bind λp=>
aj (xV i s l b c g a aT k j o h e n p) an (false,0)) else (
(bO [59] l k b c g a aT j o).bind λd=>
aN (aH (List.length aT+List.length ([((i64.wrap ((a.length:Int)-1)),(i m.1),h)]:List Q55)) 80)<|
some (d.1,(aT++([((i64.wrap ((a.length:Int)-1)),(i m.1),h)]:List Q55)),d.2.1,d.2.2))
def xS(g:Ex->Ex)(j:Sh->(R:Type)->Option R->Option R)(l:Q7)(at_:Int)(c:bq)(a:Q4)(d:Q1)(b:bq)(aT:Q5)(i:Int)(h:Int):Option vq:=
(cH 2 l at_ c a d b aT i h).bind λe=>
(bO [58] l e.2.1 c a d b aT e.2.2.1 e.2.2.2).bind λf=>
aj (x4 g j l c a d b aT e) an (f.1,f.2.1,f.2.2,[],true)
def kA(k:Ex->Ex)(m:Sh->(R:Type)->Option R->Option R)(l:Q7)(at_:Int)(d:bq)(a:Q4)(f:Q1)(c:bq)(aT:Q5)(i:Int)(b:Int):Option vq:=
ai (λ(g:Int×Int)=>xS k m l at_ d a f c aT g.1 g.2) λe=>
bif decide (256<=(aT.length:Int)) then (bu l at_ d a f c aT i b).bind λj=>
(aJ 9 j l at_ d a f c aT i b).bind λh=>
e (h.1,h.2) else e (i,b)
theorem x6:Ko A8:=
 eB (.j ⟨[(true,0,MQ)],[]⟩ .o (.l ⟨[(true,0,abe),(true,2,(.bx 180 0 true [.same,.same,.same,.same,.same,(.own (.p bf .ex) 183 true)])),(false,3,.bool)],[]⟩ (.c (.r [] (.r [0] (.l ⟨[(false,6,.bool),(false,7,aq)],[]⟩ (.c .o (.j ⟨[(true,0,MQ)],[4]⟩ .o (.j ⟨[(true,0,akW)],[]⟩ .o .o)))))) (.r [0,2] .o)))) call51 func51 (aw vB (aw kr (aw rT (aw iH (aw cP (aw gK ax)))))) ax ax λs=>(show _=kA lN eN s.1 s.2.1 s.2.2.1 s.2.2.2.1 s.2.2.2.2.1 s.2.2.2.2.2.1 s.2.2.2.2.2.2.1 s.2.2.2.2.2.2.2.1 s.2.2.2.2.2.2.2.2 from by kernel_rfl).trans ((congrArg (λa=>kA a eN s.1 s.2.1 s.2.2.1 s.2.2.2.1 s.2.2.2.2.1 s.2.2.2.2.2.1 s.2.2.2.2.2.2.1 s.2.2.2.2.2.2.2.1 s.2.2.2.2.2.2.2.2) dZ).trans ((congrArg (λb=>kA id b s.1 s.2.1 s.2.2.1 s.2.2.2.1 s.2.2.2.2.1 s.2.2.2.2.2.1 s.2.2.2.2.2.2.1 s.2.2.2.2.2.2.2.1 s.2.2.2.2.2.2.2.2) fS).trans (by kernel_rfl)))
def B6:aA:=⟨75,[aay],aq,[(true,0,abe)],U9 ek⟩
theorem Ag:Ko B6:=
 aG (.s (.s (.j ⟨[(true,0,akW)],[]⟩ .o (.r [] (.j ⟨[(true,0,MQ)],[]⟩ .o .o))))) call75 func75 (aw iH (aw cP ax))
def JN:aA:=⟨76,[jZ],.bool,[],λs=>nQ s⟩
theorem E3:Ko JN:=
 aG (.c .o (.l ⟨[(false,3,aq)],[]⟩ .o)) call76 func76 ax
def An:aA:=⟨48,[(.bx 130 0 true [(.own vM 132 false),aq,(.own .s 9 true),(.own lO 112 true),kZ,Uw,(.own Cq 180 false),aq,aq])],iA,[(true,0,aq3)],U9 ij⟩
theorem w7:Ko An:=
 aG (.s (.s (.s (.s (.s (.s (.s (.s (.j ⟨[(true,0,MQ)],[]⟩ .o (.r [0] .o)))))))))) call48 func48 (aw rq (aw gK (aw Ag (aw kr (aw E3 (aw cP ax))))))
def Jd:aA:=⟨26,[.str],(.cU [amq,aq,aq]),[],λs=>fM s⟩
theorem FA:Ko Jd:=
 aG (.c .o (.l ⟨[(true,8,(.bx 130 0 true [.same,aq,(.own .s 9 true),(.own lO 112 true),kZ,(.own .s 9 true),(.own Cq 180 true),aq,aq]))],[]⟩ (.c (.s (.s (.j ⟨[(true,8,MQ)],[]⟩ .o (.j ⟨[(true,8,akW)],[]⟩ .o (.j ⟨[(true,8,aq3)],[]⟩ .o (.c (.l ⟨[(true,8,asl),(false,12,.bool)],[]⟩ .o) .o)))))) (.j ⟨[(true,8,MQ)],[]⟩ .o (.c (.r [2] .o) .o))))) call26 func26 (aw Dm (aw iH (aw rq (aw kr (aw x6 (aw w7 (aw gK (aw cP ax))))))))
def NN:aA:=⟨12,[.str],(.cU [amq,.bool]),[],λs=>nb s⟩
theorem xJ:Ko NN:=
 aG .o call12 func12 (aw FA ax)
def PR:aA:=⟨62,[(.dat lO [])],.bool,[],λs=>tH s⟩
theorem KZ:Ko PR:=
 aG .o call62 func62 ax
def MI:aA:=⟨61,[jZ,(.fn 62 [] [])],Fp,[],λs=>sb s⟩
theorem IS:Ko MI:=
 aG (.l ⟨[(true,5,Fp),(false,13,aq)],[]⟩ .o) call61 func61 (aw KZ ax)
def ET:aA:=⟨86,[(.sli .bo),.bool],aq,[],U2 ph⟩
theorem BW:Ko ET:=
 aG (.l ⟨[(false,8,aq)],[]⟩ .o) call86 func86 ax
def BY:aA:=⟨60,[(.sli .bo),.bool],.bool,[],U2 jg⟩
theorem yR:Ko BY:=
 aG .o call60 func60 (aw BW ax)
def Wv:aA:=⟨36,[jZ],.bool,[],λs=>tY s⟩
theorem CS:Ko Wv:=
 aG .o call36 func36 (aw IS (aw yR ax))
def vO:aA:=⟨37,[jZ],(.own lO 112 true),[],λs=>cQ s⟩
def vE(s:Q4):Option Q4:=
A6 s (
some []) (
aN (aH (List.length ([]:List jq)+List.length s) 16)<|
some (([]:List jq)++s))
theorem kC:Ko vO:=
 eB .o call37 func37 ax ax ax λs=>(show _=vE s from by kernel_rfl).trans oZ
def YB:aA:=⟨22,[rQ,my],(.cU [(.own lO 112 true),aq]),[],U2 vZ⟩
theorem QE:Ko YB:=
 aG (.c .o (.r [40000] .o)) call22 func22 (aw CS (aw kC ax))
def Y3:aA:=⟨38,[],(.sli .n),[],λ_=>ck⟩
theorem E8:Ko Y3:=
 aG .o call38 func38 ax
def PY:aA:=⟨166,[aq],(.cU [(.dat gW [some 149,some 7]),aq]),[],λs=>o7 s⟩
theorem AY:Ko PY:=
 aG .o call166 func166 ax
def afA:aA:=⟨161,[aq],(.cU [(.dat (.p gW mJ) [some 149,some 7,some 11]),aq]),[],λs=>Kd s⟩
theorem YF:Ko afA:=
 aG .o call161 func161 (aw AY ax)
def Mg:aA:=⟨155,[p7,pL,JV],(.cU [(.dat UN [none,some 149,some 7,some 11,none,none,none,none,none,none,none,none,none,none,none,none,none,none,none]),aq]),[],U3 jP⟩
theorem Hr:Ko Mg:=
 aG .o call155 func155 (aw YF ax)
def J9:aA:=⟨201,[jZ,aq],(.cU [(.dat ab9 [some 147,some 149,some 7,some 11]),aq]),[],U2 Lz⟩
def Yv(f:Nat)(s:Q4)(most:Int)(e:(Q6×Int))(a:((List Q6)×Int)->Option (Ao×Int)):(List Q6)×Int->Option (Ao×Int):=λ⟨b,c⟩=>
bif decide (c<(i64.wrap (Int.tdiv (i64.wrap ((i64.wrap ((s.length:Int)+2))-1)) 2))) then (o7 most).bind λd=>
aN (aH (List.length b+List.length ([d.1]:List Q6)) 56)<|
a ((b++([d.1]:List Q6)),(i64.wrap (c+1))) else some ((b,e.1,[]),0)
def afK(fl:Nat)(s:Q4)(most:Int):Option (Ao×Int):=
(o7 most).bind λa=>
bif a.2 != 0 then some (([],(0,[],[]),[]),a.2) else aj (Yv fl s most a) fl ([],0)
theorem V4(fl:Nat)(s:fW (sB J9.ps)):aaR { X0 with fl:=fl } [PY] [] [] (.c .o (.l ⟨[(true,4,af3),(true,8,ag4),(false,27,aq)],[]⟩ .o)) Tryz.f201 J9 s=afK fl s.1 s.2:=by kernel_rfl
theorem Yp:Ko J9:=
 eB (.c .o (.l ⟨[(true,4,af3),(true,8,ag4),(false,27,aq)],[]⟩ .o)) call201 func201 (aw AY ax) ax ax λs=>(V4 an s).trans (by kernel_rfl)
def KR:aA:=⟨195,[p7,pL,JV],(.cU [(.dat UN [none,none,none,none,some 147,some 149,some 7,some 11,none,none,none,none,none,none,none,none,none,none,none]),aq]),[],U3 jb⟩
theorem Gs:Ko KR:=
 aG .o call195 func195 (aw Yp ax)
def ac1:aA:=⟨223,[aq],(.cU [(.dat gW [some 149,some 7]),aq]),[],λs=>Oe s⟩
theorem WB:Ko ac1:=
 aG .o call223 func223 (aw AY ax)
def Qp:aA:=⟨224,[aq],aq,[],λs=>xP s⟩
def Qi:TK2->TK2:=λa s=>sT a s
theorem QU(a:TK2)(b:OK2 a):(Ah (Qi a)).Ok X0.P X0.Γ:=
 aG .o call224 func224 (aw b ax)
theorem AN:Ko Qp:=(show Qp=Ah (aj (Qi) an) by kernel_rfl)▸ox (X:=X0) (E:=Ah) ⟨call224,λ_ _ h=>nomatch h⟩ (QU) an
def ahH:aA:=⟨219,[jZ,aq],(.cU [(.dat acs [some 541,some 11]),aq]),[],U2 JU⟩
theorem YN:Ko ahH:=
 aG (.c .o (.r [30000,20006] (.l ⟨[(true,4,(.bx 82 0 true [.same,.same])),(true,8,(.bx 82 0 true [(.own gW 270 true),.same])),(false,23,aq)],[]⟩ .o))) call219 func219 (aw WB (aw AN ax))
def Ld:aA:=⟨213,[p7,pL,JV],(.cU [(.dat UN [none,none,none,none,none,none,none,none,some 541,some 11,none,none,none,none,none,none,none,none,none]),aq]),[],U3 iV⟩
theorem F8:Ko Ld:=
 aG .o call213 func213 (aw YN ax)
def adh:aA:=⟨185,[Da],aq,[],λs=>BV s⟩
theorem IN:Ko adh:=
 aG (.l ⟨[(false,0,Da),(false,3,aq)],[]⟩ .o) call185 func185 ax
def ML:aA:=⟨177,[(.dat lO [])],aq,[],λs=>kx s⟩
theorem Jr:Ko ML:=
 aG .o call177 func177 (aw IN ax)
def PE:aA:=⟨176,[jZ,(.fn 177 [] [])],kZ,[],λs=>oO s⟩
theorem yT:Ko PE:=
 aG (.l ⟨[(true,5,kZ),(false,13,aq)],[]⟩ .o) call176 func176 (aw Jr ax)
def YL:aA:=⟨188,[jZ],aq,[],λs=>BA s⟩
theorem Rp:Ko YL:=
 aG (.l ⟨[(false,3,aq),(false,9,aq)],[]⟩ .o) call188 func188 (aw yT ax)
def Wk:aA:=⟨179,[jZ],aq,[],λs=>rC s⟩
theorem CN:Ko Wk:=
 aG .o call179 func179 (aw Rp ax)
def aij:aA:=⟨246,[aq],(.cU [(.dat A5 [some 547,some 7]),aq]),[],λs=>OM s⟩
theorem aaM:Ko aij:=
 aG .o call246 func246 ax
def Mn:aA:=⟨240,[p7,pL,JV],Lg,[],U3 ic⟩
theorem HU:Ko Mn:=
 aG (.c .o (.l ⟨[(true,4,(.bx 91 0 true [.same,.same,.same,.same,.same,.same,.same,.same,.same,.same,.same,.same,.same,.same,aq,(.sli tS),aq,aq,aY,aq,(.sli tS),aq,aq,aY,aq,(.sli tS),aq,aq,aY,.same,.same,.same,.same,.same,.same])),(true,6,(.bx 91 0 true [.same,.same,.same,.same,.same,.same,.same,.same,.same,.same,.same,.same,.same,.same,.same,.same,.same,.same,.same,.same,.same,.same,.same,.same,.same,.same,.same,.same,.same,.same,.same,.same,.same,.same,.same])),(false,18,aq)],[]⟩ .o)) call240 func240 (aw CN (aw aaM ax))
def age:aA:=⟨280,[aq,aq,Da],(.cU [(.dat HD [some 11,some 11,some 11]),aq]),[],U3 Fv⟩
theorem Yq:Ko age:=
 aG (.c .o (.l ⟨[(true,6,(.bx 89 0 true [.same,.same,.same,.same,.same,.same])),(true,8,(.bx 89 0 true [.same,.same,.same,jB,jB,jB])),(false,29,aq)],[]⟩ .o)) call280 func280 ax
def Mb:aA:=⟨274,[p7,pL,JV],Lg,[],U3 jR⟩
theorem HF:Ko Mb:=
 aG .o call274 func274 (aw Yq ax)
def adq:aA:=⟨23,[jZ,JV],Lg,[],U2 dw⟩
theorem Ww:Ko adq:=
 aG (.r [] (.c .o (.r [3,40000] .o))) call23 func23 (aw CS (aw E8 (aw kC (aw Hr (aw Gs (aw F8 (aw HU (aw HF ax))))))))
def adA:aA:=⟨63,[my,aY,aY],(.fn 87 [] [Zn,(.bx 26 0 true [(.sli (.l .ex)),(.sli wW),aY,(.sli wW)]),Zn]),[],U3 Ce⟩
theorem Jz:Ko adA:=
 aG .o call63 func63 ax
def acw:aA:=⟨109,[.bool],aq,[],λs=>Aj s⟩
theorem Un:Ko acw:=
 aG .o call109 func109 ax
def P4:aA:=⟨102,[wS,aY],aq,[],U2 rS⟩
def Wi(s:Ex->Ex)(z:Sh->(R:Type)->Option R->Option R)(y:(Ex×Q1)->zd)(e:Ex)(q:Q1)(b:lL->zd):Int×Int×Int->zd:=λ⟨a,c,d⟩=>
bif decide (d<(List.length (aV e.l 0 (min (List.length e.l:Int) 2)):Int)) then (idx (aV e.l 0 (min (List.length e.l:Int) 2)) d).bind λu=>
(y ((s u),q)).bind λk=>
bif d==0 then b (k,c,(i64.wrap (d+1))) else bif d==1 then b (a,k,(i64.wrap (d+1))) else none else ai (λ(j:Int×Int×Bool)=>EC j.1 j.2.1 j.2.2) λp=>
ai (λ(i:Int×Int×Bool)=>FF i.1 i.2.1 i.2.2) λo=>
ai (λ(h:Int×Int×Bool)=>E6 h.1 h.2.1 h.2.2) λg=>
bif e.op==1 then some e.n else bif e.op==2 then ai (decide (e.n<0)) λAr=>
ai (decide ((q.length:Int)<=e.n)) λw=>
ai (Ar||w) λv=>
bif v then (
some 0) else (
(idx q e.n).bind λt=>
some t) else bif e.op==3 then some (i64.wrap (a+c)) else bif e.op==5 then some (i64.wrap (a*c)) else bif e.op==6 then some (i64.wrap (0-a)) else bif e.op==4 then some (i64.wrap (a-c)) else bif e.op==8 then g (a,c,true) else ai (λ(x:Unit)=>FD e a c p o) λm=>
ai (λ(r:Bool)=>FL a c g m r) λf=>
bif e.op==7 then f (e.op==7) else f (e.op==19)
def Cy(a:Ex->Ex)(d:Sh->(R:Type)->Option R->Option R)(c:(Ex×Q1)->zd)(e:Ex)(b:Q1):zd:=
aN (df 0 (min (List.length e.l:Int) 2) (List.length e.l))<|
aj (Wi a d c e b) an (0,0,0)
def Qd:TK3->TK3:=λa s=>wj a s.1 s.2
theorem Sl(a:TK3)(d:OK3 a):(y7 (Qd a)).Ok X0.P X0.Γ:=
 eB (.l ⟨[(true,5,(.bx 215 0 true [aq,aq])),(false,19,aq)],[]⟩ (.c .o (.r [] (.s (.s (.s (.s (.s (.s (.s (.s (.j ⟨[(false,8,aq),(false,9,aq),(false,10,.bool)],[2]⟩ (.s (.j ⟨[(false,8,aq),(false,9,aq),(false,10,.bool)],[2]⟩ (.s (.j ⟨[(false,8,aq),(false,9,aq),(false,10,.bool)],[2]⟩ (.c .o (.c .o (.c .o (.c .o (.c .o (.c .o (.c .o (.j ⟨[],[]⟩ (.j ⟨[(false,50,.bool)],[]⟩ .o .o) .o)))))))) .o)) .o)) .o)))))))))))) call102 func102 (aw d (aw Un ax)) ax ax λs=>(show _=Cy lN eN a s.1 s.2 from by kernel_rfl).trans ((congrArg (λb=>Cy b eN a s.1 s.2) dZ).trans ((congrArg (λe=>Cy id e a s.1 s.2) fS).trans (by kernel_rfl)))
theorem Bm:Ko P4:=(show P4=y7 (aj (Qd) an) by kernel_rfl)▸ox (X:=X0) (E:=y7) ⟨call102,λ_ _ h=>nomatch h⟩ (Sl) an
def Yl:aA:=⟨101,[wS,abq],.bool,[],U2 Bu⟩
def Cs(a:Ex->Ex)(c:Sh->(R:Type)->Option R->Option R)(e:Ex)(x:Q1):za:=
(rS (a e) x).bind λb=>
some (b != 1)
theorem Sa:Ko Yl:=
 eB .o call101 func101 (aw Bm ax) ax ax λs=>(show _=Cs lN eN s.1 s.2 from by kernel_rfl).trans ((congrArg (λa=>Cs a eN s.1 s.2) dZ).trans ((congrArg (λb=>Cs id b s.1 s.2) fS).trans (by kernel_rfl)))
def uP:aA:=⟨108,[(.sli .ex),(.fn 101 [] [abq])],aq,[],U2 gZ⟩
def sR(e:Ex->Ex)(g:Sh->(R:Type)->Option R->Option R)(s:(List Ex))(c:Q1)(a:Int->zd)(b:Int):zd:=
bif decide (b<(s.length:Int)) then (idx s b).bind λf=>
(Bu (e f) c).bind λd=>
bif d then (
some b) else (
a (i64.wrap (b+1))) else some (-1)
def gF(a:Ex->Ex)(b:Sh->(R:Type)->Option R->Option R)(s:(List Ex))(c:Q1):zd:=
aj (sR a b s c) an 0
theorem sS:Ko uP:=
 eB (.l ⟨[(false,8,aq)],[]⟩ .o) call108 func108 (aw Sa ax) ax ax λs=>(show _=gF lN eN s.1 s.2 from by kernel_rfl).trans ((congrArg (λa=>gF a eN s.1 s.2) dZ).trans ((congrArg (λb=>gF id b s.1 s.2) fS).trans (by kernel_rfl)))
def sM:aA:=⟨100,[(.sli .ex),(.fn 101 [] [abq])],.bool,[],U2 gb⟩
theorem pX:Ko sM:=
 aG .o call100 func100 (aw sS ax)
def afL:aA:=⟨88,[my,aq,aY],.bool,[],U3 Ei⟩
theorem L4:Ko afL:=
 aG .o call88 func88 (aw pX ax)
def H9:aA:=⟨89,[aY],kZ,[],λs=>bz s⟩
def Iz(s:Q1):Option Q1:=
A6 s (
some []) (
aN (aH (List.length ([]:zl)+List.length s) 8)<|
some (([]:zl)++s))
theorem dY:Ko H9:=
 eB .o call89 func89 ax ax ax λs=>(show _=Iz s from by kernel_rfl).trans oZ
def x7:aA:=⟨103,[jB,aq,aq],jB,[],U3 j4⟩
theorem vH:Ko x7:=
 aG (.s (.s (.j ⟨[(false,0,jB),(false,7,Da)],[]⟩ .o .o))) call103 func103 (aw aiV ax)
def Hv:aA:=⟨90,[jB,aq,aq],jB,[],U3 mD⟩
theorem Dp:Ko Hv:=
 aG .o call90 func90 (aw vH ax)
def WX:aA:=⟨64,[ab7,aY],iA,[(true,0,ab7)],λs=>uw s.2.2 s.1 s.2.1⟩
theorem CR:Ko WX:=
 aG (.j ⟨[(true,0,(.bx 161 0 true [.same,(.mp .s .bo true)]))],[]⟩ .o (.l ⟨[(true,0,(.bx 161 0 true [.same,.same])),(false,4,jB),(false,18,aq)],[]⟩ (.c .o (.r [] (.c (.r [0] .o) .o))))) call64 func64 (aw Dp ax)
def ads:aA:=⟨39,[rQ,my],uz,[],U2 Cb⟩
theorem Z4:(⟨87,Tryz.f87⟩:pM).Ok X0.P:=⟨call87,func87⟩
theorem VN:Ko ads:=
 eB (.c (.c (.l ⟨[(false,9,aq),(true,10005,ab7)],[]⟩ (.c (.n 4 (.c .o .o)) .o)) .o) (.r [70000,5] .o)) call39 func39 (aw Jz (aw L4 (aw dY (aw CR ax)))) ax (aw Z4 ax) λ_=>by kernel_rfl
def PF:aA:=⟨104,[(.dat lO []),aq],.bool,[],U2 lu⟩
theorem Ac:Ko PF:=
 aG .o call104 func104 ax
def Qx:aA:=⟨91,[jZ,aY],aq,[],U2 fI⟩
theorem je:Ko Qx:=
 aG (.c .o (.l ⟨[(false,14,aq)],[]⟩ .o)) call91 func91 (aw Ac ax)
def ahd:aA:=⟨92,[pL],.ifn,[],λs=>dN s⟩
theorem Cw:Ko ahd:=
 aG (.r [1] .o) call92 func92 (aw E8 ax)
def Ys:aA:=⟨181,[eR],jB,[],λs=>vX s⟩
def YA(b:Q1):Option Q1:=
A6 b (
some []) (
aN (aH (List.length ([]:zl)+List.length b) 1)<|
some (([]:zl)++b))
theorem Ef:Ko Ys:=
 eB .o call181 func181 ax ax ax λs=>(show _=YA s from by kernel_rfl).trans oZ
def akc:aA:=⟨186,[(.dat wI [none])],ahl,[],λs=>Wn s⟩
theorem abL:Ko akc:=
 aG .o call186 func186 (aw Ef ax)
def WR:aA:=⟨187,[ahl,.bool],iA,[(true,0,ahl)],λs=>yA s.2.2 s.1 s.2.1⟩
theorem PQ:Ko WR:=
 aG (.j ⟨[(true,0,(.bx 317 0 true [jB,.same]))],[]⟩ .o (.j ⟨[(true,0,(.bx 317 0 true [jB,.same]))],[]⟩ (.c (.r [0] .o) .o) .o)) call187 func187 ax
def agM:aA:=⟨178,[(.dat wI [none]),Da,aq],(.cU [(.dat wI [none]),aq]),[],U3 Ll⟩
theorem YX:Ko agM:=
 aG (.c .o (.c .o (.l ⟨[(true,6,(.bx 296 0 true [.same,.same])),(true,8,ahl),(false,9,aq)],[]⟩ (.c (.r [8] .o) .o)))) call178 func178 (aw IN (aw abL (aw PQ ax)))
def G0:aA:=⟨169,[jZ,aY],(.cU [jB,aq]),[],U2 lQ⟩
theorem uB:Ko G0:=
 aG (.c .o (.l ⟨[(true,7,(.bx 296 0 true [eR,aq])),(false,20,aq)],[]⟩ (.c (.r [7] .o) .o))) call169 func169 (aw je (aw yT (aw YX (aw CN ax))))
def adg:aA:=⟨163,[pL,aY],eR,[],U2 eV⟩
theorem fF:Ko adg:=
 aG .o call163 func163 (aw uB ax)
def YZ:aA:=⟨192,[QY],iA,[(true,0,QY)],λs=>Ql s⟩
theorem QH:Ko YZ:=
 aG .o call192 func192 ax
def YR:aA:=⟨193,[QY],iA,[(true,0,QY)],λs=>Qh s⟩
theorem QT:Ko YR:=
 aG .o call193 func193 ax
def YY:aA:=⟨194,[QY],iA,[(true,0,QY)],λs=>PX s⟩
theorem Rx:Ko YY:=
 aG .o call194 func194 ax
def ahY:aA:=⟨190,[eR,Da],Da,[],U2 Fh⟩
theorem CL:Ko ahY:=
 aG (.l ⟨[(true,5,QY),(false,15,aq)],[]⟩ (.c .o (.n 50 .o))) call190 func190 (aw QH (aw QT (aw Rx ax)))
def ada:aA:=⟨189,[Da,aq],aq,[],U2 xm⟩
theorem AL:Ko ada:=
 aG .o call189 func189 ax
def Yo:aA:=⟨191,[eR,eR],.bool,[],U2 we⟩
theorem FO:Ko Yo:=
 aG .o call191 func191 ax
def PH:aA:=⟨183,[Ii,eR],aq,[],U2 fR⟩
theorem Al:Ko PH:=
 aG (.n 0 (.j ⟨[(false,5,aq)],[]⟩ .o .o)) call183 func183 (aw CL (aw AL (aw FO ax)))
def PN:aA:=⟨184,[Ii,eR],Rd,[],U2 yB⟩
theorem Ks:Ko PN:=
 aG .o call184 func184 (aw Al ax)
def abj:aA:=⟨175,[Ii,eR],Rd,[],U2 dT⟩
theorem oY:Ko abj:=
 aG .o call175 func175 (aw Ks ax)
def JT:aA:=⟨183,[(.dat gW [some 148,some 6]),eR],aq,[],U2 oB⟩
theorem F6:Ko JT:=
 aG (.n 0 (.j ⟨[(false,5,aq)],[]⟩ .o .o)) call183 func183 (aw CL (aw AL (aw FO ax)))
def Nf:aA:=⟨182,[(.bx 306 0 true [aq,(.own mJ 74 true),aY]),aq],iA,[(true,0,(.bx 306 0 true [.same,(.own mJ 74 true),aY]))],λs=>rY s.2.2.2 s.1 s.2.1 s.2.2.1⟩
theorem IJ:Ko Nf:=
 aG (.l ⟨[(true,0,(.bx 306 0 true [.same,(.own mJ 74 true),kZ])),(false,18,(.slr 1)),(false,20,aq)],[]⟩ (.c (.r [0] .o) .o)) call182 func182 (aw F6 ax)
def Jg:aA:=⟨170,[Ii,eR],(.cU [Ii,aq,.bool,aq]),[],U2 cm⟩
theorem vP:Ko Jg:=
 aG (.c .o (.c .o (.s (.s (.j ⟨[(true,11,(.bx 306 0 true [.same,(.own mJ 74 true),aY]))],[2]⟩ (.c .o (.r [11] .o)) .o))))) call170 func170 (aw oY (aw Ef (aw IJ (aw dY (aw Al ax)))))
def YQ:aA:=⟨164,[Rn,eR],(.cU [Rn,.bool,aq]),[],U2 BG⟩
theorem Sc:Ko YQ:=
 aG (.c .o (.r [4,40000] .o)) call164 func164 (aw vP ax)
def Kl:aA:=⟨157,[p7,pL,aY],VX,[],U3 lf⟩
theorem F7:Ko Kl:=
 aG (.r [40000] .o) call157 func157 (aw fF (aw Sc ax))
def LY:aA:=⟨209,[jZ,aY],(.fn 212 [] [(.bx 32 0 true [jZ]),Zn]),[],U2 wy⟩
theorem EN:Ko LY:=
 aG .o call209 func209 ax
def LI:aA:=⟨210,[jB,aY],jB,[],U2 wz⟩
theorem EK:Ko LI:=
 aG (.l ⟨[(false,0,jB),(false,10,aq)],[]⟩ (.c (.l ⟨[(false,0,jB),(false,14,aq)],[]⟩ .o) .o)) call210 func210 ax
def P5:aA:=⟨206,[Mz,jZ,aY],aq,[],U3 uR⟩
theorem Yd:(⟨212,Tryz.f212⟩:pM).Ok X0.P:=⟨call212,func212⟩
theorem Jc:Ko P5:=
 eB (.c (.c (.l ⟨[(false,4,aq),(true,10006,(.bx 3 0 true [aq])),(true,10007,(.bx 74 0 true [jB]))],[]⟩ .o) .o) (.r [70000,6,7] .o)) call206 func206 (aw EN (aw uB (aw oY (aw EK ax)))) ax (aw Yd ax) λ_=>by kernel_rfl
def acm:aA:=⟨211,[Ii],aq,[],λs=>yH s⟩
theorem GJ:Ko acm:=
 aG .o call211 func211 ax
def PS:aA:=⟨207,[Mz],aq,[],λs=>BS s⟩
theorem WN:Ko PS:=
 aG .o call207 func207 (aw GJ ax)
def lU:aA:=⟨208,[(.sli gW)],(.own gW 73 true),[],λs=>dC s⟩
def vT(s:(List Q6)):Option (List Q6):=
A6 s (
some []) (
aN (aH (List.length ([]:List Q6)+List.length s) 56)<|
some (([]:List Q6)++s))
theorem tQ:Ko lU:=
 eB .o call208 func208 ax ax ax λs=>(show _=vT s from by kernel_rfl).trans oZ
def CA:aA:=⟨203,[Mz,jZ,aY],(.cU [Mz,.bool,aq]),[],U3 Bw⟩
def Rs(n:Nat)(c:Ao)(o:Q4)(b:(Q4×Q1))(e:(Int×(List Q6)×Q1)->Option Q54):Int×(List Q6)×Q1->Option Q54:=λ⟨a,d,j⟩=>
bif decide ((i64.wrap (a*2))<(b.1.length:Int)) then aN (df (i64.wrap (a*2)) (min (b.1.length:Int) (i64.wrap ((i64.wrap (a+1))*2))) (List.length b.1))<|
aN (df (i64.wrap (a*2)) (min (b.1.length:Int) (i64.wrap ((i64.wrap (a+1))*2))) (List.length b.2))<|
(lQ (aV b.1 (i64.wrap (a*2)) (min (b.1.length:Int) (i64.wrap ((i64.wrap (a+1))*2)))) (aV b.2 (i64.wrap (a*2)) (min (b.1.length:Int) (i64.wrap ((i64.wrap (a+1))*2))))).bind λk=>
(idx d a).bind λl=>
(cm l k.1).bind λf=>
(wz j ([f.2.1]:zl)).bind λg=>
(idx d a).bind λm=>
bif !true then (cm c.2.1 g).bind λi=>
aN (kS 0 (c.2.2.length:Int) (c.2.2.length:Int) (List.length c.2.2)&&((c.2.2.length:Int)==(c.2.2.length:Int)))<|
aN (aH (List.length (aV c.2.2 0 (c.2.2.length:Int))+List.length ([0]:zl)) 1)<|
some (((List.set d (Int.toNat a) f.1),i.1,((aV c.2.2 0 (c.2.2.length:Int))++([0]:zl))),true,0) else e ((i64.wrap (a+1)),(List.set d (Int.toNat a) f.1),g) else (cm c.2.1 j).bind λh=>
aN (kS 0 (c.2.2.length:Int) (c.2.2.length:Int) (List.length c.2.2)&&((c.2.2.length:Int)==(c.2.2.length:Int)))<|
aN (aH (List.length (aV c.2.2 0 (c.2.2.length:Int))+List.length ([0]:zl)) 1)<|
some ((d,h.1,((aV c.2.2 0 (c.2.2.length:Int))++([0]:zl))),true,0)
def YH(fl:Nat)(c:Ao)(s:Q4)(a:Q1):Option Q54:=
(fI s a).bind λb=>
bif b != 0 then some (c,false,b) else (uR c s a).bind λg=>
bif decide (0<=g) then some (c,false,0) else (BS c).bind λf=>
bif decide (c.2.1.1<=f) then some (c,false,7) else (dC c.1).bind λe=>
(wy s a).bind λd=>
aj (Rs fl c s d) fl (0,e,[])
theorem Pq(fl:Nat)(s:fW (sB CA.ps)):aaR { X0 with fl:=fl } [Qx,P5,PS,lU,LY,G0,Jg,LI] [] [⟨212,Tryz.f212⟩] (.c .o (.c .o (.r [] (.c .o (.c (.c (.l ⟨[(false,4,aq),(true,10003,ag4),(true,10006,af3),(true,10010,(.bx 74 0 true [jB]))],[]⟩ .o) (.r [10,3] .o)) (.r [70000,3,6,10] .o)))))) Tryz.f203 CA s=YH fl s.1 s.2.1 s.2.2:=by kernel_rfl
theorem Rz:Ko CA:=
 eB (.c .o (.c .o (.r [] (.c .o (.c (.c (.l ⟨[(false,4,aq),(true,10003,ag4),(true,10006,af3),(true,10010,(.bx 74 0 true [jB]))],[]⟩ .o) (.r [10,3] .o)) (.r [70000,3,6,10] .o)))))) call203 func203 (aw je (aw Jc (aw WN (aw tQ (aw EN (aw uB (aw vP (aw EK ax)))))))) ax (aw Yd ax) λs=>(Pq an s).trans (by kernel_rfl)
def Jx:aA:=⟨197,[p7,pL,aY],VX,[],U3 kj⟩
theorem FU:Ko Jx:=
 aG .o call197 func197 (aw Rz ax)
def WT:aA:=⟨231,[jZ,aY],(.own (.i .u32) 237 true),[],U2 Aa⟩
theorem CP:Ko WT:=
 aG (.l ⟨[(false,5,(.own (.i .u32) 237 true)),(false,10,aq)],[]⟩ .o) call231 func231 ax
def ahQ:aA:=⟨238,[sY,sY],(.dat VJ []),[],U2 KX⟩
theorem LQ:Ko ahQ:=
 aG (.l ⟨[(true,4,(.bx 365 0 true [.same,.same,.same,.same,.same,.same,.same,.same])),(true,5,(.bx 365 0 true [nY,nY,nY,nY,nY,nY,nY,nY])),(false,7,aq)],[]⟩ (.c (.r [5] .o) .o)) call238 func238 ax
def QF:aA:=⟨239,[(.dat VJ [])],eR,[],λs=>uW s⟩
theorem As:Ko QF:=
 aG .o call239 func239 ax
def Z7:aA:=⟨237,[Ii,sY,sY],Rd,[],U3 CZ⟩
theorem SA:Ko Z7:=
 aG .o call237 func237 (aw LQ (aw As (aw oY ax)))
def Rr:bZ:=⟨233,[afE,aq,sY,sY],Mt,none,false,false,sY,[],λs=>rD s.2.1 s.2.2.1 s.2.2.2 s.1⟩
theorem AF:L0 Rr:=
 afx .o call233 func233 (aw SA ax)
def F3:bZ:=⟨236,[afE,aq,Vv],Mt,none,false,false,sY,[],λs=>vh s.2.1 s.2.2 s.1⟩
def ER:TK4->TK4:=λa s=>nB a s.1 s.2.1 s.2.2
theorem IF(a:TK4)(b:OK4 a):(pT (ER a)).Ok X0.P X0.Γ:=
 Nw (.c .o (.r [0] .o)) call236 func236 (aw AN ax) (aw b (aw AF ax)) ax λ_=>by kernel_rfl
theorem Ml:L0 F3:=(show F3=pT (aj (ER) an) by kernel_rfl)▸ZJ (X:=X0) (E:=pT) ⟨call236,λ_ _ h=>nomatch h⟩ (IF) an
def PD:bZ:=⟨230,[afE,Vv],Mt,none,false,false,sY,[],λs=>pa s.2 s.1⟩
theorem Kj:L0 PD:=
 Nw (.c (.r [0] .o) .o) call230 func230 ax (aw AF (aw Ml ax)) ax λ_=>by kernel_rfl
def adI:aA:=⟨226,[M7,jZ,aY],Rd,[],U3 xN⟩
theorem ajQ:(⟨232,Tryz.f232⟩:pM).Ok X0.P:=⟨call232,func232⟩
theorem IV:Ko adI:=
 eB .o call226 func226 (aw CP ax) (aw Kj ax) (aw ajQ ax) λ_=>by kernel_rfl
def aba:aA:=⟨234,[Ii],aq,[],λs=>JZ s⟩
theorem SY:Ko aba:=
 aG .o call234 func234 (aw GJ ax)
def acX:aA:=⟨227,[M7],aq,[],λs=>GV s⟩
theorem VO:Ko acX:=
 aG .o call227 func227 (aw SY ax)
def vK:aA:=⟨228,[(.sli gW)],(.own gW 270 true),[],λs=>fe s⟩
def vD(s:(List Q6)):Option (List Q6):=
A6 s (
some []) (
aN (aH (List.length ([]:List Q6)+List.length s) 56)<|
some (([]:List Q6)++s))
theorem tP:Ko vK:=
 eB .o call228 func228 ax ax ax λs=>(show _=vD s from by kernel_rfl).trans oZ
def Wr:aA:=⟨235,[Ii,sY,sY],(.cU [Ii,aq,.bool,aq]),[],U3 Af⟩
theorem Pz:Ko Wr:=
 aG (.r [40000] .o) call235 func235 (aw LQ (aw As (aw vP ax)))
def MF:aA:=⟨229,[ahR,aq,sY,sY],sY,[(true,0,ag9)],λs=>nu s.2.1 s.2.2.1 s.2.2.2 s.1⟩
theorem xl:Ko MF:=
 aG (.r [0] .o) call229 func229 (aw Pz ax)
def AD:aA:=⟨236,[ahR,aq,Vv],sY,[(true,0,ag9)],λs=>vL s.2.1 s.2.2 s.1⟩
def AB:TK5->TK5:=λa s=>kg a s.1 s.2.1 s.2.2
theorem Fz(a:TK5)(b:OK5 a):(mf (AB a)).Ok X0.P X0.Γ:=
 aG (.c .o (.r [0] .o)) call236 func236 (aw b (aw AN (aw xl ax)))
theorem Iq:Ko AD:=(show AD=mf (aj (AB) an) by kernel_rfl)▸ox (X:=X0) (E:=mf) ⟨call236,λ_ _ h=>nomatch h⟩ (Fz) an
def JR:aA:=⟨230,[ahR,Vv],sY,[(true,0,ag9)],λs=>o6 s.2 s.1⟩
theorem Ge:Ko JR:=
 aG (.c (.r [0] .o) .o) call230 func230 (aw xl (aw Iq ax))
def Y6:aA:=⟨221,[M7,jZ,aY],(.cU [M7,.bool,aq]),[],U3 BH⟩
theorem RG:Ko Y6:=
 aG (.c .o (.c .o (.r [] (.c .o (.r [6,40000] .o))))) call221 func221 (aw je (aw IV (aw VO (aw tP (aw CP (aw Ge ax))))))
def JE:aA:=⟨215,[p7,pL,aY],VX,[],U3 kf⟩
theorem Ez:Ko JE:=
 aG .o call215 func215 (aw RG ax)
def RF:aA:=⟨263,[nY],.bool,[],λs=>u4 s⟩
theorem Mk:Ko RF:=
 aG .o call263 func263 ax
def MK:aA:=⟨257,[nY,nY],aq,[],U2 nz⟩
theorem xE:Ko MK:=
 aG .o call257 func257 (aw Mk ax)
def adl:aA:=⟨256,[(.dat nW []),nY],aq,[],U2 BM⟩
theorem Vx:Ko adl:=
 aG .o call256 func256 (aw xE ax)
def nc:aA:=⟨255,[(.sli nW),nY,(.fn 256 [] [])],Rd,[],U2 bE⟩
theorem fH:Ko nc:=
 aG (.l ⟨[(false,9,aq),(false,10,aq)],[]⟩ .o) call255 func255 (aw Vx ax)
def amv:aA:=⟨251,[ZB,aq,nY],aq,[],U3 BZ⟩
theorem adi:Ko amv:=
 aG .o call251 func251 (aw fH ax)
def ajI:aA:=⟨248,[ZB,eR],.bool,[],U2 rb⟩
theorem yE:Ko ajI:=
 aG (.l ⟨[(false,5,aq),(false,12,aq)],[]⟩ .o) call248 func248 (aw adi ax)
def ahF:aA:=⟨249,[ZB],aq,[],λs=>Lu s⟩
theorem Y5:Ko ahF:=
 aG .o call249 func249 ax
def wN:aA:=⟨252,[(.sli tS)],(.own tS 273 true),[],λs=>dS s⟩
def wV(s:cF):Option cF:=
A6 s (
some []) (
aN (aH (List.length ([]:List (Q4×Int))+List.length s) 32)<|
some (([]:List (Q4×Int))++s))
theorem uU:Ko wN:=
 eB .o call252 func252 ax ax ax λs=>(show _=wV s from by kernel_rfl).trans oZ
def wU:aA:=⟨269,[(.sli nW),(.sli nW)],.bool,[],U2 ga⟩
theorem uY:Ko wU:=
 aG (.c .o (.l ⟨[(false,13,aq)],[]⟩ .o)) call269 func269 ax
def Uz:aA:=⟨264,[(.bx 379 0 false [aq,(.own tS 273 false),aq,aq,UI,(.mp bf .bo false)]),(.sli nW)],Rd,[],λs=>Cv s.2.2.2.2.2.2 s.1 s.2.1 s.2.2.1 s.2.2.2.1 s.2.2.2.2.1 s.2.2.2.2.2.1⟩
theorem NW:Ko Uz:=
 aG (.l ⟨[(false,14,aq)],[]⟩ .o) call264 func264 (aw uY ax)
def K8:aA:=⟨296,[UI],aq,[],λs=>la s⟩
theorem vr:Ko K8:=
 aG .o call296 func296 ax
def IA:aA:=⟨298,[kZ,aq,aq],iA,[(true,0,kZ)],U3 iq⟩
theorem ni:Ko IA:=
 aG (.r [0] .o) call298 func298 ax
def JF:aA:=⟨297,[UI,aq,aq],.bool,[],U3 ir⟩
theorem uM:Ko JF:=
 aG .o call297 func297 ax
def JG:aA:=⟨272,[H3,aq,aq],.bool,[(true,0,H3)],λs=>tf s.2.1 s.2.2 s.1⟩
theorem Fb:Ko JG:=
 aG (.l ⟨[(true,0,H3),(false,7,aq)],[]⟩ (.c .o (.s (.j ⟨[(false,9,aq)],[]⟩ .o .o)))) call272 func272 (aw uM (aw ni ax))
def PA:aA:=⟨299,[afy],Mt,[(true,0,afy)],λs=>x9 s⟩
theorem Kb:Ko PA:=
 aG .o call299 func299 ax
def JY:aA:=⟨270,[H3],Mt,[(true,0,H3)],λs=>oM s⟩
theorem Gb:Ko JY:=
 aG .o call270 func270 (aw vr (aw ni (aw Fb (aw Kb ax))))
def Sf:aA:=⟨265,[alT],aq,[(true,0,aao)],U6 vf⟩
theorem Mr:Ko Sf:=
 aG .o call265 func265 (aw Gb ax)
def SW:aA:=⟨258,[alx,(.sli nW)],aq,[(true,0,amQ)],λs=>sI s.2.2.2.2.2.2 s.1 s.2.1 s.2.2.1 s.2.2.2.1 s.2.2.2.2.1 s.2.2.2.2.2.1⟩
theorem NU:Ko SW:=
 aG (.c .o (.l ⟨[(true,0,(.bx 379 0 true [.same,(.own tS 273 true),.same,.same,.same,.same])),(false,35,aq)],[]⟩ (.c (.r [0] .o) .o))) call258 func258 (aw NW (aw Mr ax))
def adx:aA:=⟨251,[(.dat A5 [some 546,some 6]),aq,nY],aq,[],U3 ND⟩
theorem WO:Ko adx:=
 aG .o call251 func251 (aw fH ax)
def PG:aA:=⟨260,[(.dat nW []),nY],aq,[],U2 yP⟩
theorem Kx:Ko PG:=
 aG .o call260 func260 (aw xE ax)
def lW:aA:=⟨255,[(.own nW 384 false),nY,(.fn 260 [] [])],Rd,[],U2 cu⟩
theorem kY:Ko lW:=
 aG (.l ⟨[(false,9,aq),(false,10,aq)],[]⟩ .o) call255 func255 (aw Kx ax)
def wQ:aA:=⟨259,[(.sli nW)],(.own nW 384 true),[],λs=>fV s⟩
def wM(s:Q4):Option Q4:=
A6 s (
some []) (
aN (aH (List.length ([]:List jq)+List.length s) 16)<|
some (([]:List jq)++s))
theorem u5:Ko wQ:=
 eB .o call259 func259 ax ax ax λs=>(show _=wM s from by kernel_rfl).trans oZ
def Jp:aA:=⟨253,[alx,aq,eR],aq,[(true,0,amQ)],λs=>ym s.2.2.2.2.2.2.1 s.2.2.2.2.2.2.2 s.1 s.2.1 s.2.2.1 s.2.2.2.1 s.2.2.2.2.1 s.2.2.2.2.2.1⟩
def JC:TK6->TK6:=λa s=>mU a s.1 s.2.1 s.2.2.1 s.2.2.2.1 s.2.2.2.2.1 s.2.2.2.2.2.1 s.2.2.2.2.2.2.1 s.2.2.2.2.2.2.2
theorem Mc(a:TK6)(b:OK6 a):(tB (JC a)).Ok X0.P X0.Γ:=
 aG (.c .o (.s (.j ⟨[(false,7,(.own nW 384 true))],[]⟩ .o (.r [0,40000] (.s (.j ⟨[(false,7,(.own nW 384 true))],[8]⟩ .o .o)))))) call253 func253 (aw NU (aw WO (aw b (aw kY (aw adt (aw u5 ax))))))
theorem PC:Ko Jp:=(show Jp=tB (aj (JC) an) by kernel_rfl)▸ox (X:=X0) (E:=tB) ⟨call253,λ_ _ h=>nomatch h⟩ (Mc) an
def N4:aA:=⟨300,[afy,Mt],iA,[(true,0,afy)],λs=>wK s.2 s.1⟩
theorem Jt:Ko N4:=
 aG (.r [0] .o) call300 func300 ax
def HY:aA:=⟨268,[H3,aq],iA,[(true,0,H3)],λs=>rW s.2 s.1⟩
theorem DJ:Ko HY:=
 aG (.l ⟨[(true,0,H3),(false,1,aq)],[]⟩ .o) call268 func268 (aw uM (aw ni ax))
def IY:aA:=⟨262,[H3,Mt],iA,[(true,0,H3)],λs=>nK s.2 s.1⟩
theorem FE:Ko IY:=
 aG .o call262 func262 (aw Jt (aw vr (aw DJ ax)))
def EE:aA:=⟨254,[alT,aq],iA,[(true,0,aao)],λs=>vl s.2.2.2.2.2.2 s.1 s.2.1 s.2.2.1 s.2.2.2.1 s.2.2.2.2.1 s.2.2.2.2.2.1⟩
def Fq:TK7->TK7:=λa s=>sd a s.1 s.2.1 s.2.2.1 s.2.2.2.1 s.2.2.2.2.1 s.2.2.2.2.2.1 s.2.2.2.2.2.2
theorem IU(a:TK7)(b:OK7 a):(pS (Fq a)).Ok X0.P X0.Γ:=
 aG (.c .o (.l ⟨[(true,0,aao),(false,42,aq)],[]⟩ .o)) call254 func254 (aw b (aw FE ax))
theorem Mj:Ko EE:=(show EE=pS (aj (Fq) an) by kernel_rfl)▸ox (X:=X0) (E:=pS) ⟨call254,λ_ _ h=>nomatch h⟩ (IU) an
def aaA:aA:=⟨250,[ZB,eR],(.cU [ZB,.bool,aq]),[],U2 fZ⟩
theorem GW:Ko aaA:=
 aG (.c .o (.c .o (.r [7] (.r [7] (.j ⟨[(true,7,aao)],[]⟩ .o .o))))) call250 func250 (aw yE (aw uU (aw dY (aw PC (aw Mj ax)))))
def Ke:aA:=⟨242,[p7,pL,aY],VX,[],U3 kU⟩
theorem Gw:Ko Ke:=
 aG .o call242 func242 (aw fF (aw yE (aw Y5 (aw GW ax))))
def ace:aA:=⟨291,[eR,Da,aq,aq],kZ,[],U4 pd⟩
theorem pb:Ko ace:=
 aG (.l ⟨[(false,9,kZ),(false,13,aq)],[]⟩ .o) call291 func291 (aw CL (aw AL ax))
def acV:aA:=⟨288,[yJ,eR,(.nT (.int .i64 0)),Wm],iA,[(true,3,Wm)],U3 MJ⟩
theorem VV:Ko acV:=
 aG (.l ⟨[(true,3,Wm),(false,19,aq)],[]⟩ (.c (.r [3] .o) .o)) call288 func288 (aw pb ax)
def afS:aA:=⟨285,[yJ,eR,(.nT (.int .i64 0))],.bool,[],U2 RQ⟩
theorem YG:Ko afS:=
 aG .o call285 func285 (aw VV ax)
def YT:aA:=⟨286,[yJ,eR],.bool,[],U2 wg⟩
theorem EH:Ko YT:=
 aG .o call286 func286 (aw YG ax)
def EG:aA:=⟨173,[eR],jB,[],λs=>cz s⟩
def Fa(s:Q1):Option Q1:=
A6 s (
some []) (
aN (aH (List.length ([]:zl)+List.length s) 1)<|
some (([]:zl)++s))
theorem eU:Ko EG:=
 eB .o call173 func173 ax ax ax λs=>(show _=Fa s from by kernel_rfl).trans oZ
def W7:aA:=⟨288,[(.dat HD [some 11,none,none]),eR,(.nT (.int .i64 0)),(.fn 290 [] [])],iA,[(true,0,(.agg [.same,.same,.same,jB,.same,.same]))],U2 yl⟩
theorem CT:Ko W7:=
 aG (.l ⟨[(true,0,(.agg [.same,.same,.same,jB,.same,.same])),(false,19,aq)],[]⟩ (.c (.r [4,0] .o) .o)) call288 func288 (aw pb ax)
def afU:aA:=⟨287,[yJ,eR,(.nT (.int .i64 0))],(.dat HD [some 11,none,none]),[],U2 Ss⟩
theorem YS:Ko afU:=
 aG .o call287 func287 (aw eU (aw CT ax))
def YO:aA:=⟨282,[yJ,eR],(.cU [yJ,.bool]),[],U2 BE⟩
theorem QL:Ko YO:=
 aG .o call282 func282 (aw EH (aw YS ax))
def Lf:aA:=⟨276,[p7,pL,aY],VX,[],U3 kW⟩
theorem Gh:Ko Lf:=
 aG (.r [40000] .o) call276 func276 (aw fF (aw QL ax))
def VF:aA:=⟨65,[pL,aY],VX,[],U2 dD⟩
theorem Ps:Ko VF:=
 aG (.c .o (.r [2,4] .o)) call65 func65 (aw je (aw Cw (aw F7 (aw FU (aw Ez (aw Gw (aw Gh ax)))))))
def Me:bZ:=⟨40,[W9,aY],QI,none,false,false,.bool,[(true,0,Lq)],λs=>jO (d8 (d8 (d8 (d8 (d8 s))))).2.2.2.2.2 s.1 s.2.1 s.2.2.1 s.2.2.2.1 s.2.2.2.2.1 s.2.2.2.2.2.1 s.2.2.2.2.2.2.1 s.2.2.2.2.2.2.2.1 s.2.2.2.2.2.2.2.2.1 (d8 s).2.1 (d8 s).2.2.1 (d8 s).2.2.2.1 (d8 s).2.2.2.2.1 (d8 s).2.2.2.2.2.1 (d8 s).2.2.2.2.2.2.1 (d8 s).2.2.2.2.2.2.2.1 (d8 (d8 s)).1 (d8 (d8 s)).2.1 (d8 (d8 s)).2.2.1 (d8 (d8 s)).2.2.2.1 (d8 (d8 s)).2.2.2.2.1 (d8 (d8 s)).2.2.2.2.2.1 (d8 (d8 s)).2.2.2.2.2.2.1 (d8 (d8 s)).2.2.2.2.2.2.2.1 (d8 (d8 (d8 s))).1 (d8 (d8 (d8 s))).2.1 (d8 (d8 (d8 s))).2.2.1 (d8 (d8 (d8 s))).2.2.2.1 (d8 (d8 (d8 s))).2.2.2.2.1 (d8 (d8 (d8 s))).2.2.2.2.2.1 (d8 (d8 (d8 s))).2.2.2.2.2.2.1 (d8 (d8 (d8 s))).2.2.2.2.2.2.2.1 (d8 (d8 (d8 (d8 s)))).1 (d8 (d8 (d8 (d8 s)))).2.1 (d8 (d8 (d8 (d8 s)))).2.2.1 (d8 (d8 (d8 (d8 s)))).2.2.2.1 (d8 (d8 (d8 (d8 s)))).2.2.2.2.1 (d8 (d8 (d8 (d8 s)))).2.2.2.2.2.1 (d8 (d8 (d8 (d8 s)))).2.2.2.2.2.2.1 (d8 (d8 (d8 (d8 s)))).2.2.2.2.2.2.2.1 (d8 (d8 (d8 (d8 (d8 s))))).1 (d8 (d8 (d8 (d8 (d8 s))))).2.1 (d8 (d8 (d8 (d8 (d8 s))))).2.2.1 (d8 (d8 (d8 (d8 (d8 s))))).2.2.2.1 (d8 (d8 (d8 (d8 (d8 s))))).2.2.2.2.1⟩
theorem pj:L0 Me:=
 afx (.s (.s (.j ⟨[],[]⟩ .o .o))) call40 func40 (aw Ps ax)
def aaS:aA:=⟨94,[aY],(.cU [aY,aq]),[],λs=>yz s⟩
theorem Hh:Ko aaS:=
 aG .o call94 func94 ax
def acf:aA:=⟨111,[rQ,aY],(.fn 121 [] [(.bx 35 0 true [(.sli .s),jZ,aY,(.sli .s),(.sli Cq)]),Zn]),[],U2 Kg⟩
theorem S4:Ko acf:=
 aG .o call111 func111 ax
def V1:aA:=⟨122,[rQ,aY],kZ,[],U2 ED⟩
def Pr(f:Ex->Ex)(h:Sh->(R:Type)->Option R->Option R)(m:il)(d:Q1)(a:fL->Option Q1):Q1×Int->Option Q1:=λ⟨b,c⟩=>
bif decide (c<(m.2.2.2.2.length:Int)) then (idx m.2.2.2.2 c).bind λg=>
(rS (f g.2.1) d).bind λe=>
bif e==1 then aN (aH (List.length b+List.length ([c]:zl)) 8)<|
a ((b++([c]:zl)),(i64.wrap (c+1))) else a (b,(i64.wrap (c+1))) else some b
def AM(b:Ex->Ex)(c:Sh->(R:Type)->Option R->Option R)(m:il)(a:Q1):Option Q1:=
aj (Pr b c m a) an ([],0)
theorem PO:Ko V1:=
 eB (.l ⟨[(false,5,kZ),(false,11,aq)],[]⟩ .o) call122 func122 (aw Bm ax) ax ax λs=>(show _=AM lN eN s.1 s.2 from by kernel_rfl).trans ((congrArg (λa=>AM a eN s.1 s.2) dZ).trans ((congrArg (λb=>AM id b s.1 s.2) fS).trans (by kernel_rfl)))
def Vu:aA:=⟨91,[jZ,UI],aq,[],U2 uK⟩
theorem Pv:Ko Vu:=
 aG (.c .o (.l ⟨[(false,14,aq)],[]⟩ .o)) call91 func91 (aw Ac ax)
def adm:aA:=⟨123,[rQ,aY,aq],(.cU [kZ,aq]),[],U3 Hk⟩
def V7(i:Ex->Ex)(k:Sh->(R:Type)->Option R->Option R)(m:il)(f:Q1)(e:Q55)(a:fL->Option fL):Q1×Int->Option fL:=λ⟨b,c⟩=>
bif decide (c<(e.2.2.length:Int)) then (idx e.2.2 c).bind λd=>
(rS (i d.2) f).bind λh=>
(idx b d.1).bind λj=>
a ((List.set b (Int.toNat d.1) h),(i64.wrap (c+1))) else (uK m.2.1 b).bind λg=>
bif g != 0 then some ([],6) else some (b,0)
def Iv(c:Ex->Ex)(g:Sh->(R:Type)->Option R->Option R)(m:il)(a:Q1)(k:Int):Option fL:=
ai (decide (k<0)) λh=>
ai (decide ((m.2.2.2.2.length:Int)<=k)) λf=>
ai (h||f) λe=>
bif e then (
some ([],10)) else (
(bz a).bind λb=>
(idx m.2.2.2.2 k).bind λd=>
aj (V7 c g m a d) an (b,0))
theorem Wy:Ko adm:=
 eB (.c .o (.l ⟨[(true,8,kZ),(false,29,aq)],[]⟩ (.c (.r [8] .o) .o))) call123 func123 (aw dY (aw Bm (aw Pv ax))) ax ax λs=>(show _=Iv lN eN s.1 s.2.1 s.2.2 from by kernel_rfl).trans ((congrArg (λa=>Iv a eN s.1 s.2.1 s.2.2) dZ).trans ((congrArg (λb=>Iv id b s.1 s.2.1 s.2.2) fS).trans (by kernel_rfl)))
def Cj:aA:=⟨136,[(.bx 243 0 true [.sfp,(.own aW 5 false)])],iA,[(true,0,(.bx 243 0 true [.sfp,.same]))],U2 ji⟩
theorem o9:Ko Cj:=
 aG .o call136 func136 ax
def Am:aA:=⟨130,[WG,.str],(.cU [aq,(.nT (.raw .nilIface))]),[(true,0,WG)],λs=>ig s.2.2 s.1 s.2.1⟩
theorem xd:Ko Am:=
 aG .o call130 func130 (aw o9 ax)
def Cf:aA:=⟨132,[WG,nY],(.nT (.raw .nilIface)),[(true,0,WG)],λs=>jh s.2.2 s.1 s.2.1⟩
theorem yF:Ko Cf:=
 aG .o call132 func132 (aw o9 ax)
def Fg:aA:=⟨133,[WG],.str,[],U2 kF⟩
theorem Ci:Ko Fg:=
 aG (.r [0] .o) call133 func133 ax
def adk:aA:=⟨124,[aY],.str,[],λs=>MH s⟩
theorem Vt:Ko adk:=
 aG (.l ⟨[(true,3,WG),(false,8,aq)],[]⟩ .o) call124 func124 (aw ajk (aw xd (aw yF (aw Ci ax))))
def Ub:aA:=⟨112,[am6,aY],iA,[(true,0,am6)],λs=>ov s.2.2 s.1 s.2.1⟩
theorem Oc:Ko Ub:=
 aG (.j ⟨[(true,0,(.bx 218 0 true [.same,(.mp .s .bo true)]))],[]⟩ .o .o) call112 func112 (aw Vt ax)
def ac8:aA:=⟨105,[rQ,aY],Sv,[],U2 GH⟩
theorem ai1:(⟨121,Tryz.f121⟩:pM).Ok X0.P:=⟨call121,func121⟩
theorem V8:Ko ac8:=
 eB (.c (.c (.l ⟨[(false,10,aq),(true,10004,(.bx 23 0 true [.same])),(true,10005,(.bx 42 0 true [aq])),(true,10006,am6)],[]⟩ .o) .o) (.r [70000,4,5,6] .o)) call105 func105 (aw S4 (aw PO (aw Wy (aw Oc (aw dY ax))))) ax (aw ai1 ax) λ_=>by kernel_rfl
def ac7:aA:=⟨93,[rQ,my,aY],Sv,[],U3 xF⟩
theorem VE:Ko ac7:=
 eB (.c .o (.l ⟨[(true,12,ab7),(false,32,aq)],[]⟩ (.c (.r [] (.c (.c (.l ⟨[(false,9,aq),(true,10012,ab7)],[]⟩ (.c (.n 4 (.c .o .o)) .o)) .o) (.r [70000,12] .o))) .o))) call93 func93 (aw Hh (aw V8 (aw Jz (aw L4 (aw dY (aw CR ax)))))) ax (aw Z4 ax) λ_=>by kernel_rfl
def JI:bZ:=⟨66,[(.bx 100 0 false QL4),(.own CI 171 true),aY],QI,none,false,false,(.own CI 171 true),[],λs=>fO (d8 (d8 (d8 (d8 (d8 s))))).2.2.2.2.2.1 (d8 (d8 (d8 (d8 (d8 s))))).2.2.2.2.2.2 s.1 s.2.1 s.2.2.1 s.2.2.2.1 s.2.2.2.2.1 s.2.2.2.2.2.1 s.2.2.2.2.2.2.1 s.2.2.2.2.2.2.2.1 s.2.2.2.2.2.2.2.2.1 (d8 s).2.1 (d8 s).2.2.1 (d8 s).2.2.2.1 (d8 s).2.2.2.2.1 (d8 s).2.2.2.2.2.1 (d8 s).2.2.2.2.2.2.1 (d8 s).2.2.2.2.2.2.2.1 (d8 (d8 s)).1 (d8 (d8 s)).2.1 (d8 (d8 s)).2.2.1 (d8 (d8 s)).2.2.2.1 (d8 (d8 s)).2.2.2.2.1 (d8 (d8 s)).2.2.2.2.2.1 (d8 (d8 s)).2.2.2.2.2.2.1 (d8 (d8 s)).2.2.2.2.2.2.2.1 (d8 (d8 (d8 s))).1 (d8 (d8 (d8 s))).2.1 (d8 (d8 (d8 s))).2.2.1 (d8 (d8 (d8 s))).2.2.2.1 (d8 (d8 (d8 s))).2.2.2.2.1 (d8 (d8 (d8 s))).2.2.2.2.2.1 (d8 (d8 (d8 s))).2.2.2.2.2.2.1 (d8 (d8 (d8 s))).2.2.2.2.2.2.2.1 (d8 (d8 (d8 (d8 s)))).1 (d8 (d8 (d8 (d8 s)))).2.1 (d8 (d8 (d8 (d8 s)))).2.2.1 (d8 (d8 (d8 (d8 s)))).2.2.2.1 (d8 (d8 (d8 (d8 s)))).2.2.2.2.1 (d8 (d8 (d8 (d8 s)))).2.2.2.2.2.1 (d8 (d8 (d8 (d8 s)))).2.2.2.2.2.2.1 (d8 (d8 (d8 (d8 s)))).2.2.2.2.2.2.2.1 (d8 (d8 (d8 (d8 (d8 s))))).1 (d8 (d8 (d8 (d8 (d8 s))))).2.1 (d8 (d8 (d8 (d8 (d8 s))))).2.2.1 (d8 (d8 (d8 (d8 (d8 s))))).2.2.2.1 (d8 (d8 (d8 (d8 (d8 s))))).2.2.2.2.1⟩
theorem uq:L0 JI:=
 afx (.s (.j ⟨[],[]⟩ .o (.r [] (.j ⟨[],[]⟩ .o .o)))) call66 func66 (aw VE ax)
def Ir:aA:=⟨106,[aY,aq],aq,[],U2 sE⟩
theorem Dy:Ko Ir:=
 aG (.l ⟨[(false,8,aq)],[]⟩ .o) call106 func106 ax
def C6:aA:=⟨95,[aY,aq],.bool,[],U2 ob⟩
theorem Bc:Ko C6:=
 aG .o call95 func95 (aw Dy ax)
def acA:aA:=⟨67,[my,aY],.bool,[],U2 yO⟩
theorem Um:Ko acA:=
 aG .o call67 func67 (aw Hh (aw Bc ax))
def Dn:aA:=⟨72,[V0],iA,[],λs=>vx s⟩
theorem AO:Ko Dn:=
 aG .o call72 func72 ax
def Hz:aA:=⟨69,[aY,aY],.bool,[],U2 mF⟩
theorem Dd:Ko Hz:=
 aG (.c .o (.l ⟨[(false,13,aq)],[]⟩ .o)) call69 func69 ax
def Yt:aA:=⟨70,[(.sli CI)],uz,[],λs=>BK s⟩
theorem RZ:Ko Yt:=
 aG (.l ⟨[(false,3,uz),(false,8,aq)],[]⟩ .o) call70 func70 ax
def DP:bZ:=⟨68,[V0,aY,abq,(.bx 123 0 false [V0])],ZW,none,false,true,iA,[],U4 kb⟩
theorem AP:L0 DP:=
 afx (.c (.r [80000] .o) .o) call68 func68 (aw Dd (aw RZ ax))
def agd:aA:=⟨174,[aq],nY,[],λs=>EZ s⟩
theorem LW:Ko agd:=
 aG .o call174 func174 ax
def Y1:aA:=⟨168,[aq,nY,agq,Zh],iA,[(true,3,Zh)],U7 HO⟩
theorem Ro:Ko Y1:=
 aG .o call168 func168 ax
def ajg:aA:=⟨167,[Rn,eR,aq,(.fn 168 [] [agq,Zh])],aq,[(true,3,(.fn 168 [] [.same,Zh]))],U8 Wt⟩
theorem aaY:Ko ajg:=
 aG .o call167 func167 (aw LW (aw oY (aw Ro ax)))
def agE:aA:=⟨162,[Rn,eR,aq],Iy,[],U3 J3⟩
theorem Yn:Ko agE:=
 aG .o call162 func162 (aw aaY ax)
def PB:aA:=⟨156,[p7,pL,aY,aq],Iy,[],U4 oF⟩
theorem LA:Ko PB:=
 aG (.r [5] .o) call156 func156 (aw fF (aw Yn ax))
def ajn:aA:=⟨205,[Mz,jZ,aY,aq],(.cU [aq,aq]),[],U4 DW⟩
theorem NM:Ko ajn:=
 aG .o call205 func205 (aw je (aw Jc ax))
def ahL:aA:=⟨202,[Mz,jZ,aY,aq],Iy,[],U4 KD⟩
theorem YU:Ko ahL:=
 aG .o call202 func202 (aw NM ax)
def M6:aA:=⟨196,[p7,pL,aY,aq],Iy,[],U4 nF⟩
theorem I0:Ko M6:=
 aG .o call196 func196 (aw YU ax)
def ajY:aA:=⟨225,[M7,jZ,aY,aq],(.cU [aq,aq]),[],U4 D7⟩
theorem M9:Ko ajY:=
 aG .o call225 func225 (aw je (aw IV ax))
def ahZ:aA:=⟨220,[M7,jZ,aY,aq],Iy,[],U4 Ki⟩
theorem Yr:Ko ahZ:=
 aG .o call220 func220 (aw M9 ax)
def Na:aA:=⟨214,[p7,pL,aY,aq],Iy,[],U4 ng⟩
theorem IQ:Ko Na:=
 aG .o call214 func214 (aw Yr ax)
def Uc:aA:=⟨247,[pL,aY,aq],aq,[],U3 sJ⟩
theorem Cn:Ko Uc:=
 aG (.c .o (.r [3] .o)) call247 func247 (aw fF (aw yE ax))
def PL:aA:=⟨241,[p7,pL,aY,aq],Iy,[],U4 oI⟩
theorem Kr:Ko PL:=
 aG (.c .o (.r [5] .o)) call241 func241 (aw Cn (aw fF (aw yE ax)))
def agV:aA:=⟨284,[yJ,eR,aq],aq,[],U3 Eo⟩
theorem LK:Ko agV:=
 aG .o call284 func284 (aw EH ax)
def VA:aA:=⟨288,[yJ,eR,aq,Wm],iA,[(true,3,Wm)],U4 Em⟩
theorem PM:Ko VA:=
 aG (.l ⟨[(true,3,Wm),(false,19,aq)],[]⟩ (.c (.r [3] .o) .o)) call288 func288 (aw pb ax)
def Yy:aA:=⟨285,[yJ,eR,aq],.bool,[],U3 Bv⟩
theorem Ri:Ko Yy:=
 aG .o call285 func285 (aw PM ax)
def afP:aA:=⟨281,[yJ,eR,aq],Iy,[],U3 Lt⟩
theorem Yx:Ko afP:=
 aG .o call281 func281 (aw LK (aw Ri ax))
def Pu:aA:=⟨275,[p7,pL,aY,aq],Iy,[],U4 oK⟩
theorem Kw:Ko Pu:=
 aG (.r [5] .o) call275 func275 (aw fF (aw Yx ax))
def ac9:aA:=⟨96,[pL,aY,aq],Iy,[],U3 dP⟩
theorem WZ:Ko ac9:=
 aG (.c .o (.r [3] .o)) call96 func96 (aw je (aw Cw (aw LA (aw I0 (aw IQ (aw Kr (aw Kw ax)))))))
def YI:aA:=⟨172,[aq,nY,agq,amz],iA,[(true,3,(.bx 76 0 true [.same,.same,.same,eR]))],λs=>H7 s.1 s.2.1 s.2.2.1 s.2.2.2.1 s.2.2.2.2.1 s.2.2.2.2.2.1 s.2.2.2.2.2.2.1 s.2.2.2.2.2.2.2.1 s.2.2.2.2.2.2.2.2.1 (d8 s).2⟩
theorem Se:Ko YI:=
 aG .o call172 func172 (aw eU ax)
def aaP:aA:=⟨167,[Rn,eR,aq,(.fn 172 [] [agq,amz])],aq,[(true,3,(.fn 172 [] [.same,amz]))],λs=>Lh s.1 s.2.1 s.2.2.1 s.2.2.2.1 s.2.2.2.2.1 s.2.2.2.2.2.1 s.2.2.2.2.2.2.1 s.2.2.2.2.2.2.2.1 s.2.2.2.2.2.2.2.2.1 (d8 s).2.1 (d8 s).2.2⟩
theorem UD:Ko aaP:=
 aG .o call167 func167 (aw LW (aw oY (aw Se ax)))
def agb:aA:=⟨165,[Rn,eR,aq],(.cU [Rn,aq]),[],U3 LD⟩
theorem YM:Ko agb:=
 aG .o call165 func165 (aw UD ax)
def PJ:aA:=⟨160,[p7,pL,aY,aq],Lg,[],U4 oP⟩
theorem Kc:Ko PJ:=
 aG (.r [40000] .o) call160 func160 (aw fF (aw YM ax))
def ahz:aA:=⟨204,[Mz,jZ,aY,aq],(.cU [Mz,aq]),[],U4 KV⟩
theorem Ym:Ko ahz:=
 aG (.c .o (.r [4] .o)) call204 func204 (aw NM (aw eU ax))
def Ob:aA:=⟨200,[p7,pL,aY,aq],Lg,[],U4 mZ⟩
theorem Jm:Ko Ob:=
 aG .o call200 func200 (aw Ym ax)
def ag1:aA:=⟨222,[M7,jZ,aY,aq],(.cU [M7,aq]),[],U4 Lo⟩
theorem YE:Ko ag1:=
 aG (.c .o (.r [4] .o)) call222 func222 (aw M9 (aw eU ax))
def Nc:aA:=⟨218,[p7,pL,aY,aq],Lg,[],U4 nE⟩
theorem JB:Ko Nc:=
 aG .o call218 func218 (aw YE ax)
def Px:aA:=⟨245,[p7,pL,aY,aq],Lg,[],U4 oL⟩
theorem KE:Ko Px:=
 aG (.c .o (.r [5] .o)) call245 func245 (aw Cn (aw fF (aw GW ax)))
def VR:aA:=⟨288,[(.dat HD [none,some 11,none]),eR,(.nT (.int .i64 1)),(.fn 290 [] [])],iA,[(true,0,(.agg [.same,.same,.same,.same,jB,.same]))],U2 Ew⟩
theorem PK:Ko VR:=
 aG (.l ⟨[(true,0,(.agg [.same,.same,.same,.same,jB,.same])),(false,19,aq)],[]⟩ (.c (.r [4,0] .o) .o)) call288 func288 (aw pb ax)
def VT:aA:=⟨288,[(.dat HD [none,none,some 11]),eR,(.nT (.int .i64 2)),(.fn 290 [] [])],iA,[(true,0,(.agg [.same,.same,.same,.same,.same,jB]))],U2 Eb⟩
theorem Pw:Ko VT:=
 aG (.l ⟨[(true,0,(.agg [.same,.same,.same,.same,.same,jB])),(false,19,aq)],[]⟩ (.c (.r [4,0] .o) .o)) call288 func288 (aw pb ax)
def YK:aA:=⟨287,[yJ,eR,aq],yJ,[],U3 BI⟩
theorem Sq:Ko YK:=
 aG (.r [60000,2,0,0,1,2] (.c .o (.c .o (.c .o (.n 77777 .o))))) call287 func287 (aw eU (aw CT (aw PK (aw Pw ax))))
def af4:aA:=⟨283,[yJ,eR,aq],(.cU [yJ,aq]),[],U3 J5⟩
theorem YD:Ko af4:=
 aG .o call283 func283 (aw LK (aw Sq ax))
def Py:aA:=⟨279,[p7,pL,aY,aq],Lg,[],U4 oS⟩
theorem KI:Ko Py:=
 aG (.r [40000] .o) call279 func279 (aw fF (aw YD ax))
def acZ:aA:=⟨97,[pL,aY,aq],Lg,[],U3 gB⟩
theorem VQ:Ko acZ:=
 aG (.c .o (.r [3,6] .o)) call97 func97 (aw je (aw Cw (aw Kc (aw Jm (aw JB (aw KE (aw KI ax)))))))
def Mo:bZ:=⟨71,[W9,aY],QI,none,false,false,.bool,[(true,0,Lq)],λs=>pV (d8 (d8 (d8 (d8 (d8 s))))).2.2.2.2.2 s.1 s.2.1 s.2.2.1 s.2.2.2.1 s.2.2.2.2.1 s.2.2.2.2.2.1 s.2.2.2.2.2.2.1 s.2.2.2.2.2.2.2.1 s.2.2.2.2.2.2.2.2.1 (d8 s).2.1 (d8 s).2.2.1 (d8 s).2.2.2.1 (d8 s).2.2.2.2.1 (d8 s).2.2.2.2.2.1 (d8 s).2.2.2.2.2.2.1 (d8 s).2.2.2.2.2.2.2.1 (d8 (d8 s)).1 (d8 (d8 s)).2.1 (d8 (d8 s)).2.2.1 (d8 (d8 s)).2.2.2.1 (d8 (d8 s)).2.2.2.2.1 (d8 (d8 s)).2.2.2.2.2.1 (d8 (d8 s)).2.2.2.2.2.2.1 (d8 (d8 s)).2.2.2.2.2.2.2.1 (d8 (d8 (d8 s))).1 (d8 (d8 (d8 s))).2.1 (d8 (d8 (d8 s))).2.2.1 (d8 (d8 (d8 s))).2.2.2.1 (d8 (d8 (d8 s))).2.2.2.2.1 (d8 (d8 (d8 s))).2.2.2.2.2.1 (d8 (d8 (d8 s))).2.2.2.2.2.2.1 (d8 (d8 (d8 s))).2.2.2.2.2.2.2.1 (d8 (d8 (d8 (d8 s)))).1 (d8 (d8 (d8 (d8 s)))).2.1 (d8 (d8 (d8 (d8 s)))).2.2.1 (d8 (d8 (d8 (d8 s)))).2.2.2.1 (d8 (d8 (d8 (d8 s)))).2.2.2.2.1 (d8 (d8 (d8 (d8 s)))).2.2.2.2.2.1 (d8 (d8 (d8 (d8 s)))).2.2.2.2.2.2.1 (d8 (d8 (d8 (d8 s)))).2.2.2.2.2.2.2.1 (d8 (d8 (d8 (d8 (d8 s))))).1 (d8 (d8 (d8 (d8 (d8 s))))).2.1 (d8 (d8 (d8 (d8 (d8 s))))).2.2.1 (d8 (d8 (d8 (d8 (d8 s))))).2.2.2.1 (d8 (d8 (d8 (d8 (d8 s))))).2.2.2.2.1⟩
theorem HC:L0 Mo:=
 Nw .o call71 func71 (aw WZ (aw VQ ax)) (aw pj ax) ax λ_=>by kernel_rfl
def Jw:bZ:=⟨41,[W9,aY,(.fn 71 [(.ptr 0 0)] []),(.fn 68 [] [abq,(.bx 123 0 false [V0])]),(.fn 72 [] [])],QI,some ZW,false,true,iA,[(true,0,Lq)],λs=>nR (d8 (d8 (d8 (d8 (d8 s))))).2.2.2.2.2.1 s.1 s.2.1 s.2.2.1 s.2.2.2.1 s.2.2.2.2.1 s.2.2.2.2.2.1 s.2.2.2.2.2.2.1 s.2.2.2.2.2.2.2.1 s.2.2.2.2.2.2.2.2.1 (d8 s).2.1 (d8 s).2.2.1 (d8 s).2.2.2.1 (d8 s).2.2.2.2.1 (d8 s).2.2.2.2.2.1 (d8 s).2.2.2.2.2.2.1 (d8 s).2.2.2.2.2.2.2.1 (d8 (d8 s)).1 (d8 (d8 s)).2.1 (d8 (d8 s)).2.2.1 (d8 (d8 s)).2.2.2.1 (d8 (d8 s)).2.2.2.2.1 (d8 (d8 s)).2.2.2.2.2.1 (d8 (d8 s)).2.2.2.2.2.2.1 (d8 (d8 s)).2.2.2.2.2.2.2.1 (d8 (d8 (d8 s))).1 (d8 (d8 (d8 s))).2.1 (d8 (d8 (d8 s))).2.2.1 (d8 (d8 (d8 s))).2.2.2.1 (d8 (d8 (d8 s))).2.2.2.2.1 (d8 (d8 (d8 s))).2.2.2.2.2.1 (d8 (d8 (d8 s))).2.2.2.2.2.2.1 (d8 (d8 (d8 s))).2.2.2.2.2.2.2.1 (d8 (d8 (d8 (d8 s)))).1 (d8 (d8 (d8 (d8 s)))).2.1 (d8 (d8 (d8 (d8 s)))).2.2.1 (d8 (d8 (d8 (d8 s)))).2.2.2.1 (d8 (d8 (d8 (d8 s)))).2.2.2.2.1 (d8 (d8 (d8 (d8 s)))).2.2.2.2.2.1 (d8 (d8 (d8 (d8 s)))).2.2.2.2.2.2.1 (d8 (d8 (d8 (d8 s)))).2.2.2.2.2.2.2.1 (d8 (d8 (d8 (d8 (d8 s))))).1 (d8 (d8 (d8 (d8 (d8 s))))).2.1 (d8 (d8 (d8 (d8 (d8 s))))).2.2.1 (d8 (d8 (d8 (d8 (d8 s))))).2.2.2.1 (d8 (d8 (d8 (d8 (d8 s))))).2.2.2.2.1 (d8 (d8 (d8 (d8 (d8 s))))).2.2.2.2.2.2.1 (d8 (d8 (d8 (d8 (d8 s))))).2.2.2.2.2.2.2⟩
theorem E4:L0 Jw:=
 Nw (.l ⟨[(true,0,Lq),(false,11,(.own CI 171 true))],[]⟩ .o) call41 func41 (aw AO ax) (aw uq (aw AP (aw HC ax))) ax λ_=>by kernel_rfl
def Hs:bZ:=⟨43,[W9,V0],QI,some ZW,false,true,iA,[(true,0,Lq)],λs=>me (d8 (d8 (d8 (d8 (d8 s))))).2.2.2.2.2 s.1 s.2.1 s.2.2.1 s.2.2.2.1 s.2.2.2.2.1 s.2.2.2.2.2.1 s.2.2.2.2.2.2.1 s.2.2.2.2.2.2.2.1 s.2.2.2.2.2.2.2.2.1 (d8 s).2.1 (d8 s).2.2.1 (d8 s).2.2.2.1 (d8 s).2.2.2.2.1 (d8 s).2.2.2.2.2.1 (d8 s).2.2.2.2.2.2.1 (d8 s).2.2.2.2.2.2.2.1 (d8 (d8 s)).1 (d8 (d8 s)).2.1 (d8 (d8 s)).2.2.1 (d8 (d8 s)).2.2.2.1 (d8 (d8 s)).2.2.2.2.1 (d8 (d8 s)).2.2.2.2.2.1 (d8 (d8 s)).2.2.2.2.2.2.1 (d8 (d8 s)).2.2.2.2.2.2.2.1 (d8 (d8 (d8 s))).1 (d8 (d8 (d8 s))).2.1 (d8 (d8 (d8 s))).2.2.1 (d8 (d8 (d8 s))).2.2.2.1 (d8 (d8 (d8 s))).2.2.2.2.1 (d8 (d8 (d8 s))).2.2.2.2.2.1 (d8 (d8 (d8 s))).2.2.2.2.2.2.1 (d8 (d8 (d8 s))).2.2.2.2.2.2.2.1 (d8 (d8 (d8 (d8 s)))).1 (d8 (d8 (d8 (d8 s)))).2.1 (d8 (d8 (d8 (d8 s)))).2.2.1 (d8 (d8 (d8 (d8 s)))).2.2.2.1 (d8 (d8 (d8 (d8 s)))).2.2.2.2.1 (d8 (d8 (d8 (d8 s)))).2.2.2.2.2.1 (d8 (d8 (d8 (d8 s)))).2.2.2.2.2.2.1 (d8 (d8 (d8 (d8 s)))).2.2.2.2.2.2.2.1 (d8 (d8 (d8 (d8 (d8 s))))).1 (d8 (d8 (d8 (d8 (d8 s))))).2.1 (d8 (d8 (d8 (d8 (d8 s))))).2.2.1 (d8 (d8 (d8 (d8 (d8 s))))).2.2.2.1 (d8 (d8 (d8 (d8 (d8 s))))).2.2.2.2.1⟩
theorem Dg:L0 Hs:=
 Nw .o call43 func43 (aw Um ax) (aw E4 ax) ax λ_=>by kernel_rfl
def DC:aA:=⟨42,[V0,aY],iA,[],U2 vn⟩
theorem A4:Ko DC:=
 aG .o call42 func42 ax
def Ox:bZ:=⟨41,[W9,aY,(.fn 40 [(.ptr 0 0)] []),(.fn 42 [] []),(.fn 43 [(.ptr 0 0)] [])],QI,some ZW,false,false,iA,[(true,0,Lq)],λs=>xk (d8 (d8 (d8 (d8 (d8 s))))).2.2.2.2.2 s.1 s.2.1 s.2.2.1 s.2.2.2.1 s.2.2.2.2.1 s.2.2.2.2.2.1 s.2.2.2.2.2.2.1 s.2.2.2.2.2.2.2.1 s.2.2.2.2.2.2.2.2.1 (d8 s).2.1 (d8 s).2.2.1 (d8 s).2.2.2.1 (d8 s).2.2.2.2.1 (d8 s).2.2.2.2.2.1 (d8 s).2.2.2.2.2.2.1 (d8 s).2.2.2.2.2.2.2.1 (d8 (d8 s)).1 (d8 (d8 s)).2.1 (d8 (d8 s)).2.2.1 (d8 (d8 s)).2.2.2.1 (d8 (d8 s)).2.2.2.2.1 (d8 (d8 s)).2.2.2.2.2.1 (d8 (d8 s)).2.2.2.2.2.2.1 (d8 (d8 s)).2.2.2.2.2.2.2.1 (d8 (d8 (d8 s))).1 (d8 (d8 (d8 s))).2.1 (d8 (d8 (d8 s))).2.2.1 (d8 (d8 (d8 s))).2.2.2.1 (d8 (d8 (d8 s))).2.2.2.2.1 (d8 (d8 (d8 s))).2.2.2.2.2.1 (d8 (d8 (d8 s))).2.2.2.2.2.2.1 (d8 (d8 (d8 s))).2.2.2.2.2.2.2.1 (d8 (d8 (d8 (d8 s)))).1 (d8 (d8 (d8 (d8 s)))).2.1 (d8 (d8 (d8 (d8 s)))).2.2.1 (d8 (d8 (d8 (d8 s)))).2.2.2.1 (d8 (d8 (d8 (d8 s)))).2.2.2.2.1 (d8 (d8 (d8 (d8 s)))).2.2.2.2.2.1 (d8 (d8 (d8 (d8 s)))).2.2.2.2.2.2.1 (d8 (d8 (d8 (d8 s)))).2.2.2.2.2.2.2.1 (d8 (d8 (d8 (d8 (d8 s))))).1 (d8 (d8 (d8 (d8 (d8 s))))).2.1 (d8 (d8 (d8 (d8 (d8 s))))).2.2.1 (d8 (d8 (d8 (d8 (d8 s))))).2.2.2.1 (d8 (d8 (d8 (d8 (d8 s))))).2.2.2.2.1⟩
theorem Jk:L0 Ox:=
 Nw (.l ⟨[(true,0,Lq),(false,11,(.own CI 171 true))],[]⟩ .o) call41 func41 (aw A4 ax) (aw uq (aw Dg (aw pj ax))) ax λ_=>by kernel_rfl
def Mp:bZ:=⟨25,[W9],QI,some ZW,false,false,iA,[(true,0,Lq)],λs=>pW s.1 s.2.1 s.2.2.1 s.2.2.2.1 s.2.2.2.2.1 s.2.2.2.2.2.1 s.2.2.2.2.2.2.1 s.2.2.2.2.2.2.2.1 s.2.2.2.2.2.2.2.2.1 (d8 s).2.1 (d8 s).2.2.1 (d8 s).2.2.2.1 (d8 s).2.2.2.2.1 (d8 s).2.2.2.2.2.1 (d8 s).2.2.2.2.2.2.1 (d8 s).2.2.2.2.2.2.2.1 (d8 (d8 s)).1 (d8 (d8 s)).2.1 (d8 (d8 s)).2.2.1 (d8 (d8 s)).2.2.2.1 (d8 (d8 s)).2.2.2.2.1 (d8 (d8 s)).2.2.2.2.2.1 (d8 (d8 s)).2.2.2.2.2.2.1 (d8 (d8 s)).2.2.2.2.2.2.2.1 (d8 (d8 (d8 s))).1 (d8 (d8 (d8 s))).2.1 (d8 (d8 (d8 s))).2.2.1 (d8 (d8 (d8 s))).2.2.2.1 (d8 (d8 (d8 s))).2.2.2.2.1 (d8 (d8 (d8 s))).2.2.2.2.2.1 (d8 (d8 (d8 s))).2.2.2.2.2.2.1 (d8 (d8 (d8 s))).2.2.2.2.2.2.2.1 (d8 (d8 (d8 (d8 s)))).1 (d8 (d8 (d8 (d8 s)))).2.1 (d8 (d8 (d8 (d8 s)))).2.2.1 (d8 (d8 (d8 (d8 s)))).2.2.2.1 (d8 (d8 (d8 (d8 s)))).2.2.2.2.1 (d8 (d8 (d8 (d8 s)))).2.2.2.2.2.1 (d8 (d8 (d8 (d8 s)))).2.2.2.2.2.2.1 (d8 (d8 (d8 (d8 s)))).2.2.2.2.2.2.2.1 (d8 (d8 (d8 (d8 (d8 s))))).1 (d8 (d8 (d8 (d8 (d8 s))))).2.1 (d8 (d8 (d8 (d8 (d8 s))))).2.2.1 (d8 (d8 (d8 (d8 (d8 s))))).2.2.2.1 (d8 (d8 (d8 (d8 (d8 s))))).2.2.2.2⟩
theorem Io:L0 Mp:=
 Nw (.r [] (.l ⟨[(true,0,Lq),(false,14,aq)],[]⟩ .o)) call25 func25 (aw VN ax) (aw pj (aw Jk ax)) ax λ_=>by kernel_rfl
def adj:aA:=⟨10,[rQ,my,JV],(.cU [.bool,(.dat Hx [none,none]),aq,aY]),[],U3 fJ⟩
theorem alA:(⟨24,Tryz.f24⟩:pM).Ok X0.P:=⟨call24,func24⟩
theorem Jj:Ko adj:=
 eB (.c (.r [6,7,8,9] .o) .o) call10 func10 (aw QE (aw Ww ax)) (aw Io ax) (aw alA ax) λ_=>by kernel_rfl
def Nt:aA:=⟨81,[jZ,aY],aq,[],U2 Eg⟩
theorem Jo:Ko Nt:=
 aG (.c .o (.l ⟨[(false,5,aq)],[]⟩ .o)) call81 func81 ax
def N0:aA:=⟨54,[rQ,aY],.bool,[],U2 EF⟩
theorem IP:Ko N0:=
 aG .o call54 func54 (aw Jo ax)
def N7:aA:=⟨28,[rQ,my,aY],.bool,[],U3 EJ⟩
theorem Jy:Ko N7:=
 aG .o call28 func28 (aw IP ax)
def JO:aA:=⟨99,[.bool],aq,[],λs=>bd s⟩
theorem FQ:Ko JO:=
 aG .o call99 func99 ax
def yo:aA:=⟨80,[wS,aY],aq,[],U2 eW⟩
def F5(d:Ex->Ex)(j:Sh->(R:Type)->Option R->Option R)(h:(Ex×Q1)->zd)(e:Ex)(g:Q1)(i:Int):zd:=
ai (λ(b:Int)=>lD e g i b) λa=>
bif decide (1<(List.length e.l:Int)) then (idx e.l 1).bind λf=>
(h ((d f),g)).bind λc=>
a c else a 0
def pD(d:Ex->Ex)(i:Sh->(R:Type)->Option R->Option R)(h:(Ex×Q1)->zd)(e:Ex)(g:Q1):zd:=
ai (λ(b:Int)=>F5 d i h e g b) λa=>
bif decide (0<(List.length e.l:Int)) then (idx e.l 0).bind λf=>
(h ((d f),g)).bind λc=>
a c else a 0
def yI:TK8->TK8:=λa s=>mw a s.1 s.2
theorem DH(a:TK8)(c:OK8 a):(lK (yI a)).Ok X0.P X0.Γ:=
 eB (.s (.s (.s (.j ⟨[(false,5,aq)],[]⟩ .o (.j ⟨[(false,6,aq)],[]⟩ .o .o))))) call80 func80 (aw FQ (aw c ax)) ax ax λs=>(show _=pD lN eN a s.1 s.2 from by kernel_rfl).trans ((congrArg (λb=>pD b eN a s.1 s.2) dZ).trans ((congrArg (λd=>pD id d a s.1 s.2) fS).trans (by kernel_rfl)))
theorem od:Ko yo:=(show yo=lK (aj (yI) an) by kernel_rfl)▸ox (X:=X0) (E:=lK) ⟨call80,λ_ _ h=>nomatch h⟩ (DH) an
def Kp:aA:=⟨82,[my,aq,aY],.bool,[],U3 uh⟩
def F9(e:Ex->Ex)(j:Sh->(R:Type)->Option R->Option R)(a:Q9)(q:Int)(h:Q1)(b:Int->za)(d:Int):za:=
(idx a.1 q).bind λi=>
bif decide (d<(i.length:Int)) then (idx a.1 q).bind λg=>
(idx g d).bind λf=>
(eW (e f) h).bind λc=>
bif c != 1 then some false else b (i64.wrap (d+1)) else some true
def sF(b:Ex->Ex)(d:Sh->(R:Type)->Option R->Option R)(a:Q9)(q:Int)(c:Q1):za:=
aj (F9 b d a q c) an 0
theorem Gn:Ko Kp:=
 eB (.l ⟨[(false,7,aq)],[]⟩ .o) call82 func82 (aw od ax) ax ax λs=>(show _=sF lN eN s.1 s.2.1 s.2.2 from by kernel_rfl).trans ((congrArg (λa=>sF a eN s.1 s.2.1 s.2.2) dZ).trans ((congrArg (λb=>sF id b s.1 s.2.1 s.2.2) fS).trans (by kernel_rfl)))
def Mq:aA:=⟨32,[aY,aY],.bool,[],U2 hZ⟩
theorem wc:Ko Mq:=
 aG (.c .o (.l ⟨[(false,5,aq)],[]⟩ .o)) call32 func32 ax
def FX:aA:=⟨16,[(.own wW 24 false),aY],aq,[],U2 fB⟩
theorem ik:Ko FX:=
 aG (.l ⟨[(false,5,aq)],[]⟩ .o) call16 func16 (aw wc ax)
def Ho:aA:=⟨55,[uz,my,aY,aY],uz,[],U4 mG⟩
theorem tK:Ko Ho:=
 aG (.l ⟨[(false,0,uz),(false,9,aq)],[]⟩ (.c (.r [40000] .o) .o)) call55 func55 (aw Gn (aw ik ax))
def KS:aA:=⟨29,[rQ,my],uz,[],U2 ld⟩
theorem vo:Ko KS:=
 aG .o call29 func29 (aw tK ax)
def JL:aA:=⟨16,[(.sli wW),aY],aq,[],U2 sZ⟩
theorem uf:Ko JL:=
 aG (.l ⟨[(false,5,aq)],[]⟩ .o) call16 func16 (aw wc ax)
def Gk:aA:=⟨52,[rQ,aY],kZ,[],U2 rB⟩
def CG(f:Ex->Ex)(h:Sh->(R:Type)->Option R->Option R)(m:il)(d:Q1)(a:fL->Option Q1):Q1×Int->Option Q1:=λ⟨b,c⟩=>
bif decide (c<(m.2.2.2.2.length:Int)) then (idx m.2.2.2.2 c).bind λg=>
(eW (f g.2.1) d).bind λe=>
bif e==1 then aN (aH (List.length b+List.length ([c]:zl)) 8)<|
a ((b++([c]:zl)),(i64.wrap (c+1))) else a (b,(i64.wrap (c+1))) else some b
def n3(b:Ex->Ex)(c:Sh->(R:Type)->Option R->Option R)(m:il)(a:Q1):Option Q1:=
aj (CG b c m a) an ([],0)
theorem CB:Ko Gk:=
 eB (.l ⟨[(false,5,kZ),(false,6,aq)],[]⟩ .o) call52 func52 (aw od ax) ax ax λs=>(show _=n3 lN eN s.1 s.2 from by kernel_rfl).trans ((congrArg (λa=>n3 a eN s.1 s.2) dZ).trans ((congrArg (λb=>n3 id b s.1 s.2) fS).trans (by kernel_rfl)))
def Kk:aA:=⟨53,[rQ,aY,aq],(.cU [kZ,aq]),[],U3 oQ⟩
def Gd(g:Ex->Ex)(l:Sh->(R:Type)->Option R->Option R)(m:il)(e:Q1)(k:Int)(a:fL->Option fL):Q1×Int->Option fL:=λ⟨b,c⟩=>
(idx m.2.2.2.2 k).bind λi=>
bif decide (c<(i.2.2.length:Int)) then (idx m.2.2.2.2 k).bind λh=>
(idx h.2.2 c).bind λd=>
(eW (g d.2) e).bind λf=>
(idx b d.1).bind λj=>
a ((List.set b (Int.toNat d.1) f),(i64.wrap (c+1))) else aj (iX m b) an 0
def sx(b:Ex->Ex)(e:Sh->(R:Type)->Option R->Option R)(m:il)(a:Q1)(k:Int):Option fL:=
ai (decide (k<0)) λf=>
ai (decide ((m.2.2.2.2.length:Int)<=k)) λd=>
ai (f||d) λc=>
bif c then (
some ([],10)) else (
aN (aH (List.length ([]:zl)+List.length a) 8)<|
aj (Gd b e m a k) an ((([]:zl)++a),0))
theorem Gl:Ko Kk:=
 eB (.c .o (.l ⟨[(true,8,kZ),(false,9,aq)],[]⟩ (.c (.r [8] .o) (.l ⟨[(false,11,aq)],[]⟩ .o)))) call53 func53 (aw od ax) ax ax λs=>(show _=sx lN eN s.1 s.2.1 s.2.2 from by kernel_rfl).trans ((congrArg (λa=>sx a eN s.1 s.2.1 s.2.2) dZ).trans ((congrArg (λb=>sx id b s.1 s.2.1 s.2.2) fS).trans (by kernel_rfl)))
def KH:aA:=⟨27,[rQ,aY],Sv,[],U2 oX⟩
theorem Gc:Ko KH:=
 aG (.c .o (.l ⟨[(false,7,uz),(false,8,aq)],[]⟩ .o)) call27 func27 (aw CB (aw Gl (aw ik ax)))
def Kn:aA:=⟨31,[rQ,my,aY],Sv,[],U3 iZ⟩
theorem og:Ko Kn:=
 aG (.r [] (.c .o (.l ⟨[(false,11,uz),(false,12,aq)],[]⟩ (.c (.r [11] .o) .o)))) call31 func31 (aw Gc (aw tK ax))
def Mi:aA:=⟨30,[rQ,my,aY,aY],.bool,[],U4 vS⟩
theorem Hp:Ko Mi:=
 aG .o call30 func30 (aw og (aw uf ax))
def IT:aA:=⟨20,[my,aY],.bool,[],U2 kq⟩
theorem uQ:Ko IT:=
 aG (.l ⟨[(false,5,aq)],[]⟩ .o) call20 func20 ax
def IE:aA:=⟨14,[rQ,my,(.dat Hx [none,none])],.bool,[],U3 AA⟩
theorem Ep:Ko IE:=
 aG (.r [] (.c .o (.l ⟨[(false,8,aq)],[]⟩ (.c .o (.r [20007] (.c .o (.l ⟨[(false,10,aq)],[]⟩ (.c .o (.r [] (.l ⟨[(false,13,.bool),(false,14,aq)],[]⟩ .o)))))))))) call14 func14 (aw Jy (aw vo (aw uf (aw Hp (aw uQ ax)))))
def Ju:aA:=⟨7,[],.bool,[],λ_=>sX⟩
theorem Ec:Ko Ju:=
 aG .o call7 func7 (aw xJ (aw Jj (aw Ep ax)))
def yZ:aA:=⟨83,[wS,aq],aq,[],U2 lg⟩
def Ga(d:Ex->Ex)(m:Sh->(R:Type)->Option R->Option R)(j:xp->zd)(e:Ex)(most:Int)(a:jq->zd):Int×Int->zd:=λ⟨g,c⟩=>
ai (decide (c<(List.length e.l:Int))) λk=>
ai (decide (1<most)) λi=>
ai (k&&i) λh=>
bif h then (
(idx e.l c).bind λf=>
(j ((d f),(i64.wrap (most-1)))).bind λb=>
bif decide (g<(i64.wrap (1+b))) then a ((i64.wrap (1+b)),(i64.wrap (c+1))) else a (g,(i64.wrap (c+1)))) else (
some g)
def pG(a:Ex->Ex)(c:Sh->(R:Type)->Option R->Option R)(b:xp->zd)(e:Ex)(most:Int):zd:=
aj (Ga a c b e most) an (1,0)
def yk:TK9->TK9:=λa s=>jM a s.1 s.2
theorem C5(a:TK9)(c:OK9 a):(lI (yk a)).Ok X0.P X0.Γ:=
 eB (.l ⟨[(false,5,aq),(false,6,aq)],[]⟩ .o) call83 func83 (aw c ax) ax ax λs=>(show _=pG lN eN a s.1 s.2 from by kernel_rfl).trans ((congrArg (λb=>pG b eN a s.1 s.2) dZ).trans ((congrArg (λd=>pG id d a s.1 s.2) fS).trans (by kernel_rfl)))
theorem F4:Ko yZ:=(show yZ=lI (aj (yk) an) by kernel_rfl)▸ox (X:=X0) (E:=lI) ⟨call83,λ_ _ h=>nomatch h⟩ (C5) an
def yf:aA:=⟨84,[wS,aq],aq,[],U2 kV⟩
def Gp(f:Ex->Ex)(m:Sh->(R:Type)->Option R->Option R)(j:xp->zd)(e:Ex)(most:Int)(a:jq->zd):Int×Int->zd:=λ⟨c,d⟩=>
ai (decide (d<(List.length e.l:Int))) λk=>
ai (decide (c<most)) λi=>
ai (k&&i) λh=>
bif h then (
(idx e.l d).bind λg=>
(j ((f g),most)).bind λb=>
a ((i64.wrap (c+b)),(i64.wrap (d+1)))) else (
some c)
def pH(a:Ex->Ex)(c:Sh->(R:Type)->Option R->Option R)(b:xp->zd)(e:Ex)(most:Int):zd:=
aj (Gp a c b e most) an (1,0)
def Ak:ZQ->ZQ:=λa s=>jx a s.1 s.2
theorem C8(a:ZQ)(b:atC a):(lA (Ak a)).Ok X0.P X0.Γ:=
 eB (.l ⟨[(false,5,aq),(false,6,aq)],[]⟩ .o) call84 func84 (aw b ax) ax ax λs=>(show _=pH lN eN a s.1 s.2 from by kernel_rfl).trans ((congrArg (λc=>pH c eN a s.1 s.2) dZ).trans ((congrArg (λd=>pH id d a s.1 s.2) fS).trans (by kernel_rfl)))
theorem Gi:Ko yf:=(show yf=lA (aj (Ak) an) by kernel_rfl)▸ox (X:=X0) (E:=lA) ⟨call84,λ_ _ h=>nomatch h⟩ (C8) an
def L9:aA:=⟨56,[wS],.bool,[],λs=>cE s⟩
def tu(a:Ex->Ex)(h:Sh->(R:Type)->Option R->Option R)(e:Ex):za:=
(lg (a e) 45).bind λg=>
(kV (a e) 300).bind λf=>
ai (decide (g<45)) λd=>
ai (decide (f<300)) λc=>
ai (d&&c) λb=>
some b
theorem Ix:Ko L9:=
 eB .o call56 func56 (aw F4 (aw Gi ax)) ax ax λs=>(show _=tu lN eN s from by kernel_rfl).trans ((congrArg (λa=>tu a eN s) dZ).trans ((congrArg (λb=>tu id b s) fS).trans (by kernel_rfl)))
def Mm:aA:=⟨33,[my,aq],.bool,[],U2 pU⟩
def Ih(h:Ex->Ex)(m:Sh->(R:Type)->Option R->Option R)(a:Q9)(g:Int)(e:Int)(c:jq->za)(l:(List Ex))(b:Int->za)(d:Int):za:=
(idx a.1 e).bind λk=>
bif decide (d<(k.length:Int)) then (idx a.1 e).bind λj=>
(idx j d).bind λi=>
(cE (h i)).bind λf=>
bif !f then some false else b (i64.wrap (d+1)) else c ((i64.wrap (g+(l.length:Int))),(i64.wrap (e+1)))
def Im(e:Ex->Ex)(o:Sh->(R:Type)->Option R->Option R)(a:Q9)(most:Int)(b:jq->za):Int×Int->za:=λ⟨c,d⟩=>
ai (decide (d<(a.1.length:Int))) λn=>
ai (decide (c<4000)) λm=>
ai (n&&m) λl=>
bif l then (
(idx a.1 d).bind λf=>
aj (Ih e o a c d b f) an 0) else (
ai (decide (c<4000)) λk=>
ai (decide ((a.1.length:Int)<=most)) λj=>
ai (k&&j) λi=>
ai (decide ((a.2.1.length:Int)<=most)) λh=>
ai (i&&h) λg=>
some g)
def H4(e:Ex->Ex)(j:Sh->(R:Type)->Option R->Option R)(a:Q9)(most:Int)(b:jq->za):Int×Int->za:=λ⟨c,d⟩=>
ai (decide (d<(a.2.2.2.length:Int))) λi=>
ai (decide (c<4000)) λh=>
ai (i&&h) λg=>
bif g then (
(idx a.2.2.2 d).bind λf=>
b ((i64.wrap (c+(f.length:Int))),(i64.wrap (d+1)))) else (
aj (Im e j a most) an (c,0))
def HB(e:Ex->Ex)(i:Sh->(R:Type)->Option R->Option R)(a:Q9)(most:Int)(b:jq->za):Int×Int->za:=λ⟨c,d⟩=>
ai (decide (d<(a.2.1.length:Int))) λj=>
ai (decide (c<4000)) λh=>
ai (j&&h) λg=>
bif g then (
(idx a.2.1 d).bind λf=>
b ((i64.wrap (c+(f.length:Int))),(i64.wrap (d+1)))) else (
aj (H4 e i a most) an (c,0))
def ta(b:Ex->Ex)(c:Sh->(R:Type)->Option R->Option R)(a:Q9)(most:Int):za:=
aj (HB b c a most) an ((i64.wrap ((a.2.2.1.length:Int)+(a.2.2.2.length:Int))),0)
theorem HG:Ko Mm:=
 eB (.l ⟨[(false,5,aq),(false,6,aq)],[]⟩ (.c .o (.l ⟨[(false,5,aq),(false,7,aq)],[]⟩ (.c .o (.l ⟨[(false,5,aq),(false,8,aq)],[]⟩ (.c (.l ⟨[(false,9,aq)],[]⟩ .o) .o)))))) call33 func33 (aw Ix ax) ax ax λs=>(show _=ta lN eN s.1 s.2 from by kernel_rfl).trans ((congrArg (λa=>ta a eN s.1 s.2) dZ).trans ((congrArg (λb=>ta id b s.1 s.2) fS).trans (by kernel_rfl)))
def HX:aA:=⟨57,[aY,aq],.bool,[],U2 fg⟩
theorem Dx:Ko HX:=
 aG (.l ⟨[(false,5,aq)],[]⟩ .o) call57 func57 ax
def Mf:aA:=⟨58,[wS],.bool,[],λs=>lZ s⟩
def te(a:Ex->Ex)(f:Sh->(R:Type)->Option R->Option R)(e:Ex):za:=
(dR (a e)).bind λd=>
ai (d.2.1==0) λb8=>
ai (d.1==2) λc=>
ai (b8&&c) λb=>
some b
theorem H2:Ko Mf:=
 eB .o call58 func58 (aw vm ax) ax ax λs=>(show _=te lN eN s from by kernel_rfl).trans ((congrArg (λa=>te a eN s) dZ).trans ((congrArg (λb=>te id b s) fS).trans (by kernel_rfl)))
def JM:aA:=⟨34,[my],.bool,[],λs=>nH s⟩
def FY(g:Ex->Ex)(k:Sh->(R:Type)->Option R->Option R)(a:Q9)(d:Int)(c:Int->za)(b:Int->za)(e:Int):za:=
(idx a.1 d).bind λj=>
bif decide (e<(j.length:Int)) then (idx a.1 d).bind λi=>
(idx i e).bind λh=>
(lZ (g h)).bind λf=>
bif !f then some false else b (i64.wrap (e+1)) else c (i64.wrap (d+1))
def FN(e:Ex->Ex)(g:Sh->(R:Type)->Option R->Option R)(a:Q9)(b:Int->za)(c:Int):za:=
bif decide (c<(a.1.length:Int)) then (idx a.2.1 c).bind λf=>
(fg f (a.1.length:Int)).bind λd=>
bif !d then some false else aj (FY e g a c b) an 0 else aj (iB a) an 0
def ru(b:Ex->Ex)(f:Sh->(R:Type)->Option R->Option R)(a:Q9):za:=
(fg a.2.2.1 (a.1.length:Int)).bind λe=>
ai (!e) λb8=>
ai ((a.2.1.length:Int) != (a.1.length:Int)) λd=>
ai (b8||d) λc=>
bif c then (
some false) else (
aj (FN b f a) an 0)
theorem FZ:Ko JM:=
 eB (.c .o (.l ⟨[(false,5,aq)],[]⟩ (.c (.c .o (.l ⟨[(false,7,aq)],[]⟩ .o)) (.l ⟨[(false,9,aq)],[]⟩ .o)))) call34 func34 (aw Dx (aw H2 ax)) ax ax λs=>(show _=ru lN eN s from by kernel_rfl).trans ((congrArg (λa=>ru a eN s) dZ).trans ((congrArg (λb=>ru id b s) fS).trans (by kernel_rfl)))
def Av:aA:=⟨59,[wS,aq],.bool,[],U2 pP⟩
def Hq(g:Ex->Ex)(j:Sh->(R:Type)->Option R->Option R)(i:xp->za)(e:Ex)(d:Int)(b:Int)(a:Int->za)(c:Int):za:=
bif decide (c<b) then (idx e.l c).bind λh=>
(i ((g h),d)).bind λf=>
bif !f then some false else a (i64.wrap (c+1)) else some true
def Hw(c:Ex->Ex)(y:Sh->(R:Type)->Option R->Option R)(z:xp->za)(e:Ex)(b:Int)(a:Int):za:=
ai (decide (e.op<1)) λB=>
ai (decide (24<e.op)) λA=>
ai (B||A) λx=>
ai ((List.length e.l:Int) != a) λw=>
ai (x||w) λv=>
bif v then (
some false) else (
ai (e.op==1) λu=>
ai (decide (e.n<0)) λt=>
ai (decide (1073741824<e.n)) λs=>
ai (t||s) λr=>
ai (u&&r) λq=>
ai (e.op==2) λp=>
ai (decide (e.n<0)) λo=>
ai (decide (b<=e.n)) λm=>
ai (o||m) λk=>
ai (p&&k) λj=>
ai (q||j) λi=>
ai (decide (2<e.op)) λh=>
ai (e.n != 0) λg=>
ai (h&&g) λf=>
ai (i||f) λd=>
bif d then (
some false) else (
aj (Hq c y z e b a) an 0))
def ri(g:Ex->Ex)(h:Sh->(R:Type)->Option R->Option R)(i:xp->za)(e:Ex)(b:Int):za:=
ai (λ(f:Int)=>Hw g h i e b f) λc=>
ai (λ(d:Bool)=>sa e c d) λa=>
bif e.op==1 then a (e.op==1) else bif e.op==2 then a (e.op==2) else bif e.op==13 then a (e.op==13) else a (e.op==14)
def AG:aam->aam:=λa s=>im a s.1 s.2
theorem FC(a:aam)(b:atK a):(mz (AG a)).Ok X0.P X0.Γ:=
 eB (.s (.s (.j ⟨[(false,5,aq)],[]⟩ (.s (.j ⟨[(false,10,.bool)],[]⟩ .o (.c .o (.j ⟨[(false,15,.bool)],[]⟩ .o .o)))) (.c .o (.c .o (.l ⟨[(false,6,aq)],[]⟩ .o)))))) call59 func59 (aw b ax) ax ax λs=>(show _=ri lN eN a s.1 s.2 from by kernel_rfl).trans ((congrArg (λd=>ri d eN a s.1 s.2) dZ).trans ((congrArg (λe=>ri id e a s.1 s.2) fS).trans (by kernel_rfl)))
theorem HQ:Ko Av:=(show Av=mz (aj (AG) an) by kernel_rfl)▸ox (X:=X0) (E:=mz) ⟨call59,λ_ _ h=>nomatch h⟩ (FC) an
def Ma:aA:=⟨35,[my,aq],.bool,[],U2 vG⟩
def H8(h:Ex->Ex)(l:Sh->(R:Type)->Option R->Option R)(a:Q9)(e:Int)(g:Int)(c:Int->za)(b:Int->za)(d:Int):za:=
(idx a.1 g).bind λk=>
bif decide (d<(k.length:Int)) then (idx a.1 g).bind λj=>
(idx j d).bind λi=>
(pP (h i) e).bind λf=>
bif !f then some false else b (i64.wrap (d+1)) else c (i64.wrap (g+1))
def Ht(d:Ex->Ex)(f:Sh->(R:Type)->Option R->Option R)(a:Q9)(c:Int)(b:Int->za)(e:Int):za:=
bif decide (e<(a.1.length:Int)) then aj (H8 d f a c e b) an 0 else some true
def tn(c:Ex->Ex)(d:Sh->(R:Type)->Option R->Option R)(a:Q9)(b:Int):za:=
aj (Ht c d a b) an 0
theorem HZ:Ko Ma:=
 eB (.l ⟨[(false,5,aq)],[]⟩ (.c (.l ⟨[(false,6,aq)],[]⟩ .o) .o)) call35 func35 (aw HQ ax) ax ax λs=>(show _=tn lN eN s.1 s.2 from by kernel_rfl).trans ((congrArg (λa=>tn a eN s.1 s.2) dZ).trans ((congrArg (λb=>tn id b s.1 s.2) fS).trans (by kernel_rfl)))
def HM:aA:=⟨17,[aoE,my],.bool,[],U2 mo⟩
theorem C7:Ko HM:=
 aG .o call17 func17 (aw HG (aw FZ (aw HZ ax)))
def EP:aA:=⟨18,[aoE,aq],.bool,[],U2 fE⟩
theorem BU:Ko EP:=
 aG (.l ⟨[(false,5,aq),(false,6,aq)],[]⟩ .o) call18 func18 ax
def HK:aA:=⟨8,[.str,my],(.cU [amq,.bool]),[],U2 gM⟩
theorem Di:Ko HK:=
 aG (.r [4] .o) call8 func8 (aw xJ (aw C7 (aw BU ax)))
def IL:aA:=⟨15,[rQ,my,aq],Sv,[],U3 nN⟩
theorem Fs:Ko IL:=
 aG (.l ⟨[(false,8,uz),(false,9,aq)],[]⟩ (.c (.c .o (.r [] (.c .o (.l ⟨[(false,8,uz),(false,12,aq)],[]⟩ .o)))) .o)) call15 func15 (aw vo (aw og (aw ik ax)))
def IG:aA:=⟨19,[rQ,my,aq],(.cU [uz,uz,aq]),[],U3 nS⟩
theorem Fj:Ko IG:=
 aG (.c .o (.l ⟨[(false,11,uz),(false,12,aq)],[]⟩ (.c (.r [] (.l ⟨[(false,15,kZ),(false,16,aq)],[]⟩ .o)) .o))) call19 func19 (aw Fs (aw og (aw ik ax)))
def Lw:aA:=⟨21,[(.sli wW),(.sli .bo),(.sli (.l .bo))],Fp,[],U3 oD⟩
theorem Gm:Ko Lw:=
 aG (.l ⟨[(true,7,Fp),(false,8,.bool)],[]⟩ (.c (.l ⟨[(true,7,Fp),(false,8,.bool),(false,9,aq)],[]⟩ (.c (.l ⟨[(true,10,Fp),(false,11,.bool)],[]⟩ (.c (.l ⟨[(true,10,Fp),(false,11,.bool),(false,12,aq)],[]⟩ (.c (.l ⟨[(true,10,Fp),(false,11,.bool),(false,13,aq)],[]⟩ .o) .o)) (.l ⟨[(true,7,Fp),(false,8,.bool),(false,15,aq)],[]⟩ .o))) .o)) .o)) call21 func21 ax
def Il:aA:=⟨9,[rQ,my,aq],(.cU [.bool,aq,aq]),[],U3 mg⟩
theorem DF:Ko Il:=
 aG (.c .o (.l ⟨[(false,12,Fp),(true,13,Fp),(false,14,aq)],[]⟩ (.c .o (.l ⟨[(false,17,aq)],[]⟩ .o)))) call9 func9 (aw Fj (aw uQ (aw Gm ax)))
def JP:aA:=⟨11,[JV],.bool,[],λs=>oE s⟩
theorem Gx:Ko JP:=
 aG .o call11 func11 ax
end
end Go.Proofs.YtcgihjbfppkcfaaGreatDoor
