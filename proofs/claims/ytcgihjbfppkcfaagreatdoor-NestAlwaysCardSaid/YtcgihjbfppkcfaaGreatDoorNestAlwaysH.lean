/-
  Own texts for the statement NestAlways, cut down to what it needs: Den. (cut and joined by a program)
-/
import Derived.Test.YtcgihjbfppkcfaaGreatDoorNestAlwaysG
set_option linter.unusedVariables false
set_option linter.unusedSimpArgs false
namespace Go.Proofs.YtcgihjbfppkcfaaGreatDoor
open IntKind (i64)
open Go.Proofs
noncomputable section
set_option maxRecDepth 100000
abbrev PH:Ty:=(.p (.i .i64) (.p (.l (.p (.i .i64) (.i .i64))) (.p (.i .i64) (.p (.p (.p (.i .i64) (.p (.l (.l (.i .u8))) (.l (.i .i64)))) (.l (.i .u8))) (.p (.p (.l (.p (.i .i64) (.p (.l (.l (.i .u8))) (.l (.i .i64))))) (.p (.p (.i .i64) (.p (.l (.l (.i .u8))) (.l (.i .i64)))) (.l (.i .u8)))) (.p (.p (.l (.p (.i .i64) (.p (.l (.l (.i .u8))) (.l (.i .i64))))) (.l (.i .u8))) (.p (.p (.p (.i .i64) (.p (.l (.p (.l (.p (.i .u8) (.i .i64))) (.i .i64))) (.p (.i .i64) (.p (.i .i64) (.l (.i .i64)))))) (.p (.p (.i .i64) (.p (.l (.p (.l (.p (.i .u8) (.i .i64))) (.i .i64))) (.p (.i .i64) (.p (.i .i64) (.l (.i .i64)))))) (.p (.i .i64) (.p (.l (.p (.l (.p (.i .u8) (.i .i64))) (.i .i64))) (.p (.i .i64) (.p (.i .i64) (.l (.i .i64)))))))) (.p (.i .i64) (.p (.i .i64) (.p (.i .u64) (.p (.l (.i .u8)) (.p (.l (.i .u8)) (.l (.i .u8))))))))))))))
abbrev bf:Ty:=(.i .i64)
abbrev QL3:List Pt:=(.same:: .same:: .same:: .same:: .same:: .same:: .same:: .same:: .same::(.int .i64)::(.sli (.p bf bf))::(.int .i64)::(.int .i64)::(.sli (.l (.i .u8)))::(.sli bf)::(.sli (.i .u8))::(.sli (.p bf (.p (.l (.l (.i .u8))) (.l bf))))::(.int .i64)::(.sli (.l (.i .u8)))::(.sli bf)::(.sli (.i .u8))::(.sli (.p bf (.p (.l (.l (.i .u8))) (.l bf))))::(.sli (.i .u8))::(.int .i64)::(.sli (.p (.l (.p (.i .u8) bf)) bf))::(.int .i64)::(.int .i64)::(.sli bf)::(.int .i64)::(.sli (.p (.l (.p (.i .u8) bf)) bf))::(.int .i64)::(.int .i64)::(.sli bf)::(.int .i64)::(.sli (.p (.l (.p (.i .u8) bf)) bf))::(.int .i64)::(.int .i64)::(.sli bf)::(.int .i64)::(.int .i64)::(.int .u64)::(.sli (.i .u8))::(.sli (.i .u8))::(.sli (.i .u8)):: .same::[])
abbrev QL4:List Pt:=((.sli .s)::(.sli (.p bf bf))::(.sli bf)::(.sli .s)::(.sli (.p bf (.p .ex (.l (.p bf .ex)))))::(.sli (.l .ex))::(.sli (.l bf))::(.sli bf)::(.sli (.l bf))::(.int .i64)::(.sli (.p bf bf))::(.int .i64)::(.int .i64)::(.sli (.l (.i .u8)))::(.sli bf)::(.sli (.i .u8))::(.sli (.p bf (.p (.l (.l (.i .u8))) (.l bf))))::(.int .i64)::(.sli (.l (.i .u8)))::(.sli bf)::(.sli (.i .u8))::(.sli (.p bf (.p (.l (.l (.i .u8))) (.l bf))))::(.sli (.i .u8))::(.int .i64)::(.sli (.p (.l (.p (.i .u8) bf)) bf))::(.int .i64)::(.int .i64)::(.sli bf)::(.int .i64)::(.sli (.p (.l (.p (.i .u8) bf)) bf))::(.int .i64)::(.int .i64)::(.sli bf)::(.int .i64)::(.sli (.p (.l (.p (.i .u8) bf)) bf))::(.int .i64)::(.int .i64)::(.sli bf)::(.int .i64)::(.int .i64)::(.int .u64)::(.sli (.i .u8))::(.sli (.i .u8))::(.sli (.i .u8))::(.int .i64)::[])
abbrev ox:Pt:=(.dat PH [none,none,none,none,none,none,none,none,none,none,none,none,none,none,none,none,none,none,none])
abbrev gB:Ty:=(.p bf (.p (.l (.l (.i .u8))) (.l bf)))
abbrev aq:Pt:=(.int .i64)
abbrev Vr:Ty:=(.p (.l .s) (.p (.l (.p bf bf)) (.p (.l bf) (.p (.l .s) (.l (.p bf (.p .ex (.l (.p bf .ex)))))))))
abbrev aW:Ty:=(.i .u8)
abbrev LH:Ty:=(.p (.l (.l .ex)) (.p (.l (.l bf)) (.p (.l bf) (.l (.l bf)))))
abbrev afc:Ty:=(.p aW (.p aW (.p aW (.p aW (.p aW (.p aW (.p aW (.p aW (.p aW (.p aW (.p aW (.p aW (.p aW (.p aW (.p aW (.p aW (.p aW (.p aW (.p aW (.p aW (.p aW (.p aW (.p aW (.p aW (.p aW (.p aW (.p aW (.p aW (.p aW (.p aW (.p aW (.p aW (.p aW (.p aW (.p aW (.p aW (.p aW (.p aW (.p aW (.p aW (.p aW (.p aW (.p aW (.p aW (.p aW (.p aW (.p aW (.p aW (.p aW (.p aW (.p aW (.p aW (.p aW (.p aW (.p aW (.p aW (.p aW (.p aW (.p aW (.p aW (.p aW (.p aW (.p aW aW)))))))))))))))))))))))))))))))))))))))))))))))))))))))))))))))
abbrev Fy:Ty:=(.p bf (.p bf (.p (.i .u64) (.p (.l aW) (.p (.l aW) (.l aW))))))
abbrev yt:Ty:=(.p bf (.p (.l (.p (.l (.p aW bf)) bf)) (.p bf (.p bf (.l bf)))))
abbrev Yc:Pt:=(.bx 130 0 true [(.own (.p bf (.p .s (.p bf bf))) 132 false),aq,(.own .s 9 false),(.own (.p bf bf) 112 false),(.own bf 3 false),(.own .s 9 false),(.own (.p bf (.p .ex (.l (.p bf .ex)))) 180 false),aq,aq])
abbrev kU:Ty:=(.p bf bf)
abbrev aY:Pt:=(.sli bf)
abbrev rC:Pt:=(.dat Vr [none,none,none,none,none])
abbrev ai1:Ty:=(.p aW (.p aW (.p aW (.p aW (.p aW (.p aW (.p aW (.p aW (.p aW (.p aW (.p aW (.p aW (.p aW (.p aW (.p aW (.p aW (.p aW (.p aW (.p aW (.p aW (.p aW (.p aW (.p aW aW)))))))))))))))))))))))
abbrev kT:Pt:=(.own bf 3 true)
abbrev sL:Ty:=(.p (.l (.p aW bf)) bf)
abbrev Lg:Pt:=(.bx 130 0 true [.same,.same,.same,.same,.same,.same,.same,aq,aq])
abbrev jg:Pt:=(.own aW 5 true)
abbrev u7:Pt:=(.dat LH [none,none,none,none])
abbrev rG:Pt:=(.own (.l bf) 24 true)
abbrev uu:Ty:=(.p bf (.p .s kU))
abbrev YV:Ty:=(.p bf (.p bf (.p bf (.p (.i .u64) kU))))
abbrev KS:Pt:=(.dat (.p (.l gB) (.p gB (.l aW))) [none,none,none,none])
abbrev AS:Ty:=(.p bf (.p .ex (.l (.p bf .ex))))
abbrev AU:Ty:=(.p (.l bf) (.l (.l bf)))
abbrev xv:Pt:=(.dat Fy [none,none,none])
abbrev R7:Ty:=(.p aW (.p aW (.p aW (.p aW (.p aW (.p aW (.p aW aW)))))))
abbrev aoR:Ty:=(.p (.i .u64) (.p (.i .u64) (.p (.i .u64) (.p (.i .u64) (.p (.i .u64) (.p (.i .u64) (.p (.i .u64) (.p (.i .u64) (.p (.i .u64) (.p (.i .u64) (.p (.i .u64) (.p (.i .u64) (.p (.i .u64) (.p (.i .u64) (.p (.i .u64) (.p (.i .u64) (.p (.i .u64) (.p (.i .u64) (.p (.i .u64) (.i .u64))))))))))))))))))))
abbrev aad:Pt:=(.bx 130 0 true [.same,aq,.same,.same,.same,.same,.same,aq,aq])
abbrev WY:Pt:=(.bx 379 0 true [.same,(.own sL 273 true),.same,.same,kT,.same])
abbrev FG:Pt:=(.ifc 392 (.bx 390 0 true [kT]))
abbrev Km:Pt:=(.dat (.p (.l gB) (.l aW)) [none,none])
abbrev ez:Pt:=(.sli aW)
abbrev FY:Ty:=(.p (.l (.l bf)) (.l (.l bf)))
abbrev Ow:Pt:=(.dat (.p gB (.l aW)) [none,none,none])
abbrev aek:Pt:=(.bx 212 0 true [(.own uu 132 false),aq,(.own .s 9 false),aq,aq])
abbrev lx:Ty:=(.l aW)
abbrev jx:Pt:=(.sli kU)
abbrev Xo:Pt:=(.ifc 97 (.agg [(.sli (.l bf)),(.sli (.l bf))]))
abbrev aec:Pt:=(.bx 355 0 true [(.own gB 270 true),(.fn 229 [(.ptr 0 0)] [])])
abbrev aeq:Pt:=(.bx 79 0 true [(.own gB 73 true),.same,.same,.same,.same])
abbrev oN:Pt:=(.dat .un [])
abbrev E9:Pt:=(.dat gB [none,none])
abbrev na:Ty:=(.p aW bf)
abbrev Sz:Pt:=(.fn 289 [] [(.bx 4 0 true [.bool])])
abbrev aiH:Pt:=(.bx 379 0 true [.same,(.own sL 273 true),.same,.same,kT,(.mp bf .bo true)])
abbrev ae7:Pt:=(.bx 355 0 false [(.sli gB),(.fn 233 [(.ptr 0 0)] [])])
abbrev ao5:Pt:=(.bx 130 0 false [(.own uu 132 false),aq,(.own .s 9 false),(.own kU 112 false),(.own bf 3 false),(.own .s 9 false),(.own AS 180 false),aq,aq])
abbrev gU:Pt:=(.cQ [])
abbrev ajv:Pt:=(.bx 379 0 true [aq,(.own sL 273 true),aq,aq,kT,(.mp bf .bo false)])
abbrev aj4:Pt:=(.bx 379 0 true [aq,(.own sL 273 true),aq,aq,kT,(.mp bf .bo true)])
abbrev Xz:Pt:=(.bx 161 0 true [rG,(.mp .s .bo true)])
abbrev O7:Pt:=(.bx 27 0 true [(.int .u64)])
abbrev alb:Pt:=(.bx 130 0 true [.same,aq,.same,.same,.same,.same,.same,.same,.same])
abbrev Ot:Pt:=(.ifc 95 (.agg [aq,aY]))
abbrev aeE:Pt:=(.bx 79 0 true [.same,.same,.same,.same,.same])
abbrev FQ:Pt:=(.cQ [.bool,aq])
abbrev adu:Ty:=(.p .s (.p LH (.p aW (.p aW (.p aW aW)))))
abbrev my:Pt:=(.int .u8)
abbrev ada:Pt:=(.bx 76 0 false [aq,(.sli lx),aY,ez])
abbrev HV:Pt:=(.bx 100 0 true QL3)
abbrev ve:Ty:=(.p lx bf)
abbrev aem:Pt:=(.bx 212 0 true [.same,aq,.same,aq,aq])
abbrev RJ:Pt:=(.bx 243 0 true [.sfp,jg])
abbrev ac4:Pt:=(.bx 355 0 true [(.own gB 270 true),.same])
abbrev rF:Pt:=(.int .u32)
abbrev aed:Ty:=(.p (.l uu) (.p bf (.p (.l .s) kU)))
abbrev HG:Pt:=(.cQ [ox,aq])
abbrev RN:Pt:=(.cQ [ox,.bool,aq])
abbrev aew:Ty:=(.p (.l uu) (.p bf (.p Vr kU)))
abbrev aet:Ty:=(.p .s (.p LH (.p aW (.i .u64))))
abbrev apy:Pt:=(.bx 130 0 true [.same,aq,(.own .s 9 true),(.own kU 112 true),kT,.same,.same,aq,aq])
abbrev Y5:Ty:=(.p (.l gB) (.p gB lx))
abbrev Oo:Pt:=(.cQ [aq,.bool])
abbrev Sn:Pt:=(.dat .ex [some 293])
abbrev apq:Pt:=(.bx 130 0 true [.same,aq,.same,.same,.same,.same,(.own AS 180 true),aq,aq])
abbrev Sx:Pt:=(.own AU 171 false)
abbrev ak1:Pt:=(.bx 76 0 true [aq,(.sli lx),aY,ez])
abbrev aeI:Ty:=(.p Vr (.p LH (.p PH bf)))
abbrev YG:Pt:=(.dat yt [none,none])
abbrev Ru:Pt:=(.bx 100 0 true QL4)
abbrev adS:Ty:=(.p bf (.p bf (.p .bo aW)))
abbrev OW:Pt:=(.dat .ex [none])
abbrev YK:Pt:=(.bx 24 0 false [aY])
abbrev akE:Pt:=(.bx 218 0 true [rG,(.mp .s .bo true)])
abbrev apu:Ty:=(.p aW (.p aW (.p aW (.p aW (.p aW (.p aW (.p aW (.p aW ai1))))))))
abbrev afi:Pt:=(.bx 317 0 true [jg,aq])
abbrev SS:Pt:=(.sli (.i .u32))
abbrev ON:Pt:=(.dat YV [])
abbrev adM:Pt:=(.bx 390 0 true [kT])
abbrev YP:Ty:=(.p (.l gB) lx)
abbrev J5:Pt:=(.ifc 3 aq)
abbrev Zj:Pt:=(.own bf 3 false)
abbrev IP:Pt:=(.int .u64)
abbrev adY:Pt:=(.bx 24 0 true [aY])
abbrev Wq:Pt:=(.bx 4 0 true [.bool])
abbrev als:Pt:=(.dat Vr [some 19,some 225,some 7,some 19,some 361])
abbrev rL:Ty:=(.l bf)
abbrev Qy:Pt:=(.own .s 9 false)
open Tryz
theorem acM:aj6 Tryz.prog 138:=λv w=>by rw [run_callFunc_extern func138 (by kernel_rfl) (by kernel_rfl) (by kernel_rfl) (e:=Extern.AbiNoEscape.same) (by kernel_rfl)];rfl
noncomputable def UB:Cx:=⟨Tryz.prog,[(2,bf),(3,bf),(4,.bo),(5,aW),(6,aW),(7,adS),(8,adS),(9,.s),(10,.s),(11,.s),(12,(.i .u64)),(13,(.p .s (.i .u64))),(14,(.p .s (.i .u64))),(21,(.i .i32)),(22,(.l (.l .ex))),(23,(.l rL)),(24,rL),(25,LH),(26,LH),(27,(.i .u64)),(28,YV),(29,YV),(31,(.l .s)),(32,(.l kU)),(33,(.l AS)),(34,Vr),(35,Vr),(40,FY),(41,FY),(42,bf),(47,adu),(48,adu),(55,aet),(56,aet),(65,(.l .bo)),(68,(.l (.l .bo))),(71,(.l lx)),(72,gB),(73,gB),(74,lx),(75,(.p gB lx)),(76,(.p gB lx)),(77,(.l gB)),(78,Y5),(79,Y5),(80,(.l gB)),(81,YP),(82,YP),(83,(.l sL)),(84,yt),(85,yt),(86,(.p yt (.p yt yt))),(87,(.p lx (.p lx lx))),(88,Fy),(89,Fy),(90,PH),(91,PH),(94,(.p bf rL)),(95,(.p bf rL)),(96,FY),(97,FY),(99,aeI),(100,aeI),(111,kU),(112,kU),(115,(.l .n)),(120,.n),(123,(.l AU)),(126,(.l uu)),(129,aew),(130,aew),(131,uu),(132,uu),(143,(.l .ex)),(145,(.p bf (.p bf (.p bf (.l .ex))))),(146,.ex),(152,kU),(153,.un),(154,.un),(155,.un),(156,.un),(157,.un),(158,.un),(170,AU),(171,AU),(178,(.l (.p bf .ex))),(179,AS),(180,AS),(182,(.p bf .ex)),(183,(.p bf .ex)),(211,aed),(212,aed),(215,kU),(225,ai1),(236,aoR),(237,(.i .u32)),(238,(.p aW afc)),(239,(.i .u64)),(252,apu),(253,afc),(259,.un),(260,.un),(261,.un),(262,aW),(263,aW),(265,(.i .i32)),(266,(.i .i32)),(269,gB),(270,gB),(271,(.l na)),(272,sL),(273,sL),(295,ve),(296,ve),(303,gB),(304,gB),(305,gB),(306,gB),(314,ve),(315,ve),(316,ve),(317,ve),(357,(.l (.i .u32))),(364,R7),(365,R7),(383,na),(384,na),(390,rL)],[],[138],(List.forall_mem_cons.2 ⟨acM,(λ_ h=>nomatch h)⟩),ay,[154,155,156,157,158],[],(λ_ h=>nomatch h),[(25,21),(66,40)]⟩
noncomputable def X0:Cx:=⟨Tryz.prog,[(2,bf),(3,bf),(4,.bo),(5,aW),(6,aW),(7,adS),(8,adS),(9,.s),(10,.s),(11,.s),(12,(.i .u64)),(13,(.p .s (.i .u64))),(14,(.p .s (.i .u64))),(21,(.i .i32)),(22,(.l (.l .ex))),(23,(.l rL)),(24,rL),(25,LH),(26,LH),(27,(.i .u64)),(28,YV),(29,YV),(31,(.l .s)),(32,(.l kU)),(33,(.l AS)),(34,Vr),(35,Vr),(40,FY),(41,FY),(42,bf),(47,adu),(48,adu),(55,aet),(56,aet),(65,(.l .bo)),(68,(.l (.l .bo))),(71,(.l lx)),(72,gB),(73,gB),(74,lx),(75,(.p gB lx)),(76,(.p gB lx)),(77,(.l gB)),(78,Y5),(79,Y5),(80,(.l gB)),(81,YP),(82,YP),(83,(.l sL)),(84,yt),(85,yt),(86,(.p yt (.p yt yt))),(87,(.p lx (.p lx lx))),(88,Fy),(89,Fy),(90,PH),(91,PH),(94,(.p bf rL)),(95,(.p bf rL)),(96,FY),(97,FY),(99,aeI),(100,aeI),(111,kU),(112,kU),(115,(.l .n)),(120,.n),(123,(.l AU)),(126,(.l uu)),(129,aew),(130,aew),(131,uu),(132,uu),(143,(.l .ex)),(145,(.p bf (.p bf (.p bf (.l .ex))))),(146,.ex),(152,kU),(153,.un),(154,.un),(155,.un),(156,.un),(157,.un),(158,.un),(170,AU),(171,AU),(178,(.l (.p bf .ex))),(179,AS),(180,AS),(182,(.p bf .ex)),(183,(.p bf .ex)),(211,aed),(212,aed),(215,kU),(225,ai1),(236,aoR),(237,(.i .u32)),(238,(.p aW afc)),(239,(.i .u64)),(252,apu),(253,afc),(259,.un),(260,.un),(261,.un),(262,aW),(263,aW),(265,(.i .i32)),(266,(.i .i32)),(269,gB),(270,gB),(271,(.l na)),(272,sL),(273,sL),(295,ve),(296,ve),(303,gB),(304,gB),(305,gB),(306,gB),(314,ve),(315,ve),(316,ve),(317,ve),(357,(.l (.i .u32))),(364,R7),(365,R7),(383,na),(384,na),(390,rL)],[(0,0,⟨.l (.i .u64),uL⟩)],[138],(List.forall_mem_cons.2 ⟨acM,(λ_ h=>nomatch h)⟩),ay,[154,155,156,157,158],[⟨180,λargs H st K=>O2 UB Tryz.f180 args H st K⟩,⟨171,λargs H st K=>O2 UB Tryz.f171 args H st K⟩,⟨289,λargs H st K=>O2 UB Tryz.f289 args H st K⟩,⟨290,λargs H st K=>O2 UB Tryz.f290 args H st K⟩],(List.forall_mem_cons.2 ⟨QD (X:=UB) call180 func180 rfl,(List.forall_mem_cons.2 ⟨QD (X:=UB) call171 func171 rfl,(List.forall_mem_cons.2 ⟨QD (X:=UB) call289 func289 rfl,(List.forall_mem_cons.2 ⟨QD (X:=UB) call290 func290 rfl,(λ_ h=>nomatch h)⟩)⟩)⟩)⟩),[(25,21),(66,40)]⟩
abbrev Ko(e:aB):=e.Ok X0.P X0.Γ
abbrev Jo(e:bX):=e.Ok X0.P X0.Γ
theorem aG{X:Cx}{tb:List aB}{fn:Func}{e:aB}(h:HT)(c:Enters X.P e.f)(b:X.P.funcs[e.f]? =some fn)(a:∀e∈tb,e.Ok X.P X.Γ)(eq:∀s,X9 X tb [] [] h fn e s=e.m s:=by intro _;kernel_rfl):e.Ok X.P X.Γ:=gE h c b a az az eq
theorem adI{X:Cx}{tb:List aB}{fn:Func}{e:bX}(h:HT)(c:Enters X.P e.f)(b:X.P.funcs[e.f]? =some fn)(a:∀e∈tb,e.Ok X.P X.Γ)(eq:∀s,ajI X tb [] [] h fn e s=e.m s:=by intro _;kernel_rfl):e.Ok X.P X.Γ:=KN h c b a az az eq
abbrev U2{a z r:Type}(F:a->z->r)(s:a×z):r:=F s.1 s.2
abbrev U3{a b z r:Type}(F:a->b->z->r)(s:a×b×z):r:=F s.1 s.2.1 s.2.2
abbrev U4{a b c z r:Type}(F:a->b->c->z->r)(s:a×b×c×z):r:=F s.1 s.2.1 s.2.2.1 s.2.2.2
abbrev U6{a b c d e z r:Type}(F:a->b->c->d->e->z->r)(s:a×b×c×d×e×z):r:=F s.1 s.2.1 s.2.2.1 s.2.2.2.1 s.2.2.2.2.1 s.2.2.2.2.2
abbrev U7{a b c d e f z r:Type}(F:a->b->c->d->e->f->z->r)(s:a×b×c×d×e×f×z):r:=F s.1 s.2.1 s.2.2.1 s.2.2.2.1 s.2.2.2.2.1 s.2.2.2.2.2.1 s.2.2.2.2.2.2
abbrev U8{a b c d e f g z r:Type}(F:a->b->c->d->e->f->g->z->r)(s:a×b×c×d×e×f×g×z):r:=F s.1 s.2.1 s.2.2.1 s.2.2.2.1 s.2.2.2.2.1 s.2.2.2.2.2.1 s.2.2.2.2.2.2.1 s.2.2.2.2.2.2.2
abbrev U9{a b c d e f g h z r:Type}(F:a->b->c->d->e->f->g->h->z->r)(s:a×b×c×d×e×f×g×h×z):r:=F s.1 s.2.1 s.2.2.1 s.2.2.2.1 s.2.2.2.2.1 s.2.2.2.2.2.1 s.2.2.2.2.2.2.1 s.2.2.2.2.2.2.2.1 s.2.2.2.2.2.2.2.2
def sU(x:Ex):Ex:=Ex.mk x.op x.n x.at_ x.l
theorem jm:sU=id:=funext λx=>by cases x;rfl
def aoQ:aB:=⟨131,[.int .i64],.str,[],λs=>Wi s⟩
theorem agj:Ko aoQ:=akC (ρ:=Tryz.Kv) Tryz.akv call131 (G:=0) (tab:=uL) (by kernel_rfl) (show gl 0 (uL.map (Value.int .u64))∈X0.Γ by first|exact cx ..|exact (.tail _ (cx ..))|exact (.tail _ (.tail _ (cx ..)))|exact (.tail _ (.tail _ (.tail _ (cx ..))))|exact (.tail _ (.tail _ (.tail _ (.tail _ (cx ..)))))|exact (.tail _ (.tail _ (.tail _ (.tail _ (.tail _ (cx ..))))))) (by decide+kernel) Wi λn r h=>by obtain ⟨b,a⟩:=iZ h;cases a;exact ⟨b,rfl⟩
def aoS:aB:=⟨110,[.own aW 5 true,.int .u64,.int .i64],.own aW 5 true,[],U3 Qz⟩
theorem afV:Ko aoS:=ai6 (ρ:=Tryz.M8) Tryz.anf call110 (G:=0) (tab:=uL) (by kernel_rfl) (show gl 0 (uL.map (Value.int .u64))∈X0.Γ by first|exact cx ..|exact (.tail _ (cx ..))|exact (.tail _ (.tail _ (cx ..)))|exact (.tail _ (.tail _ (.tail _ (cx ..))))|exact (.tail _ (.tail _ (.tail _ (.tail _ (cx ..)))))|exact (.tail _ (.tail _ (.tail _ (.tail _ (.tail _ (cx ..))))))) (by decide+kernel) Qz λl u b r h=>by obtain ⟨a,c⟩:=iZ h;simp only [an,n4,gj] at a;cases c;exact ⟨a.1.1,a.1.2.1,a.1.2.2,a.2,rfl⟩
theorem ahc{α:Type}{b:Nat}{s y r:List α}{k:Int}(h:Ug b s k y=some r):y≠[]/\AZ k s.length=true/\aH (s.length+y.length) b=true/\r=me s k y:=by
 unfold Ug at h;split at h
 .cases h
 .obtain ⟨a,c⟩:=iZ h;simp only [an] at a;cases c;exact ⟨by simp,a.1,a.2,rfl⟩
def ald:aB:=⟨261,[.own na 384 true,.int .i64,.own na 384 true],.own na 384 true,[],λs=>Ug 16 s.1 s.2.1 s.2.2⟩
theorem aam:Ko ald:=am0 (t:=na) (bytes:=16) call261 (λa d c b=>I261.Zb a d c b) (Ug 16) (λ_ _ _ _ h=>ahc h)
abbrev ZK:=ya->Option fj
def fJ(k:ZK):aB:=⟨107,[aek,aq,aq],Sn,[(true,0,aem)],λs=>k (s.2.2.2.2.2.1,s.2.2.2.2.2.2,s.1,s.2.1,s.2.2.1,s.2.2.2.1,s.2.2.2.2.1)⟩
abbrev OK0(k:ZK):Prop:=Ko (fJ k)
abbrev TK1:=Ex->Option kR
def kC(k:TK1):aB:=⟨85,[OW],(.cQ [aq,aq,aq]),[],λs=>k s⟩
abbrev OK1(k:TK1):Prop:=Ko (kC k)
abbrev TK2:=Int->zf
def wI(k:TK2):aB:=⟨224,[aq],aq,[],λs=>k s⟩
abbrev OK2(k:TK2):Prop:=Ko (wI k)
abbrev TK3:=(Ex×Q1)->zf
def xk(k:TK3):aB:=⟨102,[OW,aY],aq,[],λs=>k (s.1,s.2)⟩
abbrev OK3(k:TK3):Prop:=Ko (xk k)
abbrev TK4:=Q46->Option y2
def oB(k:TK4):bX:=⟨236,[ae7,aq,SS],J5,none,false,false,rF,[],λs=>k (s.2.1,s.2.2,s.1)⟩
abbrev OK4(k:TK4):Prop:=Jo (oB k)
abbrev TK5:=Q46->Option Q53
def lv(k:TK5):aB:=⟨236,[aec,aq,SS],rF,[(true,0,ac4)],λs=>k (s.2.1,s.2.2,s.1)⟩
abbrev OK5(k:TK5):Prop:=Ko (lv k)
abbrev TK6:=Q40->Option Ji
def rP(k:TK6):aB:=⟨253,[aj4,aq,ez],aq,[(true,0,aiH)],λs=>k (s.2.2.2.2.2.2.1,s.2.2.2.2.2.2.2,s.1,s.2.1,s.2.2.1,s.2.2.2.1,s.2.2.2.2.1,s.2.2.2.2.2.1)⟩
abbrev OK6(k:TK6):Prop:=Ko (rP k)
abbrev TK7:=Q44->Option (cB×Q1)
def oC(k:TK7):aB:=⟨254,[ajv,aq],gU,[(true,0,WY)],λs=>k (s.2.2.2.2.2.2,s.1,s.2.1,s.2.2.1,s.2.2.2.1,s.2.2.2.2.1,s.2.2.2.2.2.1)⟩
abbrev OK7(k:TK7):Prop:=Ko (oC k)
abbrev TK8:=(Ex×Q1)->zf
def kH(k:TK8):aB:=⟨80,[OW,aY],aq,[],λs=>k (s.1,s.2)⟩
abbrev OK8(k:TK8):Prop:=Ko (kH k)
def IG:aB:=⟨73,[my],aq,[],λs=>fT s⟩
theorem D7:Ko IG:=
 aG .o call73 func73 az
def Ge:aB:=⟨74,[],(.own .s 9 true),[],λ_=>ru⟩
theorem Ct:Ko Ge:=
 aG .o call74 func74 az
def FJ:aB:=⟨44,[.str],(.cQ [(.own uu 132 true),aq,aq]),[],λs=>gh s⟩
theorem BY:Ko FJ:=
 aG (.c .o (.l ⟨[(false,5,(.own uu 132 true)),(false,6,aq)],[]⟩ (.c (.c .o (.c (.l ⟨[(false,6,aq)],[]⟩ .o) (.c (.l ⟨[(false,6,aq)],[]⟩ .o) (.c (.l ⟨[(false,6,aq),(false,9,aq)],[]⟩ .o) (.l ⟨[(false,11,.str),(false,12,aq)],[]⟩ .o))))) .o))) call44 func44 (ar D7 (ar Ct az))
def DU:aB:=⟨45,[ao5,aq,.str],.bool,[],λs=>bU (d8 s).2.1 (d8 s).2.2 s.1 s.2.1 s.2.2.1 s.2.2.2.1 s.2.2.2.2.1 s.2.2.2.2.2.1 s.2.2.2.2.2.2.1 s.2.2.2.2.2.2.2.1 s.2.2.2.2.2.2.2.2.1⟩
theorem ia:Ko DU:=
 aG .o call45 func45 az
def JB:aB:=⟨77,[.str],.bool,[],λs=>jl s⟩
theorem uS:Ko JB:=
 aG (.s (.s (.s (.j ⟨[(false,4,.bool)],[]⟩ .o .o)))) call77 func77 az
def BH:aB:=⟨46,[Yc,aq,aq],gU,[(true,0,Lg)],λs=>aJ (d8 s).2.1 (d8 s).2.2 s.1 s.2.1 s.2.2.1 s.2.2.2.1 s.2.2.2.2.1 s.2.2.2.2.2.1 s.2.2.2.2.2.2.1 s.2.2.2.2.2.2.2.1 s.2.2.2.2.2.2.2.2.1⟩
theorem cJ:Ko BH:=
 aG .o call46 func46 az
def CH:aB:=⟨78,[Qy,.str],aq,[],U2 cM⟩
theorem pw:Ko CH:=
 aG (.l ⟨[(false,5,aq)],[]⟩ .o) call78 func78 az
def B8:aB:=⟨49,[Yc,.bool],.str,[(true,0,aad)],λs=>gq (d8 s).2 s.1 s.2.1 s.2.2.1 s.2.2.2.1 s.2.2.2.2.1 s.2.2.2.2.2.1 s.2.2.2.2.2.2.1 s.2.2.2.2.2.2.2.1 s.2.2.2.2.2.2.2.2.1⟩
theorem pg:Ko B8:=
 aG .o call49 func49 (ar uS (ar cJ (ar pw az)))
def BE:aB:=⟨47,[ao5],aq,[],U9 br⟩
theorem fW:Ko BE:=
 aG .o call47 func47 az
def BB:aB:=⟨50,[Yc,.str],gU,[(true,0,aad)],λs=>bM (d8 s).2 s.1 s.2.1 s.2.2.1 s.2.2.2.1 s.2.2.2.2.1 s.2.2.2.2.2.1 s.2.2.2.2.2.2.1 s.2.2.2.2.2.2.2.1 s.2.2.2.2.2.2.2.2.1⟩
theorem jU:Ko BB:=
 aG .o call50 func50 (ar ia (ar fW (ar cJ az)))
def Fc:aB:=⟨113,[aq],.bool,[],λs=>lA s⟩
theorem BW:Ko Fc:=
 aG .o call113 func113 az
def yo:aB:=⟨114,[aek,aq],Sn,[(true,0,(.bx 212 0 true [.same,.same,.same,aq,aq]))],λs=>bE s.2.2.2.2.2 s.1 s.2.1 s.2.2.1 s.2.2.2.1 s.2.2.2.2.1⟩
theorem mR:Ko yo:=
 aG (.c (.r [0] .o) .o) call114 func114 az
def An(a:ZK):aB:=⟨115,[aek,aq],Sn,[(true,0,aem)],λs=>dO a s.2.2.2.2.2 s.1 s.2.1 s.2.2.1 s.2.2.2.1 s.2.2.2.2.1⟩
def xR(g:Ex->Ex)(i:Sh->(R:Type)->Option R->Option R)(l:Q7)(at_:Int)(names:bp)(f:Int)(a:Int)(e:s8)(b:Int->Option fj)(c:Int):Option fj:=
bif decide (c<(names.length:Int)) then (idx names c).bind λh=>
bif h==e.2.1 then some ((Ex.mk 2 c e.2.2.2 []),(i64.wrap (at_+1)),f,a) else b (i64.wrap (c+1)) else (bE 3 l at_ names f a).bind λd=>
some ((g d.1),at_,d.2.1,d.2.2)
def ky(f:Ex->Ex)(B:Sh->(R:Type)->Option R->Option R)(C:ya->Option fj)(h:Int)(l:Q7)(at_:Int)(names:bp)(d:Int)(c:Int):Option fj:=
(idx l at_).bind λb=>
bif b.1==2 then some ((Ex.mk 1 b.2.2.1 b.2.2.2 []),(i64.wrap (at_+1)),d,c) else ai (b.1==1) λA=>
ai (b.2.1==[116,114,117,101]) λz=>
ai (A&&z) λy=>
bif y then (
some ((Ex.mk 13 0 b.2.2.2 []),(i64.wrap (at_+1)),d,c)) else (
ai (b.1==1) λx=>
ai (b.2.1==[102,97,108,115,101]) λw=>
ai (x&&w) λv=>
bif v then (
some ((Ex.mk 14 0 b.2.2.2 []),(i64.wrap (at_+1)),d,c)) else (
(jl b.2.1).bind λj=>
ai (b.1==1) λu=>
ai (!j) λt=>
ai (u&&t) λs=>
bif s then (
ao (xR f B l at_ names d c b) ay 0) else (
ai (b.1 != 3) λr=>
ai (b.2.1 != [40]) λq=>
ai (r||q) λp=>
bif p then (
(bE 2 l at_ names d c).bind λg=>
some ((f g.1),at_,g.2.1,g.2.2)) else (
(C (1,h,l,(i64.wrap (at_+1)),names,d,c)).bind λa=>
bif a.2.2.1 != 0 then some ((Ex.mk 0 0 0 []),a.2.1,a.2.2.1,a.2.2.2) else (idx l a.2.1).bind λm=>
ai (m.1 != 3) λi=>
bF (!i) (0,[],0,0) (idx l a.2.1) λk=>
ai (k.2.1 != [41]) λo=>
ai (i||o) λn=>
bif n then (
(bE 2 l a.2.1 names a.2.2.1 a.2.2.2).bind λe=>
some ((f e.1),a.2.1,e.2.1,e.2.2)) else (
some ((f a.1),(i64.wrap (a.2.1+1)),a.2.2.1,a.2.2.2))))))
theorem wY(a:ZK)(d:OK0 a):Ko (An a):=
 gE (.r [] (.c .o (.c .o (.c .o (.c (.l ⟨[(true,0,(.bx 212 0 true [.same,.same,.same,.same,.same])),(true,4,(.bx 146 0 true [.same,.same,.same,.same])),(false,7,aq)],[]⟩ .o) .o))))) call115 func115 (ar uS (ar mR (ar d az))) az az λs=>(show _=ky sU jq a s.2.2.2.2.2 s.1 s.2.1 s.2.2.1 s.2.2.2.1 s.2.2.2.2.1 from by kernel_rfl).trans ((congrArg (λb=>ky b jq a s.2.2.2.2.2 s.1 s.2.1 s.2.2.1 s.2.2.2.1 s.2.2.2.2.1) jm).trans ((congrArg (λe=>ky id e a s.2.2.2.2.2 s.1 s.2.1 s.2.2.1 s.2.2.2.1 s.2.2.2.2.1) ld).trans (by kernel_rfl)))
def KJ:aB:=⟨116,[(.dat uu []),aq],aq,[],U2 cV⟩
theorem G0:Ko KJ:=
 aG (.c (.c .o (.c .o (.c .o (.c .o (.c .o (.c (.l ⟨[(false,7,aq)],[]⟩ .o) .o)))))) .o) call116 func116 az
def o8:aB:=⟨107,[aek,aq,aq],Sn,[(true,0,aem)],λs=>ic s.2.2.2.2.2.1 s.2.2.2.2.2.2 s.1 s.2.1 s.2.2.1 s.2.2.2.1 s.2.2.2.2.1⟩
def wy(f:Ex->Ex)(j:Sh->(R:Type)->Option R->Option R)(i:ya->Option fj)(l:Q7)(at_:Int)(names:bp)(g:Int)(b:Int)(a:Int)(h:s8)(e:Int):Option fj:=
bif e==0 then (i (7,a,l,at_,names,g,b)).bind λd=>
some ((f d.1),d.2.1,d.2.2.1,d.2.2.2) else (i (6,a,l,(i64.wrap (at_+1)),names,g,b)).bind λc=>
some ((Ex.mk e 0 h.2.2.2 ([(f c.1)]:List Ex)),c.2.1,c.2.2.1,c.2.2.2)
def wv(g:Ex->Ex)(m:Sh->(R:Type)->Option R->Option R)(n:ya->Option fj)(l:Q7)(at_:Int)(names:bp)(h:Int)(c:Int)(a:Int)(d:s8)(f:Int):Option fj:=
ai (λ(e:Int)=>wy g m n l at_ names h c a d e) λb=>
ai (d.1==1) λk=>
ai (d.2.1==[71]) λj=>
ai (k&&j) λi=>
bif i then (
b 22) else (
b f)
def wC(g:Ex->Ex)(m:Sh->(R:Type)->Option R->Option R)(n:ya->Option fj)(l:Q7)(at_:Int)(names:bp)(h:Int)(c:Int)(a:Int)(d:s8)(f:Int):Option fj:=
ai (λ(e:Int)=>wv g m n l at_ names h c a d e) λb=>
ai (d.1==1) λk=>
ai (d.2.1==[70]) λj=>
ai (k&&j) λi=>
bif i then (
b 21) else (
b f)
def wz(g:Ex->Ex)(m:Sh->(R:Type)->Option R->Option R)(n:ya->Option fj)(l:Q7)(at_:Int)(names:bp)(h:Int)(c:Int)(a:Int)(d:s8)(f:Int):Option fj:=
ai (λ(e:Int)=>wC g m n l at_ names h c a d e) λb=>
ai (d.1==1) λk=>
ai (d.2.1==[88]) λj=>
ai (k&&j) λi=>
bif i then (
b 20) else (
b f)
def wm(p:Ex->Ex)(w:Sh->(R:Type)->Option R->Option R)(v:ya->Option fj)(a:Int)(l:Q7)(names:bp)(m:Int)(o:(Int×Int×Int×Int×Int×Int×(List Ex))->Option fj):Int×Int×Int×Int×Int×Int×(List Ex)->Option fj:=λ⟨h,g,n,f,e,d,c⟩=>
bif g==0 then (idx l h).bind λk=>
(cV k a).bind λj=>
bif j==0 then some ((Ex.mk f e d c),h,g,n) else ai (a==1) λu=>
ai (a==2) λt=>
ai (u||t) λs=>
ai (a==5) λr=>
ai (s||r) λq=>
bif q then (
(v (a,m,l,(i64.wrap (h+1)),names,g,n)).bind λi=>
some ((Ex.mk j 0 k.2.2.2 ([(Ex.mk f e d c),(p i.1)]:List Ex)),i.2.1,i.2.2.1,i.2.2.2)) else (
(v ((i64.wrap (a+1)),m,l,(i64.wrap (h+1)),names,g,n)).bind λb=>
bif a==7 then some ((Ex.mk j 0 k.2.2.2 ([(Ex.mk f e d c),(p b.1)]:List Ex)),b.2.1,b.2.2.1,b.2.2.2) else o (b.2.1,b.2.2.1,b.2.2.2,j,0,k.2.2.2,([(Ex.mk f e d c),(p b.1)]:List Ex))) else some ((Ex.mk f e d c),h,g,n)
def wo(h:Ex->Ex)(y:Sh->(R:Type)->Option R->Option R)(q:ya->Option fj)(a:Int)(l:Q7)(at_:Int)(names:bp)(i:Int)(d:Int)(s:Bool)(b:Int):Option fj:=
ai (decide (320<b)) λx=>
ai (s&&x) λw=>
bif w then (
(bE 9 l at_ names i d).bind λk=>
some ((h k.1),at_,k.2.1,k.2.2)) else (
(idx l at_).bind λg=>
bif a==6 then ai (λ(r:Int)=>wz h y q l at_ names i d b g r) λj=>
ai (g.1==3) λv=>
ai (g.2.1==[33]) λu=>
ai (v&&u) λt=>
bif t then (
j 15) else (
j 0) else bif a==10 then ai (g.1 != 3) λp=>
ai (g.2.1 != [45]) λo=>
ai (p||o) λm=>
bif m then (
(dO q b l at_ names i d).bind λf=>
some ((h f.1),f.2.1,f.2.2.1,f.2.2.2)) else (
(q (10,b,l,(i64.wrap (at_+1)),names,i,d)).bind λe=>
some ((Ex.mk 6 0 g.2.2.2 ([(h e.1)]:List Ex)),e.2.1,e.2.2.1,e.2.2.2)) else (q ((i64.wrap (a+1)),b,l,at_,names,i,d)).bind λc=>
ao (wm h y q a l names b) ay (c.2.1,c.2.2.1,c.2.2.2,c.1.op,c.1.n,c.1.at_,c.1.l))
def ja(h:Ex->Ex)(i:Sh->(R:Type)->Option R->Option R)(j:ya->Option fj)(a:Int)(d:Int)(l:Q7)(at_:Int)(names:bp)(e:Int)(b:Int):Option fj:=
bif e != 0 then some ((Ex.mk 0 0 0 []),at_,e,b) else (lA a).bind λg=>
ai (λ(f:Int)=>wo h i j a l at_ names e b g f) λc=>
bif g then (
c (i64.wrap (d+1))) else (
c d)
def oQ:ZK->ZK:=λa s=>di a s.1 s.2.1 s.2.2.1 s.2.2.2.1 s.2.2.2.2.1 s.2.2.2.2.2.1 s.2.2.2.2.2.2
theorem uN(a:ZK)(d:OK0 a):(fJ (oQ a)).Ok X0.P X0.Γ:=
 gE (.c .o (.s (.j ⟨[(false,2,aq)],[]⟩ .o (.c .o (.r [] (.c (.s (.j ⟨[(false,9,aq)],[]⟩ .o (.j ⟨[(false,9,aq)],[]⟩ .o (.j ⟨[(false,9,aq)],[]⟩ .o (.j ⟨[(false,9,aq)],[]⟩ .o .o))))) (.c .o (.l ⟨[(true,0,aem),(true,6,(.bx 146 0 true [.same,.same,.same,.same])),(true,12,(.bx 146 0 true [aq,aq,aq,(.own .ex 146 true)]))],[]⟩ .o)))))))) call107 func107 (ar BW (ar mR (ar d (ar (wY a d) (ar G0 az))))) az az λs=>(show _=ja sU jq a s.2.2.2.2.2.1 s.2.2.2.2.2.2 s.1 s.2.1 s.2.2.1 s.2.2.2.1 s.2.2.2.2.1 from by kernel_rfl).trans ((congrArg (λb=>ja b jq a s.2.2.2.2.2.1 s.2.2.2.2.2.2 s.1 s.2.1 s.2.2.1 s.2.2.2.1 s.2.2.2.2.1) jm).trans ((congrArg (λe=>ja id e a s.2.2.2.2.2.1 s.2.2.2.2.2.2 s.1 s.2.1 s.2.2.1 s.2.2.2.1 s.2.2.2.2.1) ld).trans (by kernel_rfl)))
theorem wE:Ko o8:=(show o8=fJ (ao (oQ) ay) by kernel_rfl)▸tq (X:=X0) (E:=fJ) ⟨call107,λ_ _ h=>nomatch h⟩ (uN) ay
def Dz:aB:=⟨98,[(.own uu 132 false),aq,Qy],(.cQ [Sn,aq,aq,aq]),[],U3 fa⟩
def lY(b:Ex->Ex)(c:Sh->(R:Type)->Option R->Option R)(l:Q7)(at_:Int)(names:bp):Option fj:=
(ic 1 0 l at_ names 0 0).bind λa=>
bif a.2.2.1 != 0 then some ((Ex.mk 0 0 0 []),0,a.2.2.1,a.2.2.2) else some ((b a.1),a.2.1,0,0)
theorem Ax:Ko Dz:=
 gE (.c (.r [6] .o) (.r [6] .o)) call98 func98 (ar wE az) az az λs=>(show _=lY sU jq s.1 s.2.1 s.2.2 from by kernel_rfl).trans ((congrArg (λa=>lY a jq s.1 s.2.1 s.2.2) jm).trans ((congrArg (λb=>lY id b s.1 s.2.1 s.2.2) ld).trans (by kernel_rfl)))
def wM:aB:=⟨85,[OW],(.cQ [aq,aq,aq]),[],λs=>iA s⟩
def DT(j:Ex->Ex)(H:Sh->(R:Type)->Option R->Option R)(G:Ex->Option kR)(e:Ex)(f:EU->Option kR):Int×Int×Int×Int->Option kR:=λ⟨a,b,c,h⟩=>
bif decide (h<(List.length e.l:Int)) then (idx e.l h).bind λk=>
(G (j k)).bind λd=>
bif d.2.1 != 0 then some (0,d.2.1,d.2.2) else ai (λ(i:Int)=>oY b c h f d i) λg=>
bif d.1==1 then g (i64.wrap (a+1)) else g a else ai (decide (e.op<=6)) λF=>
ai (a==(List.length e.l:Int)) λE=>
ai (F&&E) λD=>
bif D then (
some (1,0,0)) else (
ai (decide (7<=e.op)) λC=>
ai (decide (e.op<=12)) λB=>
ai (C&&B) λA=>
ai (a==(List.length e.l:Int)) λz=>
ai (A&&z) λy=>
ai (e.op==13) λx=>
ai (y||x) λw=>
ai (e.op==14) λv=>
ai (w||v) λu=>
bif u then (
some (2,0,0)) else (
ai (decide (15<=e.op)) λt=>
ai (decide (e.op<=19)) λs=>
ai (t&&s) λr=>
ai (b==(List.length e.l:Int)) λq=>
ai (r&&q) λp=>
bif p then (
some (2,0,0)) else (
ai (decide (15<=e.op)) λo=>
ai ((i64.wrap (b+c))==(List.length e.l:Int)) λn=>
ai (o&&n) λm=>
bif m then (
some (3,0,0)) else (
some (0,4,e.at_)))))
def oa(a:Ex->Ex)(c:Sh->(R:Type)->Option R->Option R)(b:Ex->Option kR)(e:Ex):Option kR:=
ao (DT a c b e) ay (0,0,0,0)
def wT:TK1->TK1:=λk1 s=>iX k1 s
theorem BZ(k1:TK1)(b:OK1 k1):(kC (wT k1)).Ok X0.P X0.Γ:=
 gE (.l ⟨[(false,5,aq),(false,6,aq),(false,7,aq),(false,8,aq)],[]⟩ (.c (.c .o (.j ⟨[(false,5,aq)],[]⟩ .o (.j ⟨[(false,6,aq)],[]⟩ .o .o))) .o)) call85 func85 (ar b az) az az λs=>(show _=oa sU jq k1 s from by kernel_rfl).trans ((congrArg (λa=>oa a jq k1 s) jm).trans ((congrArg (λd=>oa id d k1 s) ld).trans (by kernel_rfl)))
theorem DQ:Ko wM:=(show wM=kC (ao (wT) ay) by kernel_rfl)▸tq (X:=X0) (E:=kC) ⟨call85,λ_ _ h=>nomatch h⟩ (BZ) ay
def DX:aB:=⟨85,[(.dat .ex [some 292])],(.cQ [aq,aq,aq]),[],λs=>ir s⟩
def AY(j:Ex->Ex)(G:Sh->(R:Type)->Option R->Option R)(e:Ex)(f:EU->Option kR):Int×Int×Int×Int->Option kR:=λ⟨a,b,c,h⟩=>
bif decide (h<(List.length e.l:Int)) then (idx e.l h).bind λk=>
(iA (j k)).bind λd=>
bif d.2.1 != 0 then some (0,d.2.1,d.2.2) else ai (λ(i:Int)=>sP b c h f d i) λg=>
bif d.1==1 then g (i64.wrap (a+1)) else g a else ai (decide (e.op<=6)) λF=>
ai (a==(List.length e.l:Int)) λE=>
ai (F&&E) λD=>
bif D then (
some (1,0,0)) else (
ai (decide (7<=e.op)) λC=>
ai (decide (e.op<=12)) λB=>
ai (C&&B) λA=>
ai (a==(List.length e.l:Int)) λz=>
ai (A&&z) λy=>
ai (e.op==13) λx=>
ai (y||x) λw=>
ai (e.op==14) λv=>
ai (w||v) λu=>
bif u then (
some (2,0,0)) else (
ai (decide (15<=e.op)) λt=>
ai (decide (e.op<=19)) λs=>
ai (t&&s) λr=>
ai (b==(List.length e.l:Int)) λq=>
ai (r&&q) λp=>
bif p then (
some (2,0,0)) else (
ai (decide (15<=e.op)) λo=>
ai ((i64.wrap (b+c))==(List.length e.l:Int)) λn=>
ai (o&&n) λm=>
bif m then (
some (3,0,0)) else (
some (0,4,e.at_)))))
def mS(a:Ex->Ex)(b:Sh->(R:Type)->Option R->Option R)(e:Ex):Option kR:=
ao (AY a b e) ay (0,0,0,0)
theorem A8:Ko DX:=
 gE (.l ⟨[(false,5,aq),(false,6,aq),(false,7,aq),(false,8,aq)],[]⟩ (.c (.c .o (.j ⟨[(false,5,aq)],[]⟩ .o (.j ⟨[(false,6,aq)],[]⟩ .o .o))) .o)) call85 func85 (ar DQ az) az az λs=>(show _=mS sU jq s from by kernel_rfl).trans ((congrArg (λa=>mS a jq s) jm).trans ((congrArg (λb=>mS id b s) ld).trans (by kernel_rfl)))
def wq:aB:=⟨79,[Yc,aq],Sn,[(true,0,aad)],λs=>cC (d8 s).2 s.1 s.2.1 s.2.2.1 s.2.2.2.1 s.2.2.2.2.1 s.2.2.2.2.2.1 s.2.2.2.2.2.2.1 s.2.2.2.2.2.2.2.1 s.2.2.2.2.2.2.2.2.1⟩
def ux(b:Ex->Ex)(e:Sh->(R:Type)->Option R->Option R)(a:fj)(d:Int)(c:Int):Option fj:=
some ((b a.1),a.2.1,d,c)
def iO(p:Ex->Ex)(q:Sh->(R:Type)->Option R->Option R)(j:Int)(l:Q7)(at_:Int)(c:bp)(b:Q4)(h:Q1)(d:bp)(aS:Q5)(f:Int)(a:Int):Option fj:=
bif f != 0 then some ((Ex.mk 0 0 0 []),at_,f,a) else (fa l at_ c).bind λe=>
bif e.2.2.1 != 0 then (aJ e.2.2.1 e.2.2.2 l at_ c b h d aS f a).bind λo=>
some ((Ex.mk 0 0 0 []),at_,o.1,o.2) else (ir (p e.1)).bind λi=>
ai (λ(k:Int×Int)=>ux p q e k.1 k.2) λg=>
bif i.2.1 != 0 then (aJ i.2.1 i.2.2 l at_ c b h d aS f a).bind λn=>
g (n.1,n.2) else bif i.1 != j then (aJ 4 e.1.at_ l at_ c b h d aS f a).bind λm=>
g (m.1,m.2) else g (f,a)
theorem uf:Ko wq:=
 gE (.c .o (.r [0,40000] (.c .o (.s (.j ⟨[(true,0,Lg)],[]⟩ .o .o))))) call79 func79 (ar Ax (ar cJ (ar A8 az))) az az λs=>(show _=iO sU jq (d8 s).2 s.1 s.2.1 s.2.2.1 s.2.2.2.1 s.2.2.2.2.1 s.2.2.2.2.2.1 s.2.2.2.2.2.2.1 s.2.2.2.2.2.2.2.1 s.2.2.2.2.2.2.2.2.1 from by kernel_rfl).trans ((congrArg (λa=>iO a jq (d8 s).2 s.1 s.2.1 s.2.2.1 s.2.2.2.1 s.2.2.2.2.1 s.2.2.2.2.2.1 s.2.2.2.2.2.2.1 s.2.2.2.2.2.2.2.1 s.2.2.2.2.2.2.2.2.1) jm).trans ((congrArg (λb=>iO id b (d8 s).2 s.1 s.2.1 s.2.2.1 s.2.2.2.1 s.2.2.2.2.1 s.2.2.2.2.2.1 s.2.2.2.2.2.2.1 s.2.2.2.2.2.2.2.1 s.2.2.2.2.2.2.2.2.1) ld).trans (by kernel_rfl)))
def yA:aB:=⟨51,[(.bx 130 0 true [(.own uu 132 false),aq,Qy,(.own kU 112 false),Zj,Qy,(.own AS 180 true),aq,aq])],gU,[(true,0,apq)],U9 gY⟩
def wh(k:Ex->Ex)(p:Sh->(R:Type)->Option R->Option R)(l:Q7)(e:bp)(b:Q4)(f:Q1)(d:bp)(aS:Q5)(j:Rm)(c:Vk->Option tV)(i:Int)(o:Int)(n:Int)(m:Int):Option tV:=
(bM [61] l m e b f d aS o n).bind λh=>
(cC 1 l h.1 e b f d aS h.2.1 h.2.2).bind λa=>
aM (aH (List.length j+List.length ([(i,(k a.1))]:List (Int×Ex))) 56)<|
(bU 3 [44] l a.2.1 e b f d aS a.2.2.1 a.2.2.2).bind λg=>
bif g then (
c ((i64.wrap (a.2.1+1)),a.2.2.1,a.2.2.2,(j++([(i,(k a.1))]:List (Int×Ex))),g)) else (
c (a.2.1,a.2.2.1,a.2.2.2,(j++([(i,(k a.1))]:List (Int×Ex))),g))
def wD(m:Ex->Ex)(o:Sh->(R:Type)->Option R->Option R)(l:Q7)(e:bp)(b:Q4)(h:Q1)(d:bp)(aS:Q5)(g:Int)(k:Rm)(a:Vk->Option tV)(j:Int)(f:Int)(n:Int):Option tV:=
ai (λ(i:Int)=>wh m o l e b h d aS k a j f n i) λc=>
bif f==0 then c (i64.wrap (g+1)) else c g
def wA(v:Ex->Ex)(z:Sh->(R:Type)->Option R->Option R)(l:Q7)(d:bp)(b:Q4)(h:Q1)(c:bp)(aS:Q5)(r:Int)(q:Int)(p:Int)(m:Rm)(g:Vk->Option tV)(o:s8)(k:Int)(f:CZ->Option tV):Bool×Int->Option tV:=λ⟨a,n⟩=>
bif decide (n<(m.length:Int)) then bF (!a) (0,(Ex.mk 0 0 0 [])) (idx m n) λw=>
ai (w.1==k) λy=>
ai (a||y) λx=>
f (x,(i64.wrap (n+1))) else ai (λ(s:Int×Int)=>wD v z l d b h c aS r m g k s.1 s.2) λe=>
bif o.1 != 1 then (aJ 2 o.2.2.2 l r d b h c aS q p).bind λj=>
e (j.1,j.2) else ai (decide (k<0)) λu=>
ai (u||a) λt=>
bif t then (
(aJ 3 o.2.2.2 l r d b h c aS q p).bind λi=>
e (i.1,i.2)) else (
e (q,p))
def wB(i:Ex->Ex)(s:Sh->(R:Type)->Option R->Option R)(l:Q7)(b:bp)(c:Q4)(g:Q1)(a:bp)(aS:Q5)(m:fj)(e:Vk->Option tV):Int×Int×Int×Rm×Bool->Option tV:=λ⟨k,j,o,h,f⟩=>
ai (j==0) λr=>
ai (f&&r) λq=>
bif q then (
(idx l k).bind λn=>
(cM b n.2.1).bind λp=>
ao (wA i s l b c g a aS k j o h e n p) ay (false,0)) else (
(bM [59] l k b c g a aS j o).bind λd=>
aM (aH (List.length aS+List.length ([((i64.wrap ((a.length:Int)-1)),(i m.1),h)]:List Q52)) 80)<|
some (d.1,(aS++([((i64.wrap ((a.length:Int)-1)),(i m.1),h)]:List Q52)),d.2.1,d.2.2))
def wx(g:Ex->Ex)(j:Sh->(R:Type)->Option R->Option R)(l:Q7)(at_:Int)(c:bp)(a:Q4)(d:Q1)(b:bp)(aS:Q5)(i:Int)(h:Int):Option tV:=
(cC 2 l at_ c a d b aS i h).bind λe=>
(bM [58] l e.2.1 c a d b aS e.2.2.1 e.2.2.2).bind λf=>
ao (wB g j l c a d b aS e) ay (f.1,f.2.1,f.2.2,[],true)
def jQ(k:Ex->Ex)(m:Sh->(R:Type)->Option R->Option R)(l:Q7)(at_:Int)(d:bp)(a:Q4)(f:Q1)(c:bp)(aS:Q5)(i:Int)(b:Int):Option tV:=
ai (λ(g:Int×Int)=>wx k m l at_ d a f c aS g.1 g.2) λe=>
bif decide (256<=(aS.length:Int)) then (br l at_ d a f c aS i b).bind λj=>
(aJ 9 j l at_ d a f c aS i b).bind λh=>
e (h.1,h.2) else e (i,b)
theorem wu:Ko yA:=
 gE (.j ⟨[(true,0,Lg)],[]⟩ .o (.l ⟨[(true,0,aad),(true,2,(.bx 180 0 true [.same,.same,.same,.same,.same,(.own (.p bf .ex) 183 true)])),(false,3,.bool)],[]⟩ (.c (.r [] (.r [0] (.l ⟨[(false,6,.bool),(false,7,aq)],[]⟩ (.c .o (.j ⟨[(true,0,Lg)],[4]⟩ .o (.j ⟨[(true,0,alb)],[]⟩ .o .o)))))) (.r [0,2] .o)))) call51 func51 (ar uf (ar jU (ar pw (ar ia (ar cJ (ar fW az)))))) az az λs=>(show _=jQ sU jq s.1 s.2.1 s.2.2.1 s.2.2.2.1 s.2.2.2.2.1 s.2.2.2.2.2.1 s.2.2.2.2.2.2.1 s.2.2.2.2.2.2.2.1 s.2.2.2.2.2.2.2.2 from by kernel_rfl).trans ((congrArg (λa=>jQ a jq s.1 s.2.1 s.2.2.1 s.2.2.2.1 s.2.2.2.2.1 s.2.2.2.2.2.1 s.2.2.2.2.2.2.1 s.2.2.2.2.2.2.2.1 s.2.2.2.2.2.2.2.2) jm).trans ((congrArg (λb=>jQ id b s.1 s.2.1 s.2.2.1 s.2.2.2.1 s.2.2.2.2.1 s.2.2.2.2.2.1 s.2.2.2.2.2.2.1 s.2.2.2.2.2.2.2.1 s.2.2.2.2.2.2.2.2) ld).trans (by kernel_rfl)))
def Az:aB:=⟨75,[Yc],aq,[(true,0,aad)],U9 dP⟩
theorem xP:Ko Az:=
 aG (.s (.s (.j ⟨[(true,0,alb)],[]⟩ .o (.r [] (.j ⟨[(true,0,Lg)],[]⟩ .o .o))))) call75 func75 (ar ia (ar cJ az))
def Ha:aB:=⟨76,[jx],.bool,[],λs=>mL s⟩
theorem Cz:Ko Ha:=
 aG (.c .o (.l ⟨[(false,3,aq)],[]⟩ .o)) call76 func76 az
def xU:aB:=⟨48,[(.bx 130 0 true [(.own uu 132 false),aq,(.own .s 9 true),(.own kU 112 true),kT,Qy,(.own AS 180 false),aq,aq])],gU,[(true,0,apy)],U9 gL⟩
theorem vj:Ko xU:=
 aG (.s (.s (.s (.s (.s (.s (.s (.s (.j ⟨[(true,0,Lg)],[]⟩ .o (.r [0] .o)))))))))) call48 func48 (ar pg (ar fW (ar xP (ar jU (ar Cz (ar cJ az))))))
def GD:aB:=⟨26,[.str],(.cQ [als,aq,aq]),[],λs=>fm s⟩
theorem CX:Ko GD:=
 aG (.c .o (.l ⟨[(true,8,(.bx 130 0 true [.same,aq,(.own .s 9 true),(.own kU 112 true),kT,(.own .s 9 true),(.own AS 180 true),aq,aq]))],[]⟩ (.c (.s (.s (.j ⟨[(true,8,Lg)],[]⟩ .o (.j ⟨[(true,8,alb)],[]⟩ .o (.j ⟨[(true,8,apy)],[]⟩ .o (.c (.l ⟨[(true,8,apq),(false,12,.bool)],[]⟩ .o) .o)))))) (.j ⟨[(true,8,Lg)],[]⟩ .o (.c (.r [2] .o) .o))))) call26 func26 (ar BY (ar ia (ar pg (ar jU (ar wu (ar vj (ar fW (ar cJ az))))))))
def Ll:aB:=⟨12,[.str],(.cQ [als,.bool]),[],λs=>mC s⟩
theorem vT:Ko Ll:=
 aG .o call12 func12 (ar CX az)
def MV:aB:=⟨62,[(.dat kU [])],.bool,[],λs=>rU s⟩
theorem HN:Ko MV:=
 aG .o call62 func62 az
def KM:aB:=⟨61,[jx,(.fn 62 [] [])],(.own .bo 4 true),[],λs=>pD s⟩
theorem GS:Ko KM:=
 aG (.l ⟨[(true,5,(.own .bo 4 true)),(false,13,aq)],[]⟩ .o) call61 func61 (ar HN az)
def CR:aB:=⟨86,[(.sli .bo),.bool],aq,[],U2 ot⟩
theorem AH:Ko CR:=
 aG (.l ⟨[(false,8,aq)],[]⟩ .o) call86 func86 az
def AK:aB:=⟨60,[(.sli .bo),.bool],.bool,[],U2 iH⟩
theorem w9:Ko AK:=
 aG .o call60 func60 (ar AH az)
def SQ:aB:=⟨36,[jx],.bool,[],λs=>sC s⟩
theorem Bj:Ko SQ:=
 aG .o call36 func36 (ar GS (ar w9 az))
def um:aB:=⟨37,[jx],(.own kU 112 true),[],λs=>cL s⟩
def ur(s:Q4):Option Q4:=
yM s (
some []) (
aM (aH (List.length ([]:List pj)+List.length s) 16)<|
some (([]:List pj)++s))
theorem jW:Ko um:=
 gE .o call37 func37 az az az λs=>(show _=ur s from by kernel_rfl).trans nW
def Wa:aB:=⟨22,[rC,u7],(.cQ [(.own kU 112 true),aq]),[],U2 uQ⟩
theorem OZ:Ko Wa:=
 aG (.c .o (.r [40000] .o)) call22 func22 (ar Bj (ar jW az))
def VW:aB:=⟨38,[],(.sli .n),[],λ_=>ct⟩
theorem Dn:Ko VW:=
 aG .o call38 func38 az
def Nz:aB:=⟨166,[aq],(.cQ [(.dat gB [some 149,some 7]),aq]),[],λs=>np s⟩
theorem yv:Ko Nz:=
 aG .o call166 func166 az
def afg:aB:=⟨161,[aq],(.cQ [(.dat (.p gB lx) [some 149,some 7,some 11]),aq]),[],λs=>II s⟩
theorem VG:Ko afg:=
 aG .o call161 func161 (ar yv az)
def JM:aB:=⟨155,[oN,ox,ON],(.cQ [(.dat PH [none,some 149,some 7,some 11,none,none,none,none,none,none,none,none,none,none,none,none,none,none,none]),aq]),[],U3 jh⟩
theorem Fs:Ko JM:=
 aG .o call155 func155 (ar VG az)
def HS:aB:=⟨201,[jx,aq],(.cQ [(.dat Y5 [some 147,some 149,some 7,some 11]),aq]),[],U2 Hr⟩
def VS(f:Nat)(s:Q4)(most:Int)(e:(Q6×Int))(a:((List Q6)×Int)->Option (x4×Int)):(List Q6)×Int->Option (x4×Int):=λ⟨b,c⟩=>
bif decide (c<(i64.wrap (Int.tdiv (i64.wrap ((i64.wrap ((s.length:Int)+2))-1)) 2))) then (np most).bind λd=>
aM (aH (List.length b+List.length ([d.1]:List Q6)) 56)<|
a ((b++([d.1]:List Q6)),(i64.wrap (c+1))) else some ((b,e.1,[]),0)
def aey(fl:Nat)(s:Q4)(most:Int):Option (x4×Int):=
(np most).bind λa=>
bif a.2 != 0 then some (([],(0,[],[]),[]),a.2) else ao (VS fl s most a) fl ([],0)
theorem SY(fl:Nat)(s:fu (pQ HS.ps)):X9 { X0 with fl:=fl } [Nz] [] [] (.c .o (.l ⟨[(true,4,aeE),(true,8,aeq),(false,27,aq)],[]⟩ .o)) Tryz.f201 HS s=aey fl s.1 s.2:=by kernel_rfl
theorem V7:Ko HS:=
 gE (.c .o (.l ⟨[(true,4,aeE),(true,8,aeq),(false,27,aq)],[]⟩ .o)) call201 func201 (ar yv az) az az λs=>(SY ay s).trans (by kernel_rfl)
def Iy:aB:=⟨195,[oN,ox,ON],(.cQ [(.dat PH [none,none,none,none,some 147,some 149,some 7,some 11,none,none,none,none,none,none,none,none,none,none,none]),aq]),[],U3 iz⟩
theorem DN:Ko Iy:=
 aG .o call195 func195 (ar V7 az)
def aaT:aB:=⟨223,[aq],(.cQ [(.dat gB [some 149,some 7]),aq]),[],λs=>JQ s⟩
theorem SB:Ko aaT:=
 aG .o call223 func223 (ar yv az)
def Ng:aB:=⟨224,[aq],aq,[],λs=>vI s⟩
def NK:TK2->TK2:=λa s=>rq a s
theorem O8(a:TK2)(b:OK2 a):(wI (NK a)).Ok X0.P X0.Γ:=
 aG .o call224 func224 (ar b az)
theorem yC:Ko Ng:=(show Ng=wI (ao (NK) ay) by kernel_rfl)▸tq (X:=X0) (E:=wI) ⟨call224,λ_ _ h=>nomatch h⟩ (O8) ay
def adW:aB:=⟨219,[jx,aq],(.cQ [(.dat YP [some 541,some 11]),aq]),[],U2 Ho⟩
theorem V1:Ko adW:=
 aG (.c .o (.r [30000,20006] (.l ⟨[(true,4,(.bx 82 0 true [.same,.same])),(true,8,(.bx 82 0 true [(.own gB 270 true),.same])),(false,23,aq)],[]⟩ .o))) call219 func219 (ar SB (ar yC az))
def Ij:aB:=⟨213,[oN,ox,ON],(.cQ [(.dat PH [none,none,none,none,none,none,none,none,some 541,some 11,none,none,none,none,none,none,none,none,none]),aq]),[],U3 iC⟩
theorem Ea:Ko Ij:=
 aG .o call213 func213 (ar V1 az)
def aaC:aB:=⟨185,[IP],aq,[],λs=>Ah s⟩
theorem GC:Ko aaC:=
 aG (.l ⟨[(false,0,IP),(false,3,aq)],[]⟩ .o) call185 func185 az
def Lq:aB:=⟨177,[(.dat kU [])],aq,[],λs=>jS s⟩
theorem Gb:Ko Lq:=
 aG .o call177 func177 (ar GC az)
def MU:aB:=⟨176,[jx,(.fn 177 [] [])],kT,[],λs=>nV s⟩
theorem wG:Ko MU:=
 aG (.l ⟨[(true,5,kT),(false,13,aq)],[]⟩ .o) call176 func176 (ar Gb az)
def We:aB:=⟨188,[jx],aq,[],λs=>Ab s⟩
theorem OL:Ko We:=
 aG (.l ⟨[(false,3,aq),(false,9,aq)],[]⟩ .o) call188 func188 (ar wG az)
def Sg:aB:=⟨179,[jx],aq,[],λs=>o6 s⟩
theorem Bo:Ko Sg:=
 aG .o call179 func179 (ar OL az)
def afx:aB:=⟨246,[aq],(.cQ [(.dat yt [some 547,some 7]),aq]),[],λs=>Mb s⟩
theorem Z7:Ko afx:=
 aG .o call246 func246 az
def JK:aB:=⟨240,[oN,ox,ON],HG,[],U3 gI⟩
theorem FN:Ko JK:=
 aG (.c .o (.l ⟨[(true,4,(.bx 91 0 true [.same,.same,.same,.same,.same,.same,.same,.same,.same,.same,.same,.same,.same,.same,aq,(.sli sL),aq,aq,aY,aq,(.sli sL),aq,aq,aY,aq,(.sli sL),aq,aq,aY,.same,.same,.same,.same,.same,.same])),(true,6,(.bx 91 0 true [.same,.same,.same,.same,.same,.same,.same,.same,.same,.same,.same,.same,.same,.same,.same,.same,.same,.same,.same,.same,.same,.same,.same,.same,.same,.same,.same,.same,.same,.same,.same,.same,.same,.same,.same])),(false,18,aq)],[]⟩ .o)) call240 func240 (ar Bo (ar Z7 az))
def aeD:aB:=⟨280,[aq,aq,IP],(.cQ [(.dat Fy [some 11,some 11,some 11]),aq]),[],U3 Z5⟩
theorem VF:Ko aeD:=
 aG (.c .o (.l ⟨[(true,6,(.bx 89 0 true [.same,.same,.same,.same,.same,.same])),(true,8,(.bx 89 0 true [.same,.same,.same,jg,jg,jg])),(false,29,aq)],[]⟩ .o)) call280 func280 az
def JG:aB:=⟨274,[oN,ox,ON],HG,[],U3 oD⟩
theorem Fi:Ko JG:=
 aG .o call274 func274 (ar VF az)
def aa5:aB:=⟨23,[jx,ON],HG,[],U2 jn⟩
theorem Ss:Ko aa5:=
 aG (.r [] (.c .o (.r [3,40000] .o))) call23 func23 (ar Bj (ar Dn (ar jW (ar Fs (ar DN (ar Ea (ar FN (ar Fi az))))))))
def aav:aB:=⟨63,[u7,aY,aY],(.fn 87 [] [adY,(.bx 26 0 true [(.sli (.l .ex)),(.sli rL),aY,(.sli rL)]),adY]),[],U3 Am⟩
theorem Hb:Ko aav:=
 aG .o call63 func63 az
def YT:aB:=⟨109,[.bool],aq,[],λs=>xB s⟩
theorem Re:Ko YT:=
 aG .o call109 func109 az
def NJ:aB:=⟨102,[OW,aY],aq,[],U2 px⟩
def Sj(s:Ex->Ex)(z:Sh->(R:Type)->Option R->Option R)(y:(Ex×Q1)->zf)(e:Ex)(q:Q1)(b:kR->zf):Int×Int×Int->zf:=λ⟨a,c,d⟩=>
bif decide (d<(List.length (aT e.l 0 (min (List.length e.l:Int) 2)):Int)) then (idx (aT e.l 0 (min (List.length e.l:Int) 2)) d).bind λu=>
(y ((s u),q)).bind λk=>
bif d==0 then b (k,c,(i64.wrap (d+1))) else bif d==1 then b (a,k,(i64.wrap (d+1))) else none else ai (λ(j:Int×Int×Bool)=>C4 j.1 j.2.1 j.2.2) λp=>
ai (λ(i:Int×Int×Bool)=>Cw i.1 i.2.1 i.2.2) λo=>
ai (λ(h:Int×Int×Bool)=>Dw h.1 h.2.1 h.2.2) λg=>
bif e.op==1 then some e.n else bif e.op==2 then ai (decide (e.n<0)) λBk=>
ai (decide ((q.length:Int)<=e.n)) λw=>
ai (Bk||w) λv=>
bif v then (
some 0) else (
(idx q e.n).bind λt=>
some t) else bif e.op==3 then some (i64.wrap (a+c)) else bif e.op==5 then some (i64.wrap (a*c)) else bif e.op==6 then some (i64.wrap (0-a)) else bif e.op==4 then some (i64.wrap (a-c)) else bif e.op==8 then g (a,c,true) else ai (λ(x:Unit)=>CL e a c p o) λm=>
ai (λ(r:Bool)=>Dh a c g m r) λf=>
bif e.op==7 then f (e.op==7) else f (e.op==19)
def AN(a:Ex->Ex)(d:Sh->(R:Type)->Option R->Option R)(c:(Ex×Q1)->zf)(e:Ex)(b:Q1):zf:=
aM (cR 0 (min (List.length e.l:Int) 2) (List.length e.l))<|
ao (Sj a d c e b) ay (0,0,0)
def NG:TK3->TK3:=λa s=>uG a s.1 s.2
theorem NY(a:TK3)(d:OK3 a):(xk (NG a)).Ok X0.P X0.Γ:=
 gE (.l ⟨[(true,5,(.bx 215 0 true [aq,aq])),(false,19,aq)],[]⟩ (.c .o (.r [] (.s (.s (.s (.s (.s (.s (.s (.s (.j ⟨[(false,8,aq),(false,9,aq),(false,10,.bool)],[2]⟩ (.s (.j ⟨[(false,8,aq),(false,9,aq),(false,10,.bool)],[2]⟩ (.s (.j ⟨[(false,8,aq),(false,9,aq),(false,10,.bool)],[2]⟩ (.c .o (.c .o (.c .o (.c .o (.c .o (.c .o (.c .o (.j ⟨[],[]⟩ (.j ⟨[(false,50,.bool)],[]⟩ .o .o) .o)))))))) .o)) .o)) .o)))))))))))) call102 func102 (ar d (ar Re az)) az az λs=>(show _=AN sU jq a s.1 s.2 from by kernel_rfl).trans ((congrArg (λb=>AN b jq a s.1 s.2) jm).trans ((congrArg (λe=>AN id e a s.1 s.2) ld).trans (by kernel_rfl)))
theorem yq:Ko NJ:=(show NJ=xk (ao (NG) ay) by kernel_rfl)▸tq (X:=X0) (E:=xk) ⟨call102,λ_ _ h=>nomatch h⟩ (NY) ay
def VI:aB:=⟨101,[OW,YK],.bool,[],U2 yZ⟩
def A5(a:Ex->Ex)(c:Sh->(R:Type)->Option R->Option R)(e:Ex)(x:Q1):zc:=
(px (a e) x).bind λb=>
some (b != 1)
theorem N5:Ko VI:=
 gE .o call101 func101 (ar yq az) az az λs=>(show _=A5 sU jq s.1 s.2 from by kernel_rfl).trans ((congrArg (λa=>A5 a jq s.1 s.2) jm).trans ((congrArg (λb=>A5 id b s.1 s.2) ld).trans (by kernel_rfl)))
def sX:aB:=⟨108,[(.sli .ex),(.fn 101 [] [YK])],aq,[],U2 gC⟩
def p6(e:Ex->Ex)(g:Sh->(R:Type)->Option R->Option R)(s:(List Ex))(c:Q1)(a:Int->zf)(b:Int):zf:=
bif decide (b<(s.length:Int)) then (idx s b).bind λf=>
(yZ (e f) c).bind λd=>
bif d then (
some b) else (
a (i64.wrap (b+1))) else some (-1)
def fN(a:Ex->Ex)(b:Sh->(R:Type)->Option R->Option R)(s:(List Ex))(c:Q1):zf:=
ao (p6 a b s c) ay 0
theorem pY:Ko sX:=
 gE (.l ⟨[(false,8,aq)],[]⟩ .o) call108 func108 (ar N5 az) az az λs=>(show _=fN sU jq s.1 s.2 from by kernel_rfl).trans ((congrArg (λa=>fN a jq s.1 s.2) jm).trans ((congrArg (λb=>fN id b s.1 s.2) ld).trans (by kernel_rfl)))
def rh:aB:=⟨100,[(.sli .ex),(.fn 101 [] [YK])],.bool,[],U2 fG⟩
theorem oV:Ko rh:=
 aG .o call100 func100 (ar pY az)
def aeg:aB:=⟨88,[u7,aq,aY],.bool,[],U3 Ck⟩
theorem Jy:Ko aeg:=
 aG .o call88 func88 (ar oV az)
def Fw:aB:=⟨89,[aY],kT,[],λs=>bw s⟩
def Fu(s:Q1):Option Q1:=
yM s (
some []) (
aM (aH (List.length ([]:zn)+List.length s) 8)<|
some (([]:zn)++s))
theorem dN:Ko Fw:=
 gE .o call89 func89 az az az λs=>(show _=Fu s from by kernel_rfl).trans nW
def wj:aB:=⟨103,[jg,aq,aq],jg,[],U3 jA⟩
theorem uj:Ko wj:=
 aG (.s (.s (.j ⟨[(false,0,jg),(false,7,IP)],[]⟩ .o .o))) call103 func103 (ar afV az)
def Fm:aB:=⟨90,[jg,aq,aq],jg,[],U3 lq⟩
theorem BK:Ko Fm:=
 aG .o call90 func90 (ar uj az)
def SW:aB:=⟨64,[Xz,aY],gU,[(true,0,Xz)],λs=>sb s.2.2 s.1 s.2.1⟩
theorem Be:Ko SW:=
 aG (.j ⟨[(true,0,(.bx 161 0 true [.same,(.mp .s .bo true)]))],[]⟩ .o (.l ⟨[(true,0,(.bx 161 0 true [.same,.same])),(false,4,jg),(false,18,aq)],[]⟩ (.c .o (.r [] (.c (.r [0] .o) .o))))) call64 func64 (ar BK az)
def aaW:aB:=⟨39,[rC,u7],rG,[],U2 Ap⟩
theorem ZN:(⟨87,Tryz.f87⟩:ou).Ok X0.P:=⟨call87,func87⟩
theorem Rt:Ko aaW:=
 gE (.c (.c (.l ⟨[(false,9,aq),(true,10005,Xz)],[]⟩ (.c (.n 4 (.c .o .o)) .o)) .o) (.r [70000,5] .o)) call39 func39 (ar Hb (ar Jy (ar dN (ar Be az)))) az (ar ZN az) λ_=>by kernel_rfl
def ME:aB:=⟨104,[(.dat kU []),aq],.bool,[],U2 kF⟩
theorem xr:Ko ME:=
 aG .o call104 func104 az
def Nk:aB:=⟨91,[jx,aY],aq,[],U2 fe⟩
theorem iD:Ko Nk:=
 aG (.c .o (.l ⟨[(false,14,aq)],[]⟩ .o)) call91 func91 (ar xr az)
def aeN:aB:=⟨92,[ox],.ifn,[],λs=>dF s⟩
theorem Ba:Ko aeN:=
 aG (.r [1] .o) call92 func92 (ar Dn az)
def VO:aB:=⟨181,[ez],jg,[],λs=>uR s⟩
def V6(b:Q1):Option Q1:=
yM b (
some []) (
aM (aH (List.length ([]:zn)+List.length b) 1)<|
some (([]:zn)++b))
theorem Dm:Ko VO:=
 gE .o call181 func181 az az az λs=>(show _=V6 s from by kernel_rfl).trans nW
def ahw:aB:=⟨186,[(.dat ve [none])],afi,[],λs=>RW s⟩
theorem Ze:Ko ahw:=
 aG .o call186 func186 (ar Dm az)
def R9:aB:=⟨187,[afi,.bool],gU,[(true,0,afi)],λs=>wJ s.2.2 s.1 s.2.1⟩
theorem M5:Ko R9:=
 aG (.j ⟨[(true,0,(.bx 317 0 true [jg,.same]))],[]⟩ .o (.j ⟨[(true,0,(.bx 317 0 true [jg,.same]))],[]⟩ (.c (.r [0] .o) .o) .o)) call187 func187 az
def adt:aB:=⟨178,[(.dat ve [none]),IP,aq],(.cQ [(.dat ve [none]),aq]),[],U3 Hs⟩
theorem Vy:Ko adt:=
 aG (.c .o (.c .o (.l ⟨[(true,6,(.bx 296 0 true [.same,.same])),(true,8,afi),(false,9,aq)],[]⟩ (.c (.r [8] .o) .o)))) call178 func178 (ar GC (ar Ze (ar M5 az)))
def Eh:aB:=⟨169,[jx,aY],(.cQ [jg,aq]),[],U2 kZ⟩
theorem sT:Ko Eh:=
 aG (.c .o (.l ⟨[(true,7,(.bx 296 0 true [ez,aq])),(false,20,aq)],[]⟩ (.c (.r [7] .o) .o))) call169 func169 (ar iD (ar wG (ar Vy (ar Bo az))))
def aaO:aB:=⟨163,[ox,aY],ez,[],U2 eI⟩
theorem eY:Ko aaO:=
 aG .o call163 func163 (ar sT az)
def VV:aB:=⟨192,[O7],gU,[(true,0,O7)],λs=>No s⟩
theorem Ob:Ko VV:=
 aG .o call192 func192 az
def V4:aB:=⟨193,[O7],gU,[(true,0,O7)],λs=>Nx s⟩
theorem N0:Ko V4:=
 aG .o call193 func193 az
def VB:aB:=⟨194,[O7],gU,[(true,0,O7)],λs=>NH s⟩
theorem O6:Ko VB:=
 aG .o call194 func194 az
def aeK:aB:=⟨190,[ez,IP],IP,[],U2 Cn⟩
theorem AW:Ko aeK:=
 aG (.l ⟨[(true,5,O7),(false,15,aq)],[]⟩ (.c .o (.n 50 .o))) call190 func190 (ar Ob (ar N0 (ar O6 az)))
def aaE:aB:=⟨189,[IP,aq],aq,[],U2 vU⟩
theorem yQ:Ko aaE:=
 aG .o call189 func189 az
def VP:aB:=⟨191,[ez,ez],.bool,[],U2 uD⟩
theorem Cv:Ko VP:=
 aG .o call191 func191 az
def MJ:aB:=⟨183,[E9,ez],aq,[],U2 fE⟩
theorem xF:Ko MJ:=
 aG (.n 0 (.j ⟨[(false,5,aq)],[]⟩ .o .o)) call183 func183 (ar AW (ar yQ (ar Cv az)))
def M4:aB:=⟨184,[E9,ez],Oo,[],U2 xC⟩
theorem HH:Ko M4:=
 aG .o call184 func184 (ar xF az)
def Xi:aB:=⟨175,[E9,ez],Oo,[],U2 dH⟩
theorem nz:Ko Xi:=
 aG .o call175 func175 (ar HH az)
def HA:aB:=⟨183,[(.dat gB [some 148,some 6]),ez],aq,[],U2 nX⟩
theorem D9:Ko HA:=
 aG (.n 0 (.j ⟨[(false,5,aq)],[]⟩ .o .o)) call183 func183 (ar AW (ar yQ (ar Cv az)))
def J6:aB:=⟨182,[(.bx 306 0 true [aq,(.own lx 74 true),aY]),aq],gU,[(true,0,(.bx 306 0 true [.same,(.own lx 74 true),aY]))],λs=>pI s.2.2.2 s.1 s.2.1 s.2.2.1⟩
theorem Hm:Ko J6:=
 aG (.l ⟨[(true,0,(.bx 306 0 true [.same,(.own lx 74 true),kT])),(false,18,(.slr 1)),(false,20,aq)],[]⟩ (.c (.r [0] .o) .o)) call182 func182 (ar D9 az)
def GV:aB:=⟨170,[E9,ez],(.cQ [E9,aq,.bool,aq]),[],U2 cg⟩
theorem uy:Ko GV:=
 aG (.c .o (.c .o (.s (.s (.j ⟨[(true,11,(.bx 306 0 true [.same,(.own lx 74 true),aY]))],[2]⟩ (.c .o (.r [11] .o)) .o))))) call170 func170 (ar nz (ar Dm (ar Hm (ar dN (ar xF az)))))
def VJ:aB:=⟨164,[Ow,ez],(.cQ [Ow,.bool,aq]),[],U2 Ae⟩
theorem O3:Ko VJ:=
 aG (.c .o (.r [4,40000] .o)) call164 func164 (ar uy az)
def HR:aB:=⟨157,[oN,ox,aY],RN,[],U3 ku⟩
theorem Ed:Ko HR:=
 aG (.r [40000] .o) call157 func157 (ar eY (ar O3 az))
def Jh:aB:=⟨209,[jx,aY],(.fn 212 [] [(.bx 32 0 true [jx]),adY]),[],U2 uK⟩
theorem Dk:Ko Jh:=
 aG .o call209 func209 az
def Jn:aB:=⟨210,[jg,aY],jg,[],U2 uF⟩
theorem Cs:Ko Jn:=
 aG (.l ⟨[(false,0,jg),(false,10,aq)],[]⟩ (.c (.l ⟨[(false,0,jg),(false,14,aq)],[]⟩ .o) .o)) call210 func210 az
def NT:aB:=⟨206,[KS,jx,aY],aq,[],U3 te⟩
theorem UO:(⟨212,Tryz.f212⟩:ou).Ok X0.P:=⟨call212,func212⟩
theorem GU:Ko NT:=
 gE (.c (.c (.l ⟨[(false,4,aq),(true,10006,(.bx 3 0 true [aq])),(true,10007,(.bx 74 0 true [jg]))],[]⟩ .o) .o) (.r [70000,6,7] .o)) call206 func206 (ar Dk (ar sT (ar nz (ar Cs az)))) az (ar UO az) λ_=>by kernel_rfl
def W3:aB:=⟨211,[E9],aq,[],λs=>wQ s⟩
theorem ET:Ko W3:=
 aG .o call211 func211 az
def Nt:aB:=⟨207,[KS],aq,[],λs=>Aq s⟩
theorem Sm:Ko Nt:=
 aG .o call207 func207 (ar ET az)
def lh:aB:=⟨208,[(.sli gB)],(.own gB 73 true),[],λs=>dx s⟩
def uw(s:(List Q6)):Option (List Q6):=
yM s (
some []) (
aM (aH (List.length ([]:List Q6)+List.length s) 56)<|
some (([]:List Q6)++s))
theorem rZ:Ko lh:=
 gE .o call208 func208 az az az λs=>(show _=uw s from by kernel_rfl).trans nW
def Bb:aB:=⟨203,[KS,jx,aY],(.cQ [KS,.bool,aq]),[],U3 yU⟩
def Oz(n:Nat)(c:x4)(o:Q4)(b:(Q4×Q1))(e:(Int×(List Q6)×Q1)->Option Q51):Int×(List Q6)×Q1->Option Q51:=λ⟨a,d,j⟩=>
bif decide ((i64.wrap (a*2))<(b.1.length:Int)) then aM (cR (i64.wrap (a*2)) (min (b.1.length:Int) (i64.wrap ((i64.wrap (a+1))*2))) (List.length b.1))<|
aM (cR (i64.wrap (a*2)) (min (b.1.length:Int) (i64.wrap ((i64.wrap (a+1))*2))) (List.length b.2))<|
(kZ (aT b.1 (i64.wrap (a*2)) (min (b.1.length:Int) (i64.wrap ((i64.wrap (a+1))*2)))) (aT b.2 (i64.wrap (a*2)) (min (b.1.length:Int) (i64.wrap ((i64.wrap (a+1))*2))))).bind λk=>
(idx d a).bind λl=>
(cg l k.1).bind λf=>
(uF j ([f.2.1]:zn)).bind λg=>
(idx d a).bind λm=>
bif !true then (cg c.2.1 g).bind λi=>
aM (kf 0 (c.2.2.length:Int) (c.2.2.length:Int) (List.length c.2.2)&&((c.2.2.length:Int)==(c.2.2.length:Int)))<|
aM (aH (List.length (aT c.2.2 0 (c.2.2.length:Int))+List.length ([0]:zn)) 1)<|
some (((List.set d (Int.toNat a) f.1),i.1,((aT c.2.2 0 (c.2.2.length:Int))++([0]:zn))),true,0) else e ((i64.wrap (a+1)),(List.set d (Int.toNat a) f.1),g) else (cg c.2.1 j).bind λh=>
aM (kf 0 (c.2.2.length:Int) (c.2.2.length:Int) (List.length c.2.2)&&((c.2.2.length:Int)==(c.2.2.length:Int)))<|
aM (aH (List.length (aT c.2.2 0 (c.2.2.length:Int))+List.length ([0]:zn)) 1)<|
some ((d,h.1,((aT c.2.2 0 (c.2.2.length:Int))++([0]:zn))),true,0)
def VZ(fl:Nat)(c:x4)(s:Q4)(a:Q1):Option Q51:=
(fe s a).bind λb=>
bif b != 0 then some (c,false,b) else (te c s a).bind λg=>
bif decide (0<=g) then some (c,false,0) else (Aq c).bind λf=>
bif decide (c.2.1.1<=f) then some (c,false,7) else (dx c.1).bind λe=>
(uK s a).bind λd=>
ao (Oz fl c s d) fl (0,e,[])
theorem M3(fl:Nat)(s:fu (pQ Bb.ps)):X9 { X0 with fl:=fl } [Nk,NT,Nt,lh,Jh,Eh,GV,Jn] [] [⟨212,Tryz.f212⟩] (.c .o (.c .o (.r [] (.c .o (.c (.c (.l ⟨[(false,4,aq),(true,10003,aeq),(true,10006,aeE),(true,10010,(.bx 74 0 true [jg]))],[]⟩ .o) (.r [10,3] .o)) (.r [70000,3,6,10] .o)))))) Tryz.f203 Bb s=VZ fl s.1 s.2.1 s.2.2:=by kernel_rfl
theorem OH:Ko Bb:=
 gE (.c .o (.c .o (.r [] (.c .o (.c (.c (.l ⟨[(false,4,aq),(true,10003,aeq),(true,10006,aeE),(true,10010,(.bx 74 0 true [jg]))],[]⟩ .o) (.r [10,3] .o)) (.r [70000,3,6,10] .o)))))) call203 func203 (ar iD (ar GU (ar Sm (ar rZ (ar Dk (ar sT (ar uy (ar Cs az)))))))) az (ar UO az) λs=>(M3 ay s).trans (by kernel_rfl)
def Gc:aB:=⟨197,[oN,ox,aY],RN,[],U3 jH⟩
theorem CJ:Ko Gc:=
 aG .o call197 func197 (ar OH az)
def SV:aB:=⟨231,[jx,aY],(.own (.i .u32) 237 true),[],U2 xL⟩
theorem Bn:Ko SV:=
 aG (.l ⟨[(false,5,(.own (.i .u32) 237 true)),(false,10,aq)],[]⟩ .o) call231 func231 az
def adX:aB:=⟨238,[rF,rF],(.dat R7 []),[],U2 HM⟩
theorem Ju:Ko adX:=
 aG (.l ⟨[(true,4,(.bx 365 0 true [.same,.same,.same,.same,.same,.same,.same,.same])),(true,5,(.bx 365 0 true [my,my,my,my,my,my,my,my])),(false,7,aq)],[]⟩ (.c (.r [5] .o) .o)) call238 func238 az
def Oc:aB:=⟨239,[(.dat R7 [])],ez,[],λs=>tM s⟩
theorem xX:Ko Oc:=
 aG .o call239 func239 az
def WW:aB:=⟨237,[E9,rF,rF],Oo,[],U3 B0⟩
theorem Ri:Ko WW:=
 aG .o call237 func237 (ar Ju (ar xX (ar nz az)))
def OP:bX:=⟨233,[ae7,aq,rF,rF],J5,none,false,false,rF,[],λs=>oP s.2.1 s.2.2.1 s.2.2.2 s.1⟩
theorem xZ:Jo OP:=
 adI .o call233 func233 (ar Ri az)
def CC:bX:=⟨236,[ae7,aq,SS],J5,none,false,false,rF,[],λs=>tH s.2.1 s.2.2 s.1⟩
def DB:TK4->TK4:=λa s=>lW a s.1 s.2.1 s.2.2
theorem GM(a:TK4)(b:OK4 a):(oB (DB a)).Ok X0.P X0.Γ:=
 KN (.c .o (.r [0] .o)) call236 func236 (ar yC az) (ar b (ar xZ az)) az λ_=>by kernel_rfl
theorem JI:Jo CC:=(show CC=oB (ao (DB) ay) by kernel_rfl)▸XP (X:=X0) (E:=oB) ⟨call236,λ_ _ h=>nomatch h⟩ (GM) ay
def MQ:bX:=⟨230,[ae7,SS],J5,none,false,false,rF,[],λs=>nu s.2 s.1⟩
theorem H9:Jo MQ:=
 KN (.c (.r [0] .o) .o) call230 func230 az (ar xZ (ar JI az)) az λ_=>by kernel_rfl
def aaj:aB:=⟨226,[Km,jx,aY],Oo,[],U3 vN⟩
theorem afG:(⟨232,Tryz.f232⟩:ou).Ok X0.P:=⟨call232,func232⟩
theorem GQ:Ko aaj:=
 gE .o call226 func226 (ar Bn az) (ar H9 az) (ar afG az) λ_=>by kernel_rfl
def Yq:aB:=⟨234,[E9],aq,[],λs=>HQ s⟩
theorem Qu:Ko Yq:=
 aG .o call234 func234 (ar ET az)
def aa4:aB:=⟨227,[Km],aq,[],λs=>EE s⟩
theorem Su:Ko aa4:=
 aG .o call227 func227 (ar Qu az)
def uv:aB:=⟨228,[(.sli gB)],(.own gB 270 true),[],λs=>eO s⟩
def uq(s:(List Q6)):Option (List Q6):=
yM s (
some []) (
aM (aH (List.length ([]:List Q6)+List.length s) 56)<|
some (([]:List Q6)++s))
theorem rY:Ko uv:=
 gE .o call228 func228 az az az λs=>(show _=uq s from by kernel_rfl).trans nW
def S7:aB:=⟨235,[E9,rF,rF],(.cQ [E9,aq,.bool,aq]),[],U3 wR⟩
theorem MI:Ko S7:=
 aG (.r [40000] .o) call235 func235 (ar Ju (ar xX (ar uy az)))
def K7:aB:=⟨229,[aec,aq,rF,rF],rF,[(true,0,ac4)],λs=>lP s.2.1 s.2.2.1 s.2.2.2 s.1⟩
theorem vY:Ko K7:=
 aG (.r [0] .o) call229 func229 (ar MI az)
def xY:aB:=⟨236,[aec,aq,SS],rF,[(true,0,ac4)],λs=>uk s.2.1 s.2.2 s.1⟩
def x8:TK5->TK5:=λa s=>jM a s.1 s.2.1 s.2.2
theorem Cq(a:TK5)(b:OK5 a):(lv (x8 a)).Ok X0.P X0.Γ:=
 aG (.c .o (.r [0] .o)) call236 func236 (ar b (ar yC (ar vY az)))
theorem FX:Ko xY:=(show xY=lv (ao (x8) ay) by kernel_rfl)▸tq (X:=X0) (E:=lv) ⟨call236,λ_ _ h=>nomatch h⟩ (Cq) ay
def IN:aB:=⟨230,[aec,SS],rF,[(true,0,ac4)],λs=>nP s.2 s.1⟩
theorem DO:Ko IN:=
 aG (.c (.r [0] .o) .o) call230 func230 (ar vY (ar FX az))
def Vx:aB:=⟨221,[Km,jx,aY],(.cQ [Km,.bool,aq]),[],U3 y5⟩
theorem OD:Ko Vx:=
 aG (.c .o (.c .o (.r [] (.c .o (.r [6,40000] .o))))) call221 func221 (ar iD (ar GQ (ar Su (ar rY (ar Bn (ar DO az))))))
def GZ:aB:=⟨215,[oN,ox,aY],RN,[],U3 jI⟩
theorem CM:Ko GZ:=
 aG .o call215 func215 (ar OD az)
def OK:aB:=⟨263,[my],.bool,[],λs=>tI s⟩
theorem JJ:Ko OK:=
 aG .o call263 func263 az
def JU:aB:=⟨257,[my,my],aq,[],U2 mF⟩
theorem vQ:Ko JU:=
 aG .o call257 func257 (ar JJ az)
def aaN:aB:=⟨256,[(.dat na []),my],aq,[],U2 As⟩
theorem RD:Ko aaN:=
 aG .o call256 func256 (ar vQ az)
def lT:aB:=⟨255,[(.sli na),my,(.fn 256 [] [])],Oo,[],U2 bC⟩
theorem fg:Ko lT:=
 aG (.l ⟨[(false,9,aq),(false,10,aq)],[]⟩ .o) call255 func255 (ar RD az)
def ak7:aB:=⟨251,[YG,aq,my],aq,[],U3 Ag⟩
theorem aaI:Ko ak7:=
 aG .o call251 func251 (ar fg az)
def aho:aB:=⟨248,[YG,ez],.bool,[],U2 oO⟩
theorem xn:Ko aho:=
 aG (.l ⟨[(false,5,aq),(false,12,aq)],[]⟩ .o) call248 func248 (ar aaI az)
def ac3:aB:=⟨249,[YG],aq,[],λs=>H7 s⟩
theorem VY:Ko ac3:=
 aG .o call249 func249 az
def vn:aB:=⟨252,[(.sli sL)],(.own sL 273 true),[],λs=>dJ s⟩
def vE(s:cB):Option cB:=
yM s (
some []) (
aM (aH (List.length ([]:List (Q4×Int))+List.length s) 32)<|
some (([]:List (Q4×Int))++s))
theorem tQ:Ko vn:=
 gE .o call252 func252 az az az λs=>(show _=vE s from by kernel_rfl).trans nW
def va:aB:=⟨269,[(.sli na),(.sli na)],.bool,[],U2 fA⟩
theorem tv:Ko va:=
 aG (.c .o (.l ⟨[(false,13,aq)],[]⟩ .o)) call269 func269 az
def Qw:aB:=⟨264,[(.bx 379 0 false [aq,(.own sL 273 false),aq,aq,Zj,(.mp bf .bo false)]),(.sli na)],Oo,[],λs=>AT s.2.2.2.2.2.2 s.1 s.2.1 s.2.2.1 s.2.2.2.1 s.2.2.2.2.1 s.2.2.2.2.2.1⟩
theorem LV:Ko Qw:=
 aG (.l ⟨[(false,14,aq)],[]⟩ .o) call264 func264 (ar tv az)
def IQ:aB:=⟨296,[Zj],aq,[],λs=>kx s⟩
theorem ud:Ko IQ:=
 aG .o call296 func296 az
def Gm:aB:=⟨298,[kT,aq,aq],gU,[(true,0,kT)],U3 gQ⟩
theorem lQ:Ko Gm:=
 aG (.r [0] .o) call298 func298 az
def F8:aB:=⟨297,[Zj,aq,aq],.bool,[],U3 gO⟩
theorem ta:Ko F8:=
 aG .o call297 func297 az
def Gn:aB:=⟨272,[FG,aq,aq],.bool,[(true,0,FG)],λs=>rE s.2.1 s.2.2 s.1⟩
theorem Dx:Ko Gn:=
 aG (.l ⟨[(true,0,FG),(false,7,aq)],[]⟩ (.c .o (.s (.j ⟨[(false,9,aq)],[]⟩ .o .o)))) call272 func272 (ar ta (ar lQ az))
def M1:aB:=⟨299,[adM],J5,[(true,0,adM)],λs=>wO s⟩
theorem IL:Ko M1:=
 aG .o call299 func299 az
def Hp:aB:=⟨270,[FG],J5,[(true,0,FG)],λs=>nS s⟩
theorem Ee:Ko Hp:=
 aG .o call270 func270 (ar ud (ar lQ (ar Dx (ar IL az))))
def OQ:aB:=⟨265,[ajv],aq,[(true,0,WY)],U6 tL⟩
theorem JO:Ko OQ:=
 aG .o call265 func265 (ar Ee az)
def QW:aB:=⟨258,[aj4,(.sli na)],aq,[(true,0,aiH)],λs=>rb s.2.2.2.2.2.2 s.1 s.2.1 s.2.2.1 s.2.2.2.1 s.2.2.2.2.1 s.2.2.2.2.2.1⟩
theorem KD:Ko QW:=
 aG (.c .o (.l ⟨[(true,0,(.bx 379 0 true [.same,(.own sL 273 true),.same,.same,.same,.same])),(false,35,aq)],[]⟩ (.c (.r [0] .o) .o))) call258 func258 (ar LV (ar JO az))
def aaM:aB:=⟨251,[(.dat yt [some 546,some 6]),aq,my],aq,[],U3 K4⟩
theorem SM:Ko aaM:=
 aG .o call251 func251 (ar fg az)
def MG:aB:=⟨260,[(.dat na []),my],aq,[],U2 xd⟩
theorem I7:Ko MG:=
 aG .o call260 func260 (ar vQ az)
def lf:aB:=⟨255,[(.own na 384 false),my,(.fn 260 [] [])],Oo,[],U2 cm⟩
theorem kj:Ko lf:=
 aG (.l ⟨[(false,9,aq),(false,10,aq)],[]⟩ .o) call255 func255 (ar I7 az)
def vq:aB:=⟨259,[(.sli na)],(.own na 384 true),[],λs=>fy s⟩
def vw(s:Q4):Option Q4:=
yM s (
some []) (
aM (aH (List.length ([]:List pj)+List.length s) 16)<|
some (([]:List pj)++s))
theorem tR:Ko vq:=
 gE .o call259 func259 az az az λs=>(show _=vw s from by kernel_rfl).trans nW
def Gq:aB:=⟨253,[aj4,aq,ez],aq,[(true,0,aiH)],λs=>wK s.2.2.2.2.2.2.1 s.2.2.2.2.2.2.2 s.1 s.2.1 s.2.2.1 s.2.2.2.1 s.2.2.2.2.1 s.2.2.2.2.2.1⟩
def GI:TK6->TK6:=λa s=>lM a s.1 s.2.1 s.2.2.1 s.2.2.2.1 s.2.2.2.2.1 s.2.2.2.2.2.1 s.2.2.2.2.2.2.1 s.2.2.2.2.2.2.2
theorem JE(a:TK6)(b:OK6 a):(rP (GI a)).Ok X0.P X0.Γ:=
 aG (.c .o (.s (.j ⟨[(false,7,(.own na 384 true))],[]⟩ .o (.r [0,40000] (.s (.j ⟨[(false,7,(.own na 384 true))],[8]⟩ .o .o)))))) call253 func253 (ar KD (ar SM (ar b (ar kj (ar aam (ar tR az))))))
theorem MH:Ko Gq:=(show Gq=rP (ao (GI) ay) by kernel_rfl)▸tq (X:=X0) (E:=rP) ⟨call253,λ_ _ h=>nomatch h⟩ (JE) ay
def J9:aB:=⟨300,[adM,J5],gU,[(true,0,adM)],λs=>vd s.2 s.1⟩
theorem Gl:Ko J9:=
 aG (.r [0] .o) call300 func300 az
def FP:aB:=⟨268,[FG,aq],gU,[(true,0,FG)],λs=>pR s.2 s.1⟩
theorem Bv:Ko FP:=
 aG (.l ⟨[(true,0,FG),(false,1,aq)],[]⟩ .o) call268 func268 (ar ta (ar lQ az))
def Hl:aB:=⟨262,[FG,J5],gU,[(true,0,FG)],λs=>mP s.2 s.1⟩
theorem Cl:Ko Hl:=
 aG .o call262 func262 (ar Gl (ar ud (ar Bv az)))
def Dj:aB:=⟨254,[ajv,aq],gU,[(true,0,WY)],λs=>tC s.2.2.2.2.2.2 s.1 s.2.1 s.2.2.1 s.2.2.2.1 s.2.2.2.2.1 s.2.2.2.2.2.1⟩
def Dv:TK7->TK7:=λa s=>pW a s.1 s.2.1 s.2.2.1 s.2.2.2.1 s.2.2.2.2.1 s.2.2.2.2.2.1 s.2.2.2.2.2.2
theorem F6(a:TK7)(b:OK7 a):(oC (Dv a)).Ok X0.P X0.Γ:=
 aG (.c .o (.l ⟨[(true,0,WY),(false,42,aq)],[]⟩ .o)) call254 func254 (ar b (ar Cl az))
theorem JF:Ko Dj:=(show Dj=oC (ao (Dv) ay) by kernel_rfl)▸tq (X:=X0) (E:=oC) ⟨call254,λ_ _ h=>nomatch h⟩ (F6) ay
def Y6:aB:=⟨250,[YG,ez],(.cQ [YG,.bool,aq]),[],U2 fw⟩
theorem EG:Ko Y6:=
 aG (.c .o (.c .o (.r [7] (.r [7] (.j ⟨[(true,7,WY)],[]⟩ .o .o))))) call250 func250 (ar xn (ar tQ (ar dN (ar MH (ar JF az)))))
def Jf:aB:=⟨242,[oN,ox,aY],RN,[],U3 kq⟩
theorem Ec:Ko Jf:=
 aG .o call242 func242 (ar eY (ar xn (ar VY (ar EG az))))
def YS:aB:=⟨291,[ez,IP,aq,aq],kT,[],U4 nG⟩
theorem nQ:Ko YS:=
 aG (.l ⟨[(false,9,kT),(false,13,aq)],[]⟩ .o) call291 func291 (ar AW (ar yQ az))
def aas:aB:=⟨288,[xv,ez,(.mQ (.int .i64 0)),Sz],gU,[(true,3,Sz)],U3 Kd⟩
theorem Sf:Ko aas:=
 aG (.l ⟨[(true,3,Sz),(false,19,aq)],[]⟩ (.c (.r [3] .o) .o)) call288 func288 (ar nQ az)
def aeb:aB:=⟨285,[xv,ez,(.mQ (.int .i64 0))],.bool,[],U2 NX⟩
theorem VH:Ko aeb:=
 aG .o call285 func285 (ar Sf az)
def V3:aB:=⟨286,[xv,ez],.bool,[],U2 uI⟩
theorem Du:Ko V3:=
 aG .o call286 func286 (ar VH az)
def DC:aB:=⟨173,[ez],jg,[],λs=>cr s⟩
def CS(s:Q1):Option Q1:=
yM s (
some []) (
aM (aH (List.length ([]:zn)+List.length s) 1)<|
some (([]:zn)++s))
theorem eD:Ko DC:=
 gE .o call173 func173 az az az λs=>(show _=CS s from by kernel_rfl).trans nW
def RK:aB:=⟨288,[(.dat Fy [some 11,none,none]),ez,(.mQ (.int .i64 0)),(.fn 290 [] [])],gU,[(true,0,(.agg [.same,.same,.same,jg,.same,.same]))],U2 wV⟩
theorem Bg:Ko RK:=
 aG (.l ⟨[(true,0,(.agg [.same,.same,.same,jg,.same,.same])),(false,19,aq)],[]⟩ (.c (.r [4,0] .o) .o)) call288 func288 (ar nQ az)
def adK:aB:=⟨287,[xv,ez,(.mQ (.int .i64 0))],(.dat Fy [some 11,none,none]),[],U2 Pk⟩
theorem VT:Ko adK:=
 aG .o call287 func287 (ar eD (ar Bg az))
def Wg:aB:=⟨282,[xv,ez],(.cQ [xv,.bool]),[],U2 yX⟩
theorem Pf:Ko Wg:=
 aG .o call282 func282 (ar Du (ar VT az))
def Ih:aB:=⟨276,[oN,ox,aY],RN,[],U3 km⟩
theorem DV:Ko Ih:=
 aG (.r [40000] .o) call276 func276 (ar eY (ar Pf az))
def RG:aB:=⟨65,[ox,aY],RN,[],U2 dv⟩
theorem MO:Ko RG:=
 aG (.c .o (.r [2,4] .o)) call65 func65 (ar iD (ar Ba (ar Ed (ar CJ (ar CM (ar Ec (ar DV az)))))))
def JL:bX:=⟨40,[Ru,aY],Ot,none,false,false,.bool,[(true,0,HV)],λs=>jk (d8 (d8 (d8 (d8 (d8 s))))).2.2.2.2.2 s.1 s.2.1 s.2.2.1 s.2.2.2.1 s.2.2.2.2.1 s.2.2.2.2.2.1 s.2.2.2.2.2.2.1 s.2.2.2.2.2.2.2.1 s.2.2.2.2.2.2.2.2.1 (d8 s).2.1 (d8 s).2.2.1 (d8 s).2.2.2.1 (d8 s).2.2.2.2.1 (d8 s).2.2.2.2.2.1 (d8 s).2.2.2.2.2.2.1 (d8 s).2.2.2.2.2.2.2.1 (d8 (d8 s)).1 (d8 (d8 s)).2.1 (d8 (d8 s)).2.2.1 (d8 (d8 s)).2.2.2.1 (d8 (d8 s)).2.2.2.2.1 (d8 (d8 s)).2.2.2.2.2.1 (d8 (d8 s)).2.2.2.2.2.2.1 (d8 (d8 s)).2.2.2.2.2.2.2.1 (d8 (d8 (d8 s))).1 (d8 (d8 (d8 s))).2.1 (d8 (d8 (d8 s))).2.2.1 (d8 (d8 (d8 s))).2.2.2.1 (d8 (d8 (d8 s))).2.2.2.2.1 (d8 (d8 (d8 s))).2.2.2.2.2.1 (d8 (d8 (d8 s))).2.2.2.2.2.2.1 (d8 (d8 (d8 s))).2.2.2.2.2.2.2.1 (d8 (d8 (d8 (d8 s)))).1 (d8 (d8 (d8 (d8 s)))).2.1 (d8 (d8 (d8 (d8 s)))).2.2.1 (d8 (d8 (d8 (d8 s)))).2.2.2.1 (d8 (d8 (d8 (d8 s)))).2.2.2.2.1 (d8 (d8 (d8 (d8 s)))).2.2.2.2.2.1 (d8 (d8 (d8 (d8 s)))).2.2.2.2.2.2.1 (d8 (d8 (d8 (d8 s)))).2.2.2.2.2.2.2.1 (d8 (d8 (d8 (d8 (d8 s))))).1 (d8 (d8 (d8 (d8 (d8 s))))).2.1 (d8 (d8 (d8 (d8 (d8 s))))).2.2.1 (d8 (d8 (d8 (d8 (d8 s))))).2.2.2.1 (d8 (d8 (d8 (d8 (d8 s))))).2.2.2.2.1⟩
theorem n6:Jo JL:=
 adI (.s (.s (.j ⟨[],[]⟩ .o .o))) call40 func40 (ar MO az)
def W7:aB:=⟨94,[aY],(.cQ [aY,aq]),[],λs=>wS s⟩
theorem Ef:Ko W7:=
 aG .o call94 func94 az
def XB:aB:=⟨111,[rC,aY],(.fn 121 [] [(.bx 35 0 true [(.sli .s),jx,aY,(.sli .s),(.sli AS)]),adY]),[],U2 Jc⟩
theorem Qj:Ko XB:=
 aG .o call111 func111 az
def Uc:aB:=⟨122,[rC,aY],kT,[],U2 CN⟩
def MF(f:Ex->Ex)(h:Sh->(R:Type)->Option R->Option R)(m:Q9)(d:Q1)(a:fv->Option Q1):Q1×Int->Option Q1:=λ⟨b,c⟩=>
bif decide (c<(m.2.2.2.2.length:Int)) then (idx m.2.2.2.2 c).bind λg=>
(px (f g.2.1) d).bind λe=>
bif e==1 then aM (aH (List.length b+List.length ([c]:zn)) 8)<|
a ((b++([c]:zn)),(i64.wrap (c+1))) else a (b,(i64.wrap (c+1))) else some b
def yu(b:Ex->Ex)(c:Sh->(R:Type)->Option R->Option R)(m:Q9)(a:Q1):Option Q1:=
ao (MF b c m a) ay ([],0)
theorem MK:Ko Uc:=
 gE (.l ⟨[(false,5,kT),(false,11,aq)],[]⟩ .o) call122 func122 (ar yq az) az az λs=>(show _=yu sU jq s.1 s.2 from by kernel_rfl).trans ((congrArg (λa=>yu a jq s.1 s.2) jm).trans ((congrArg (λb=>yu id b s.1 s.2) ld).trans (by kernel_rfl)))
def SN:aB:=⟨91,[jx,Zj],aq,[],U2 sH⟩
theorem MM:Ko SN:=
 aG (.c .o (.l ⟨[(false,14,aq)],[]⟩ .o)) call91 func91 (ar xr az)
def aa9:aB:=⟨123,[rC,aY,aq],(.cQ [kT,aq]),[],U3 Ez⟩
def SZ(i:Ex->Ex)(k:Sh->(R:Type)->Option R->Option R)(m:Q9)(f:Q1)(e:Q52)(a:fv->Option fv):Q1×Int->Option fv:=λ⟨b,c⟩=>
bif decide (c<(e.2.2.length:Int)) then (idx e.2.2 c).bind λd=>
(px (i d.2) f).bind λh=>
(idx b d.1).bind λj=>
a ((List.set b (Int.toNat d.1) h),(i64.wrap (c+1))) else (sH m.2.1 b).bind λg=>
bif g != 0 then some ([],6) else some (b,0)
def Fz(c:Ex->Ex)(g:Sh->(R:Type)->Option R->Option R)(m:Q9)(a:Q1)(k:Int):Option fv:=
ai (decide (k<0)) λh=>
ai (decide ((m.2.2.2.2.length:Int)<=k)) λf=>
ai (h||f) λe=>
bif e then (
some ([],10)) else (
(bw a).bind λb=>
(idx m.2.2.2.2 k).bind λd=>
ao (SZ c g m a d) ay (b,0))
theorem Ud:Ko aa9:=
 gE (.c .o (.l ⟨[(true,8,kT),(false,29,aq)],[]⟩ (.c (.r [8] .o) .o))) call123 func123 (ar dN (ar yq (ar MM az))) az az λs=>(show _=Fz sU jq s.1 s.2.1 s.2.2 from by kernel_rfl).trans ((congrArg (λa=>Fz a jq s.1 s.2.1 s.2.2) jm).trans ((congrArg (λb=>Fz id b s.1 s.2.1 s.2.2) ld).trans (by kernel_rfl)))
def Ar:aB:=⟨136,[(.bx 243 0 true [.sfp,(.own aW 5 false)])],gU,[(true,0,(.bx 243 0 true [.sfp,.same]))],U2 iI⟩
theorem nD:Ko Ar:=
 aG .o call136 func136 az
def xV:aB:=⟨130,[RJ,.str],(.cQ [aq,(.mQ (.raw .nilIface))]),[(true,0,RJ)],λs=>gJ s.2.2 s.1 s.2.1⟩
theorem vh:Ko xV:=
 aG .o call130 func130 (ar nD az)
def AB:aB:=⟨132,[RJ,my],(.mQ (.raw .nilIface)),[(true,0,RJ)],λs=>iK s.2.2 s.1 s.2.1⟩
theorem xj:Ko AB:=
 aG .o call132 func132 (ar nD az)
def CW:aB:=⟨133,[RJ],.str,[],U2 j4⟩
theorem Av:Ko CW:=
 aG (.r [0] .o) call133 func133 az
def aaZ:aB:=⟨124,[aY],.str,[],λs=>Lm s⟩
theorem RM:Ko aaZ:=
 aG (.l ⟨[(true,3,RJ),(false,8,aq)],[]⟩ .o) call124 func124 (ar agj (ar vh (ar xj (ar Av az))))
def QG:aB:=⟨112,[akE,aY],gU,[(true,0,akE)],λs=>ng s.2.2 s.1 s.2.1⟩
theorem Kn:Ko QG:=
 aG (.j ⟨[(true,0,(.bx 218 0 true [.same,(.mp .s .bo true)]))],[]⟩ .o .o) call112 func112 (ar RM az)
def aaA:aB:=⟨105,[rC,aY],(.cQ [rG,aq]),[],U2 ER⟩
theorem agp:(⟨121,Tryz.f121⟩:ou).Ok X0.P:=⟨call121,func121⟩
theorem RC:Ko aaA:=
 gE (.c (.c (.l ⟨[(false,10,aq),(true,10004,(.bx 23 0 true [.same])),(true,10005,(.bx 42 0 true [aq])),(true,10006,akE)],[]⟩ .o) .o) (.r [70000,4,5,6] .o)) call105 func105 (ar Qj (ar MK (ar Ud (ar Kn (ar dN az))))) az (ar agp az) λ_=>by kernel_rfl
def aan:aB:=⟨93,[rC,u7,aY],(.cQ [rG,aq]),[],U3 vP⟩
theorem Sk:Ko aan:=
 gE (.c .o (.l ⟨[(true,12,Xz),(false,32,aq)],[]⟩ (.c (.r [] (.c (.c (.l ⟨[(false,9,aq),(true,10012,Xz)],[]⟩ (.c (.n 4 (.c .o .o)) .o)) .o) (.r [70000,12] .o))) .o))) call93 func93 (ar Ef (ar RC (ar Hb (ar Jy (ar dN (ar Be az)))))) az (ar ZN az) λ_=>by kernel_rfl
def G7:bX:=⟨66,[(.bx 100 0 false QL4),(.own AU 171 true),aY],Ot,none,false,false,(.own AU 171 true),[],λs=>fp (d8 (d8 (d8 (d8 (d8 s))))).2.2.2.2.2.1 (d8 (d8 (d8 (d8 (d8 s))))).2.2.2.2.2.2 s.1 s.2.1 s.2.2.1 s.2.2.2.1 s.2.2.2.2.1 s.2.2.2.2.2.1 s.2.2.2.2.2.2.1 s.2.2.2.2.2.2.2.1 s.2.2.2.2.2.2.2.2.1 (d8 s).2.1 (d8 s).2.2.1 (d8 s).2.2.2.1 (d8 s).2.2.2.2.1 (d8 s).2.2.2.2.2.1 (d8 s).2.2.2.2.2.2.1 (d8 s).2.2.2.2.2.2.2.1 (d8 (d8 s)).1 (d8 (d8 s)).2.1 (d8 (d8 s)).2.2.1 (d8 (d8 s)).2.2.2.1 (d8 (d8 s)).2.2.2.2.1 (d8 (d8 s)).2.2.2.2.2.1 (d8 (d8 s)).2.2.2.2.2.2.1 (d8 (d8 s)).2.2.2.2.2.2.2.1 (d8 (d8 (d8 s))).1 (d8 (d8 (d8 s))).2.1 (d8 (d8 (d8 s))).2.2.1 (d8 (d8 (d8 s))).2.2.2.1 (d8 (d8 (d8 s))).2.2.2.2.1 (d8 (d8 (d8 s))).2.2.2.2.2.1 (d8 (d8 (d8 s))).2.2.2.2.2.2.1 (d8 (d8 (d8 s))).2.2.2.2.2.2.2.1 (d8 (d8 (d8 (d8 s)))).1 (d8 (d8 (d8 (d8 s)))).2.1 (d8 (d8 (d8 (d8 s)))).2.2.1 (d8 (d8 (d8 (d8 s)))).2.2.2.1 (d8 (d8 (d8 (d8 s)))).2.2.2.2.1 (d8 (d8 (d8 (d8 s)))).2.2.2.2.2.1 (d8 (d8 (d8 (d8 s)))).2.2.2.2.2.2.1 (d8 (d8 (d8 (d8 s)))).2.2.2.2.2.2.2.1 (d8 (d8 (d8 (d8 (d8 s))))).1 (d8 (d8 (d8 (d8 (d8 s))))).2.1 (d8 (d8 (d8 (d8 (d8 s))))).2.2.1 (d8 (d8 (d8 (d8 (d8 s))))).2.2.2.1 (d8 (d8 (d8 (d8 (d8 s))))).2.2.2.2.1⟩
theorem sO:Jo G7:=
 adI (.s (.j ⟨[],[]⟩ .o (.r [] (.j ⟨[],[]⟩ .o .o)))) call66 func66 (ar Sk az)
def Fb:aB:=⟨106,[aY,aq],aq,[],U2 pE⟩
theorem Bw:Ko Fb:=
 aG (.l ⟨[(false,8,aq)],[]⟩ .o) call106 func106 az
def BA:aB:=⟨95,[aY,aq],.bool,[],U2 mV⟩
theorem yk:Ko BA:=
 aG .o call95 func95 (ar Bw az)
def WH:aB:=⟨67,[u7,aY],.bool,[],U2 xq⟩
theorem QE:Ko WH:=
 aG .o call67 func67 (ar Ef (ar yk az))
def Bx:aB:=⟨72,[Sx],gU,[],λs=>tZ s⟩
theorem yz:Ko Bx:=
 aG .o call72 func72 az
def F5:aB:=⟨69,[aY,aY],.bool,[],U2 lu⟩
theorem BT:Ko F5:=
 aG (.c .o (.l ⟨[(false,13,aq)],[]⟩ .o)) call69 func69 az
def VU:aB:=⟨70,[(.sli AU)],rG,[],λs=>y9 s⟩
theorem Ox:Ko VU:=
 aG (.l ⟨[(false,3,rG),(false,8,aq)],[]⟩ .o) call70 func70 az
def BC:bX:=⟨68,[Sx,aY,YK,(.bx 123 0 false [Sx])],Xo,none,false,true,gU,[],U4 jF⟩
theorem yh:Jo BC:=
 adI (.c (.r [80000] .o) .o) call68 func68 (ar BT (ar Ox az))
def acX:aB:=⟨174,[aq],my,[],λs=>CT s⟩
theorem Jp:Ko acX:=
 aG .o call174 func174 az
def V8:aB:=⟨168,[aq,my,ada,Wq],gU,[(true,3,Wq)],U7 FO⟩
theorem OB:Ko V8:=
 aG .o call168 func168 az
def ah4:aB:=⟨167,[Ow,ez,aq,(.fn 168 [] [ada,Wq])],aq,[(true,3,(.fn 168 [] [.same,Wq]))],U8 Sc⟩
theorem Z0:Ko ah4:=
 aG .o call167 func167 (ar Jp (ar nz (ar OB az)))
def aft:aB:=⟨162,[Ow,ez,aq],FQ,[],U3 HK⟩
theorem VR:Ko aft:=
 aG .o call162 func162 (ar Z0 az)
def MX:aB:=⟨156,[oN,ox,aY,aq],FQ,[],U4 nF⟩
theorem IE:Ko MX:=
 aG (.r [5] .o) call156 func156 (ar eY (ar VR az))
def af5:aB:=⟨205,[KS,jx,aY,aq],(.cQ [aq,aq]),[],U4 Cb⟩
theorem Ls:Ko af5:=
 aG .o call205 func205 (ar iD (ar GU az))
def aeX:aB:=⟨202,[KS,jx,aY,aq],FQ,[],U4 Io⟩
theorem VL:Ko aeX:=
 aG .o call202 func202 (ar Ls az)
def Ke:aB:=⟨196,[oN,ox,aY,aq],FQ,[],U4 mD⟩
theorem G6:Ko Ke:=
 aG .o call196 func196 (ar VL az)
def afM:aB:=⟨225,[Km,jx,aY,aq],(.cQ [aq,aq]),[],U4 Ce⟩
theorem LX:Ko afM:=
 aG .o call225 func225 (ar iD (ar GQ az))
def adZ:aB:=⟨220,[Km,jx,aY,aq],FQ,[],U4 Ja⟩
theorem V2:Ko adZ:=
 aG .o call220 func220 (ar LX az)
def Kt:aB:=⟨214,[oN,ox,aY,aq],FQ,[],U4 mB⟩
theorem Hc:Ko Kt:=
 aG .o call214 func214 (ar V2 az)
def P5:aB:=⟨247,[ox,aY,aq],aq,[],U3 p9⟩
theorem Ay:Ko P5:=
 aG (.c .o (.r [3] .o)) call247 func247 (ar eY (ar xn az))
def MZ:aB:=⟨241,[oN,ox,aY,aq],FQ,[],U4 nR⟩
theorem HX:Ko MZ:=
 aG (.c .o (.r [5] .o)) call241 func241 (ar Ay (ar eY (ar xn az)))
def ad3:aB:=⟨284,[xv,ez,aq],aq,[],U3 Oa⟩
theorem Jq:Ko ad3:=
 aG .o call284 func284 (ar Du az)
def RQ:aB:=⟨288,[xv,ez,aq,Sz],gU,[(true,3,Sz)],U4 LG⟩
theorem MW:Ko RQ:=
 aG (.l ⟨[(true,3,Sz),(false,19,aq)],[]⟩ (.c (.r [3] .o) .o)) call288 func288 (ar nQ az)
def Wd:aB:=⟨285,[xv,ez,aq],.bool,[],U3 M6⟩
theorem OG:Ko Wd:=
 aG .o call285 func285 (ar MW az)
def afj:aB:=⟨281,[xv,ez,aq],FQ,[],U3 ZA⟩
theorem VD:Ko afj:=
 aG .o call281 func281 (ar Jq (ar OG az))
def MY:aB:=⟨275,[oN,ox,aY,aq],FQ,[],U4 rO⟩
theorem Il:Ko MY:=
 aG (.r [5] .o) call275 func275 (ar eY (ar VD az))
def aaJ:aB:=⟨96,[ox,aY,aq],FQ,[],U3 eK⟩
theorem Sw:Ko aaJ:=
 aG (.c .o (.r [3] .o)) call96 func96 (ar iD (ar Ba (ar IE (ar G6 (ar Hc (ar HX (ar Il az)))))))
def VX:aB:=⟨172,[aq,my,ada,ak1],gU,[(true,3,(.bx 76 0 true [.same,.same,.same,ez]))],λs=>Ft s.1 s.2.1 s.2.2.1 s.2.2.2.1 s.2.2.2.2.1 s.2.2.2.2.2.1 s.2.2.2.2.2.2.1 s.2.2.2.2.2.2.2.1 s.2.2.2.2.2.2.2.2.1 (d8 s).2⟩
theorem Pp:Ko VX:=
 aG .o call172 func172 (ar eD az)
def ZC:aB:=⟨167,[Ow,ez,aq,(.fn 172 [] [ada,ak1])],aq,[(true,3,(.fn 172 [] [.same,ak1]))],λs=>IY s.1 s.2.1 s.2.2.1 s.2.2.2.1 s.2.2.2.2.1 s.2.2.2.2.2.1 s.2.2.2.2.2.2.1 s.2.2.2.2.2.2.2.1 s.2.2.2.2.2.2.2.2.1 (d8 s).2.1 (d8 s).2.2⟩
theorem Qi:Ko ZC:=
 aG .o call167 func167 (ar Jp (ar nz (ar Pp az)))
def acZ:aB:=⟨165,[Ow,ez,aq],(.cQ [Ow,aq]),[],U3 Hw⟩
theorem Wb:Ko acZ:=
 aG .o call165 func165 (ar Qi az)
def ML:aB:=⟨160,[oN,ox,aY,aq],HG,[],U4 nn⟩
theorem HC:Ko ML:=
 aG (.r [40000] .o) call160 func160 (ar eY (ar Wb az))
def adO:aB:=⟨204,[KS,jx,aY,aq],(.cQ [KS,aq]),[],U4 HY⟩
theorem VK:Ko adO:=
 aG (.c .o (.r [4] .o)) call204 func204 (ar Ls (ar eD az))
def Lz:aB:=⟨200,[oN,ox,aY,aq],HG,[],U4 l8⟩
theorem Hd:Ko Lz:=
 aG .o call200 func200 (ar VK az)
def ac9:aB:=⟨222,[Km,jx,aY,aq],(.cQ [Km,aq]),[],U4 IC⟩
theorem VE:Ko ac9:=
 aG (.c .o (.r [4] .o)) call222 func222 (ar LX (ar eD az))
def KE:aB:=⟨218,[oN,ox,aY,aq],HG,[],U4 lR⟩
theorem G8:Ko KE:=
 aG .o call218 func218 (ar VE az)
def MS:aB:=⟨245,[oN,ox,aY,aq],HG,[],U4 nU⟩
theorem H4:Ko MS:=
 aG (.c .o (.r [5] .o)) call245 func245 (ar Ay (ar eY (ar EG az)))
def SG:aB:=⟨288,[(.dat Fy [none,some 11,none]),ez,(.mQ (.int .i64 1)),(.fn 290 [] [])],gU,[(true,0,(.agg [.same,.same,.same,.same,jg,.same]))],U2 Ln⟩
theorem MN:Ko SG:=
 aG (.l ⟨[(true,0,(.agg [.same,.same,.same,.same,jg,.same])),(false,19,aq)],[]⟩ (.c (.r [4,0] .o) .o)) call288 func288 (ar nQ az)
def RY:aB:=⟨288,[(.dat Fy [none,none,some 11]),ez,(.mQ (.int .i64 2)),(.fn 290 [] [])],gU,[(true,0,(.agg [.same,.same,.same,.same,.same,jg]))],U2 LP⟩
theorem MT:Ko RY:=
 aG (.l ⟨[(true,0,(.agg [.same,.same,.same,.same,.same,jg])),(false,19,aq)],[]⟩ (.c (.r [4,0] .o) .o)) call288 func288 (ar nQ az)
def VA:aB:=⟨287,[xv,ez,aq],xv,[],U3 Nc⟩
theorem On:Ko VA:=
 aG (.r [60000,2,0,0,1,2] (.c .o (.c .o (.c .o (.n 77777 .o))))) call287 func287 (ar eD (ar Bg (ar MN (ar MT az))))
def adA:aB:=⟨283,[xv,ez,aq],(.cQ [xv,aq]),[],U3 Yv⟩
theorem Wh:Ko adA:=
 aG .o call283 func283 (ar Jq (ar On az))
def MP:aB:=⟨279,[oN,ox,aY,aq],HG,[],U4 rT⟩
theorem Hy:Ko MP:=
 aG (.r [40000] .o) call279 func279 (ar eY (ar Wh az))
def aa6:aB:=⟨97,[ox,aY,aq],HG,[],U3 gN⟩
theorem RF:Ko aa6:=
 aG (.c .o (.r [3,6] .o)) call97 func97 (ar iD (ar Ba (ar HC (ar Hd (ar G8 (ar H4 (ar Hy az)))))))
def JN:bX:=⟨71,[Ru,aY],Ot,none,false,false,.bool,[(true,0,HV)],λs=>oA (d8 (d8 (d8 (d8 (d8 s))))).2.2.2.2.2 s.1 s.2.1 s.2.2.1 s.2.2.2.1 s.2.2.2.2.1 s.2.2.2.2.2.1 s.2.2.2.2.2.2.1 s.2.2.2.2.2.2.2.1 s.2.2.2.2.2.2.2.2.1 (d8 s).2.1 (d8 s).2.2.1 (d8 s).2.2.2.1 (d8 s).2.2.2.2.1 (d8 s).2.2.2.2.2.1 (d8 s).2.2.2.2.2.2.1 (d8 s).2.2.2.2.2.2.2.1 (d8 (d8 s)).1 (d8 (d8 s)).2.1 (d8 (d8 s)).2.2.1 (d8 (d8 s)).2.2.2.1 (d8 (d8 s)).2.2.2.2.1 (d8 (d8 s)).2.2.2.2.2.1 (d8 (d8 s)).2.2.2.2.2.2.1 (d8 (d8 s)).2.2.2.2.2.2.2.1 (d8 (d8 (d8 s))).1 (d8 (d8 (d8 s))).2.1 (d8 (d8 (d8 s))).2.2.1 (d8 (d8 (d8 s))).2.2.2.1 (d8 (d8 (d8 s))).2.2.2.2.1 (d8 (d8 (d8 s))).2.2.2.2.2.1 (d8 (d8 (d8 s))).2.2.2.2.2.2.1 (d8 (d8 (d8 s))).2.2.2.2.2.2.2.1 (d8 (d8 (d8 (d8 s)))).1 (d8 (d8 (d8 (d8 s)))).2.1 (d8 (d8 (d8 (d8 s)))).2.2.1 (d8 (d8 (d8 (d8 s)))).2.2.2.1 (d8 (d8 (d8 (d8 s)))).2.2.2.2.1 (d8 (d8 (d8 (d8 s)))).2.2.2.2.2.1 (d8 (d8 (d8 (d8 s)))).2.2.2.2.2.2.1 (d8 (d8 (d8 (d8 s)))).2.2.2.2.2.2.2.1 (d8 (d8 (d8 (d8 (d8 s))))).1 (d8 (d8 (d8 (d8 (d8 s))))).2.1 (d8 (d8 (d8 (d8 (d8 s))))).2.2.1 (d8 (d8 (d8 (d8 (d8 s))))).2.2.2.1 (d8 (d8 (d8 (d8 (d8 s))))).2.2.2.2.1⟩
theorem F0:Jo JN:=
 KN .o call71 func71 (ar Sw (ar RF az)) (ar n6 az) az λ_=>by kernel_rfl
def Gz:bX:=⟨41,[Ru,aY,(.fn 71 [(.ptr 0 0)] []),(.fn 68 [] [YK,(.bx 123 0 false [Sx])]),(.fn 72 [] [])],Ot,some Xo,false,true,gU,[(true,0,HV)],λs=>mI (d8 (d8 (d8 (d8 (d8 s))))).2.2.2.2.2.1 s.1 s.2.1 s.2.2.1 s.2.2.2.1 s.2.2.2.2.1 s.2.2.2.2.2.1 s.2.2.2.2.2.2.1 s.2.2.2.2.2.2.2.1 s.2.2.2.2.2.2.2.2.1 (d8 s).2.1 (d8 s).2.2.1 (d8 s).2.2.2.1 (d8 s).2.2.2.2.1 (d8 s).2.2.2.2.2.1 (d8 s).2.2.2.2.2.2.1 (d8 s).2.2.2.2.2.2.2.1 (d8 (d8 s)).1 (d8 (d8 s)).2.1 (d8 (d8 s)).2.2.1 (d8 (d8 s)).2.2.2.1 (d8 (d8 s)).2.2.2.2.1 (d8 (d8 s)).2.2.2.2.2.1 (d8 (d8 s)).2.2.2.2.2.2.1 (d8 (d8 s)).2.2.2.2.2.2.2.1 (d8 (d8 (d8 s))).1 (d8 (d8 (d8 s))).2.1 (d8 (d8 (d8 s))).2.2.1 (d8 (d8 (d8 s))).2.2.2.1 (d8 (d8 (d8 s))).2.2.2.2.1 (d8 (d8 (d8 s))).2.2.2.2.2.1 (d8 (d8 (d8 s))).2.2.2.2.2.2.1 (d8 (d8 (d8 s))).2.2.2.2.2.2.2.1 (d8 (d8 (d8 (d8 s)))).1 (d8 (d8 (d8 (d8 s)))).2.1 (d8 (d8 (d8 (d8 s)))).2.2.1 (d8 (d8 (d8 (d8 s)))).2.2.2.1 (d8 (d8 (d8 (d8 s)))).2.2.2.2.1 (d8 (d8 (d8 (d8 s)))).2.2.2.2.2.1 (d8 (d8 (d8 (d8 s)))).2.2.2.2.2.2.1 (d8 (d8 (d8 (d8 s)))).2.2.2.2.2.2.2.1 (d8 (d8 (d8 (d8 (d8 s))))).1 (d8 (d8 (d8 (d8 (d8 s))))).2.1 (d8 (d8 (d8 (d8 (d8 s))))).2.2.1 (d8 (d8 (d8 (d8 (d8 s))))).2.2.2.1 (d8 (d8 (d8 (d8 (d8 s))))).2.2.2.2.1 (d8 (d8 (d8 (d8 (d8 s))))).2.2.2.2.2.2.1 (d8 (d8 (d8 (d8 (d8 s))))).2.2.2.2.2.2.2⟩
theorem CB:Jo Gz:=
 KN (.l ⟨[(true,0,HV),(false,11,(.own AU 171 true))],[]⟩ .o) call41 func41 (ar yz az) (ar sO (ar yh (ar F0 az))) az λ_=>by kernel_rfl
def Fj:bX:=⟨43,[Ru,Sx],Ot,some Xo,false,true,gU,[(true,0,HV)],λs=>lB (d8 (d8 (d8 (d8 (d8 s))))).2.2.2.2.2 s.1 s.2.1 s.2.2.1 s.2.2.2.1 s.2.2.2.2.1 s.2.2.2.2.2.1 s.2.2.2.2.2.2.1 s.2.2.2.2.2.2.2.1 s.2.2.2.2.2.2.2.2.1 (d8 s).2.1 (d8 s).2.2.1 (d8 s).2.2.2.1 (d8 s).2.2.2.2.1 (d8 s).2.2.2.2.2.1 (d8 s).2.2.2.2.2.2.1 (d8 s).2.2.2.2.2.2.2.1 (d8 (d8 s)).1 (d8 (d8 s)).2.1 (d8 (d8 s)).2.2.1 (d8 (d8 s)).2.2.2.1 (d8 (d8 s)).2.2.2.2.1 (d8 (d8 s)).2.2.2.2.2.1 (d8 (d8 s)).2.2.2.2.2.2.1 (d8 (d8 s)).2.2.2.2.2.2.2.1 (d8 (d8 (d8 s))).1 (d8 (d8 (d8 s))).2.1 (d8 (d8 (d8 s))).2.2.1 (d8 (d8 (d8 s))).2.2.2.1 (d8 (d8 (d8 s))).2.2.2.2.1 (d8 (d8 (d8 s))).2.2.2.2.2.1 (d8 (d8 (d8 s))).2.2.2.2.2.2.1 (d8 (d8 (d8 s))).2.2.2.2.2.2.2.1 (d8 (d8 (d8 (d8 s)))).1 (d8 (d8 (d8 (d8 s)))).2.1 (d8 (d8 (d8 (d8 s)))).2.2.1 (d8 (d8 (d8 (d8 s)))).2.2.2.1 (d8 (d8 (d8 (d8 s)))).2.2.2.2.1 (d8 (d8 (d8 (d8 s)))).2.2.2.2.2.1 (d8 (d8 (d8 (d8 s)))).2.2.2.2.2.2.1 (d8 (d8 (d8 (d8 s)))).2.2.2.2.2.2.2.1 (d8 (d8 (d8 (d8 (d8 s))))).1 (d8 (d8 (d8 (d8 (d8 s))))).2.1 (d8 (d8 (d8 (d8 (d8 s))))).2.2.1 (d8 (d8 (d8 (d8 (d8 s))))).2.2.2.1 (d8 (d8 (d8 (d8 (d8 s))))).2.2.2.2.1⟩
theorem BI:Jo Fj:=
 KN .o call43 func43 (ar QE az) (ar CB az) az λ_=>by kernel_rfl
def BN:aB:=⟨42,[Sx,aY],gU,[],U2 ue⟩
theorem yN:Ko BN:=
 aG .o call42 func42 az
def Lj:bX:=⟨41,[Ru,aY,(.fn 40 [(.ptr 0 0)] []),(.fn 42 [] []),(.fn 43 [(.ptr 0 0)] [])],Ot,some Xo,false,false,gU,[(true,0,HV)],λs=>vg (d8 (d8 (d8 (d8 (d8 s))))).2.2.2.2.2 s.1 s.2.1 s.2.2.1 s.2.2.2.1 s.2.2.2.2.1 s.2.2.2.2.2.1 s.2.2.2.2.2.2.1 s.2.2.2.2.2.2.2.1 s.2.2.2.2.2.2.2.2.1 (d8 s).2.1 (d8 s).2.2.1 (d8 s).2.2.2.1 (d8 s).2.2.2.2.1 (d8 s).2.2.2.2.2.1 (d8 s).2.2.2.2.2.2.1 (d8 s).2.2.2.2.2.2.2.1 (d8 (d8 s)).1 (d8 (d8 s)).2.1 (d8 (d8 s)).2.2.1 (d8 (d8 s)).2.2.2.1 (d8 (d8 s)).2.2.2.2.1 (d8 (d8 s)).2.2.2.2.2.1 (d8 (d8 s)).2.2.2.2.2.2.1 (d8 (d8 s)).2.2.2.2.2.2.2.1 (d8 (d8 (d8 s))).1 (d8 (d8 (d8 s))).2.1 (d8 (d8 (d8 s))).2.2.1 (d8 (d8 (d8 s))).2.2.2.1 (d8 (d8 (d8 s))).2.2.2.2.1 (d8 (d8 (d8 s))).2.2.2.2.2.1 (d8 (d8 (d8 s))).2.2.2.2.2.2.1 (d8 (d8 (d8 s))).2.2.2.2.2.2.2.1 (d8 (d8 (d8 (d8 s)))).1 (d8 (d8 (d8 (d8 s)))).2.1 (d8 (d8 (d8 (d8 s)))).2.2.1 (d8 (d8 (d8 (d8 s)))).2.2.2.1 (d8 (d8 (d8 (d8 s)))).2.2.2.2.1 (d8 (d8 (d8 (d8 s)))).2.2.2.2.2.1 (d8 (d8 (d8 (d8 s)))).2.2.2.2.2.2.1 (d8 (d8 (d8 (d8 s)))).2.2.2.2.2.2.2.1 (d8 (d8 (d8 (d8 (d8 s))))).1 (d8 (d8 (d8 (d8 (d8 s))))).2.1 (d8 (d8 (d8 (d8 (d8 s))))).2.2.1 (d8 (d8 (d8 (d8 (d8 s))))).2.2.2.1 (d8 (d8 (d8 (d8 (d8 s))))).2.2.2.2.1⟩
theorem Gv:Jo Lj:=
 KN (.l ⟨[(true,0,HV),(false,11,(.own AU 171 true))],[]⟩ .o) call41 func41 (ar yN az) (ar sO (ar BI (ar n6 az))) az λ_=>by kernel_rfl
def JH:bX:=⟨25,[Ru],Ot,some Xo,false,false,gU,[(true,0,HV)],λs=>oE s.1 s.2.1 s.2.2.1 s.2.2.2.1 s.2.2.2.2.1 s.2.2.2.2.2.1 s.2.2.2.2.2.2.1 s.2.2.2.2.2.2.2.1 s.2.2.2.2.2.2.2.2.1 (d8 s).2.1 (d8 s).2.2.1 (d8 s).2.2.2.1 (d8 s).2.2.2.2.1 (d8 s).2.2.2.2.2.1 (d8 s).2.2.2.2.2.2.1 (d8 s).2.2.2.2.2.2.2.1 (d8 (d8 s)).1 (d8 (d8 s)).2.1 (d8 (d8 s)).2.2.1 (d8 (d8 s)).2.2.2.1 (d8 (d8 s)).2.2.2.2.1 (d8 (d8 s)).2.2.2.2.2.1 (d8 (d8 s)).2.2.2.2.2.2.1 (d8 (d8 s)).2.2.2.2.2.2.2.1 (d8 (d8 (d8 s))).1 (d8 (d8 (d8 s))).2.1 (d8 (d8 (d8 s))).2.2.1 (d8 (d8 (d8 s))).2.2.2.1 (d8 (d8 (d8 s))).2.2.2.2.1 (d8 (d8 (d8 s))).2.2.2.2.2.1 (d8 (d8 (d8 s))).2.2.2.2.2.2.1 (d8 (d8 (d8 s))).2.2.2.2.2.2.2.1 (d8 (d8 (d8 (d8 s)))).1 (d8 (d8 (d8 (d8 s)))).2.1 (d8 (d8 (d8 (d8 s)))).2.2.1 (d8 (d8 (d8 (d8 s)))).2.2.2.1 (d8 (d8 (d8 (d8 s)))).2.2.2.2.1 (d8 (d8 (d8 (d8 s)))).2.2.2.2.2.1 (d8 (d8 (d8 (d8 s)))).2.2.2.2.2.2.1 (d8 (d8 (d8 (d8 s)))).2.2.2.2.2.2.2.1 (d8 (d8 (d8 (d8 (d8 s))))).1 (d8 (d8 (d8 (d8 (d8 s))))).2.1 (d8 (d8 (d8 (d8 (d8 s))))).2.2.1 (d8 (d8 (d8 (d8 (d8 s))))).2.2.2.1 (d8 (d8 (d8 (d8 (d8 s))))).2.2.2.2⟩
theorem FA:Jo JH:=
 KN (.r [] (.l ⟨[(true,0,HV),(false,14,aq)],[]⟩ .o)) call25 func25 (ar Rt az) (ar n6 (ar Gv az)) az λ_=>by kernel_rfl
def aaq:aB:=⟨10,[rC,u7,ON],(.cQ [.bool,(.dat FY [none,none]),aq,aY]),[],U3 gK⟩
theorem ai4:(⟨24,Tryz.f24⟩:ou).Ok X0.P:=⟨call24,func24⟩
theorem F9:Ko aaq:=
 gE (.c (.r [6,7,8,9] .o) .o) call10 func10 (ar OZ (ar Ss az)) (ar FA az) (ar ai4 az) λ_=>by kernel_rfl
def KA:aB:=⟨81,[jx,aY],aq,[],U2 lS⟩
theorem G4:Ko KA:=
 aG (.c .o (.l ⟨[(false,5,aq)],[]⟩ .o)) call81 func81 az
def KR:aB:=⟨54,[rC,aY],.bool,[],U2 pG⟩
theorem GN:Ko KR:=
 aG .o call54 func54 (ar G4 az)
def Li:aB:=⟨28,[rC,u7,aY],.bool,[],U3 pz⟩
theorem Gy:Ko Li:=
 aG .o call28 func28 (ar GN az)
def GL:aB:=⟨99,[.bool],aq,[],λs=>bd s⟩
theorem C8:Ko GL:=
 aG .o call99 func99 az
def wH:aB:=⟨80,[OW,aY],aq,[],U2 eC⟩
def DP(d:Ex->Ex)(j:Sh->(R:Type)->Option R->Option R)(h:(Ex×Q1)->zf)(e:Ex)(g:Q1)(i:Int):zf:=
ai (λ(b:Int)=>kP e g i b) λa=>
bif decide (1<(List.length e.l:Int)) then (idx e.l 1).bind λf=>
(h ((d f),g)).bind λc=>
a c else a 0
def nZ(d:Ex->Ex)(i:Sh->(R:Type)->Option R->Option R)(h:(Ex×Q1)->zf)(e:Ex)(g:Q1):zf:=
ai (λ(b:Int)=>DP d i h e g b) λa=>
bif decide (0<(List.length e.l:Int)) then (idx e.l 0).bind λf=>
(h ((d f),g)).bind λc=>
a c else a 0
def w8:TK8->TK8:=λa s=>lC a s.1 s.2
theorem BD(a:TK8)(c:OK8 a):(kH (w8 a)).Ok X0.P X0.Γ:=
 gE (.s (.s (.s (.j ⟨[(false,5,aq)],[]⟩ .o (.j ⟨[(false,6,aq)],[]⟩ .o .o))))) call80 func80 (ar C8 (ar c az)) az az λs=>(show _=nZ sU jq a s.1 s.2 from by kernel_rfl).trans ((congrArg (λb=>nZ b jq a s.1 s.2) jm).trans ((congrArg (λd=>nZ id d a s.1 s.2) ld).trans (by kernel_rfl)))
theorem mX:Ko wH:=(show wH=kH (ao (w8) ay) by kernel_rfl)▸tq (X:=X0) (E:=kH) ⟨call80,λ_ _ h=>nomatch h⟩ (BD) ay
def HO:aB:=⟨82,[u7,aq,aY],.bool,[],U3 sS⟩
def D8(e:Ex->Ex)(j:Sh->(R:Type)->Option R->Option R)(a:p7)(q:Int)(h:Q1)(b:Int->zc)(d:Int):zc:=
(idx a.1 q).bind λi=>
bif decide (d<(i.length:Int)) then (idx a.1 q).bind λg=>
(idx g d).bind λf=>
(eC (e f) h).bind λc=>
bif c != 1 then some false else b (i64.wrap (d+1)) else some true
def pT(b:Ex->Ex)(d:Sh->(R:Type)->Option R->Option R)(a:p7)(q:Int)(c:Q1):zc:=
ao (D8 b d a q c) ay 0
theorem DM:Ko HO:=
 gE (.l ⟨[(false,7,aq)],[]⟩ .o) call82 func82 (ar mX az) az az λs=>(show _=pT sU jq s.1 s.2.1 s.2.2 from by kernel_rfl).trans ((congrArg (λa=>pT a jq s.1 s.2.1 s.2.2) jm).trans ((congrArg (λb=>pT id b s.1 s.2.1 s.2.2) ld).trans (by kernel_rfl)))
def JD:aB:=⟨32,[aY,aY],.bool,[],U2 gF⟩
theorem uM:Ko JD:=
 aG (.c .o (.l ⟨[(false,5,aq)],[]⟩ .o)) call32 func32 az
def Di:aB:=⟨16,[(.own rL 24 false),aY],aq,[],U2 dM⟩
theorem kl:Ko Di:=
 aG (.l ⟨[(false,5,aq)],[]⟩ .o) call16 func16 (ar uM az)
def Fp:aB:=⟨55,[rG,u7,aY,aY],rG,[],U4 lr⟩
theorem rX:Ko Fp:=
 aG (.l ⟨[(false,0,rG),(false,9,aq)],[]⟩ (.c (.r [40000] .o) .o)) call55 func55 (ar DM (ar kl az))
def Ik:aB:=⟨29,[rC,u7],rG,[],U2 nt⟩
theorem DW:Ko Ik:=
 aG .o call29 func29 (ar rX az)
def Gr:aB:=⟨16,[(.sli rL),aY],aq,[],U2 jJ⟩
theorem sQ:Ko Gr:=
 aG (.l ⟨[(false,5,aq)],[]⟩ .o) call16 func16 (ar uM az)
def Eb:aB:=⟨52,[rC,aY],kT,[],U2 ph⟩
def A9(f:Ex->Ex)(h:Sh->(R:Type)->Option R->Option R)(m:Q9)(d:Q1)(a:fv->Option Q1):Q1×Int->Option Q1:=λ⟨b,c⟩=>
bif decide (c<(m.2.2.2.2.length:Int)) then (idx m.2.2.2.2 c).bind λg=>
(eC (f g.2.1) d).bind λe=>
bif e==1 then aM (aH (List.length b+List.length ([c]:zn)) 8)<|
a ((b++([c]:zn)),(i64.wrap (c+1))) else a (b,(i64.wrap (c+1))) else some b
def mU(b:Ex->Ex)(c:Sh->(R:Type)->Option R->Option R)(m:Q9)(a:Q1):Option Q1:=
ao (A9 b c m a) ay ([],0)
theorem AM:Ko Eb:=
 gE (.l ⟨[(false,5,kT),(false,6,aq)],[]⟩ .o) call52 func52 (ar mX az) az az λs=>(show _=mU sU jq s.1 s.2 from by kernel_rfl).trans ((congrArg (λa=>mU a jq s.1 s.2) jm).trans ((congrArg (λb=>mU id b s.1 s.2) ld).trans (by kernel_rfl)))
def Iv:aB:=⟨53,[rC,aY,aq],(.cQ [kT,aq]),[],U3 nO⟩
def DL(g:Ex->Ex)(l:Sh->(R:Type)->Option R->Option R)(m:Q9)(e:Q1)(k:Int)(a:fv->Option fv):Q1×Int->Option fv:=λ⟨b,c⟩=>
(idx m.2.2.2.2 k).bind λi=>
bif decide (c<(i.2.2.length:Int)) then (idx m.2.2.2.2 k).bind λh=>
(idx h.2.2 c).bind λd=>
(eC (g d.2) e).bind λf=>
(idx b d.1).bind λj=>
a ((List.set b (Int.toNat d.1) f),(i64.wrap (c+1))) else ao (iy m b) ay 0
def pK(b:Ex->Ex)(e:Sh->(R:Type)->Option R->Option R)(m:Q9)(a:Q1)(k:Int):Option fv:=
ai (decide (k<0)) λf=>
ai (decide ((m.2.2.2.2.length:Int)<=k)) λd=>
ai (f||d) λc=>
bif c then (
some ([],10)) else (
aM (aH (List.length ([]:zn)+List.length a) 8)<|
ao (DL b e m a k) ay ((([]:zn)++a),0))
theorem DY:Ko Iv:=
 gE (.c .o (.l ⟨[(true,8,kT),(false,9,aq)],[]⟩ (.c (.r [8] .o) (.l ⟨[(false,11,aq)],[]⟩ .o)))) call53 func53 (ar mX az) az az λs=>(show _=pK sU jq s.1 s.2.1 s.2.2 from by kernel_rfl).trans ((congrArg (λa=>pK a jq s.1 s.2.1 s.2.2) jm).trans ((congrArg (λb=>pK id b s.1 s.2.1 s.2.2) ld).trans (by kernel_rfl)))
def Iu:aB:=⟨27,[rC,aY],(.cQ [rG,aq]),[],U2 kA⟩
theorem tX:Ko Iu:=
 aG (.c .o (.l ⟨[(false,7,rG),(false,8,aq)],[]⟩ .o)) call27 func27 (ar AM (ar DY (ar kl az)))
def ID:aB:=⟨31,[rC,u7,aY],(.cQ [rG,aq]),[],U3 nT⟩
theorem DZ:Ko ID:=
 aG (.r [] (.c .o (.l ⟨[(false,11,rG),(false,12,aq)],[]⟩ (.c (.r [11] .o) .o)))) call31 func31 (ar tX (ar rX az))
def JC:aB:=⟨30,[rC,u7,aY,aY],.bool,[],U4 lg⟩
theorem Fk:Ko JC:=
 aG .o call30 func30 (ar DZ (ar sQ az))
def F7:aB:=⟨20,[u7,aY],.bool,[],U2 mJ⟩
theorem CD:Ko F7:=
 aG (.l ⟨[(false,5,aq)],[]⟩ .o) call20 func20 az
def Hh:aB:=⟨14,[rC,u7,(.dat FY [none,none])],.bool,[],U3 gP⟩
theorem sa:Ko Hh:=
 aG (.r [] (.c .o (.l ⟨[(false,8,aq)],[]⟩ (.c .o (.r [20007] (.c .o (.l ⟨[(false,10,aq)],[]⟩ (.c .o (.r [] (.l ⟨[(false,13,.bool),(false,14,aq)],[]⟩ .o)))))))))) call14 func14 (ar Gy (ar DW (ar sQ (ar Fk (ar CD az)))))
def G5:aB:=⟨7,[],.bool,[],λ_=>rz⟩
theorem Dq:Ko G5:=
 aG .o call7 func7 (ar vT (ar F9 (ar sa az)))
end
end Go.Proofs.YtcgihjbfppkcfaaGreatDoor
