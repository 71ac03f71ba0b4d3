/- Own texts for NestRoundsQ, cut and joined by a program. -/
import Derived.Test.YtcgihjbfppkcfaaGreatDoorNestRoundsQG
set_option linter.all false
namespace Go.Proofs.YtcgihjbfppkcfaaGreatDoor
open IntKind (i64)
open Go.Proofs
noncomputable section
set_option maxRecDepth 100000
abbrev Sk:Ty:=(.p (.i .i64) (.p (.l (.p (.i .i64) (.i .i64))) (.p (.i .i64) (.p (.p (.p (.i .i64) (.p (.l (.l (.i .u8))) (.l (.i .i64)))) (.l (.i .u8))) (.p (.p (.l (.p (.i .i64) (.p (.l (.l (.i .u8))) (.l (.i .i64))))) (.p (.p (.i .i64) (.p (.l (.l (.i .u8))) (.l (.i .i64)))) (.l (.i .u8)))) (.p (.p (.l (.p (.i .i64) (.p (.l (.l (.i .u8))) (.l (.i .i64))))) (.l (.i .u8))) (.p (.p (.p (.i .i64) (.p (.l (.p (.l (.p (.i .u8) (.i .i64))) (.i .i64))) (.p (.i .i64) (.p (.i .i64) (.l (.i .i64)))))) (.p (.p (.i .i64) (.p (.l (.p (.l (.p (.i .u8) (.i .i64))) (.i .i64))) (.p (.i .i64) (.p (.i .i64) (.l (.i .i64)))))) (.p (.i .i64) (.p (.l (.p (.l (.p (.i .u8) (.i .i64))) (.i .i64))) (.p (.i .i64) (.p (.i .i64) (.l (.i .i64)))))))) (.p (.i .i64) (.p (.i .i64) (.p (.i .u64) (.p (.l (.i .u8)) (.p (.l (.i .u8)) (.l (.i .u8))))))))))))))
abbrev bf:Ty:=(.i .i64)
abbrev QL3:List Pt:=(.same:: .same:: .same:: .same:: .same:: .same:: .same:: .same:: .same::(.int .i64)::(.sli (.p bf bf))::(.int .i64)::(.int .i64)::(.sli (.l (.i .u8)))::(.sli bf)::(.sli (.i .u8))::(.sli (.p bf (.p (.l (.l (.i .u8))) (.l bf))))::(.int .i64)::(.sli (.l (.i .u8)))::(.sli bf)::(.sli (.i .u8))::(.sli (.p bf (.p (.l (.l (.i .u8))) (.l bf))))::(.sli (.i .u8))::(.int .i64)::(.sli (.p (.l (.p (.i .u8) bf)) bf))::(.int .i64)::(.int .i64)::(.sli bf)::(.int .i64)::(.sli (.p (.l (.p (.i .u8) bf)) bf))::(.int .i64)::(.int .i64)::(.sli bf)::(.int .i64)::(.sli (.p (.l (.p (.i .u8) bf)) bf))::(.int .i64)::(.int .i64)::(.sli bf)::(.int .i64)::(.int .i64)::(.int .u64)::(.sli (.i .u8))::(.sli (.i .u8))::(.sli (.i .u8)):: .same::[])
abbrev QL4:List Pt:=((.sli .s)::(.sli (.p bf bf))::(.sli bf)::(.sli .s)::(.sli (.p bf (.p .ex (.l (.p bf .ex)))))::(.sli (.l .ex))::(.sli (.l bf))::(.sli bf)::(.sli (.l bf))::(.int .i64)::(.sli (.p bf bf))::(.int .i64)::(.int .i64)::(.sli (.l (.i .u8)))::(.sli bf)::(.sli (.i .u8))::(.sli (.p bf (.p (.l (.l (.i .u8))) (.l bf))))::(.int .i64)::(.sli (.l (.i .u8)))::(.sli bf)::(.sli (.i .u8))::(.sli (.p bf (.p (.l (.l (.i .u8))) (.l bf))))::(.sli (.i .u8))::(.int .i64)::(.sli (.p (.l (.p (.i .u8) bf)) bf))::(.int .i64)::(.int .i64)::(.sli bf)::(.int .i64)::(.sli (.p (.l (.p (.i .u8) bf)) bf))::(.int .i64)::(.int .i64)::(.sli bf)::(.int .i64)::(.sli (.p (.l (.p (.i .u8) bf)) bf))::(.int .i64)::(.int .i64)::(.sli bf)::(.int .i64)::(.int .i64)::(.int .u64)::(.sli (.i .u8))::(.sli (.i .u8))::(.sli (.i .u8))::(.int .i64)::[])
abbrev pz:Pt:=(.dat Sk [none,none,none,none,none,none,none,none,none,none,none,none,none,none,none,none,none,none,none])
abbrev gO:Ty:=(.p bf (.p (.l (.l (.i .u8))) (.l bf)))
abbrev aq:Pt:=(.int .i64)
abbrev R7:Ty:=(.p (.l .s) (.p (.l (.p bf bf)) (.p (.l bf) (.p (.l .s) (.l (.p bf (.p .ex (.l (.p bf .ex)))))))))
abbrev aW:Ty:=(.i .u8)
abbrev ME:Ty:=(.p (.l (.l .ex)) (.p (.l (.l bf)) (.p (.l bf) (.l (.l bf)))))
abbrev aeZ:Ty:=(.p aW (.p aW (.p aW (.p aW (.p aW (.p aW (.p aW (.p aW (.p aW (.p aW (.p aW (.p aW (.p aW (.p aW (.p aW (.p aW (.p aW (.p aW (.p aW (.p aW (.p aW (.p aW (.p aW (.p aW (.p aW (.p aW (.p aW (.p aW (.p aW (.p aW (.p aW (.p aW (.p aW (.p aW (.p aW (.p aW (.p aW (.p aW (.p aW (.p aW (.p aW (.p aW (.p aW (.p aW (.p aW (.p aW (.p aW (.p aW (.p aW (.p aW (.p aW (.p aW (.p aW (.p aW (.p aW (.p aW (.p aW (.p aW (.p aW (.p aW (.p aW (.p aW (.p aW aW)))))))))))))))))))))))))))))))))))))))))))))))))))))))))))))))
abbrev Hz:Ty:=(.p bf (.p bf (.p (.i .u64) (.p (.l aW) (.p (.l aW) (.l aW))))))
abbrev AT:Ty:=(.p bf (.p (.l (.p (.l (.p aW bf)) bf)) (.p bf (.p bf (.l bf)))))
abbrev ZI:Pt:=(.bx 130 0 true [(.own (.p bf (.p .s (.p bf bf))) 132 false),aq,(.own .s 9 false),(.own (.p bf bf) 112 false),(.own bf 3 false),(.own .s 9 false),(.own (.p bf (.p .ex (.l (.p bf .ex)))) 180 false),aq,aq])
abbrev lB:Ty:=(.p bf bf)
abbrev aY:Pt:=(.sli bf)
abbrev pc:Pt:=(.dat ME [none,none,none,none])
abbrev sJ:Pt:=(.dat R7 [none,none,none,none,none])
abbrev ami:Ty:=(.p aW (.p aW (.p aW (.p aW (.p aW (.p aW (.p aW (.p aW (.p aW (.p aW (.p aW (.p aW (.p aW (.p aW (.p aW (.p aW (.p aW (.p aW (.p aW (.p aW (.p aW (.p aW (.p aW aW)))))))))))))))))))))))
abbrev lE:Pt:=(.own bf 3 true)
abbrev tW:Ty:=(.p (.l (.p aW bf)) bf)
abbrev Nk:Pt:=(.bx 130 0 true [.same,.same,.same,.same,.same,.same,.same,aq,aq])
abbrev jm:Pt:=(.own aW 5 true)
abbrev yx:Pt:=(.own (.l bf) 24 true)
abbrev vq:Ty:=(.p bf (.p .s lB))
abbrev ZS:Ty:=(.p bf (.p bf (.p bf (.p (.i .u64) lB))))
abbrev L8:Pt:=(.dat (.p (.l gO) (.p gO (.l aW))) [none,none,none,none])
abbrev BY:Ty:=(.p bf (.p .ex (.l (.p bf .ex))))
abbrev Cl:Ty:=(.p (.l bf) (.l (.l bf)))
abbrev xJ:Pt:=(.dat Hz [none,none,none])
abbrev Wi:Ty:=(.p aW (.p aW (.p aW (.p aW (.p aW (.p aW (.p aW aW)))))))
abbrev apW:Ty:=(.p (.i .u64) (.p (.i .u64) (.p (.i .u64) (.p (.i .u64) (.p (.i .u64) (.p (.i .u64) (.p (.i .u64) (.p (.i .u64) (.p (.i .u64) (.p (.i .u64) (.p (.i .u64) (.p (.i .u64) (.p (.i .u64) (.p (.i .u64) (.p (.i .u64) (.p (.i .u64) (.p (.i .u64) (.p (.i .u64) (.p (.i .u64) (.i .u64))))))))))))))))))))
abbrev ZX:Pt:=(.bx 130 0 true [.same,aq,.same,.same,.same,.same,.same,aq,aq])
abbrev aaa:Pt:=(.bx 379 0 true [.same,(.own tW 273 true),.same,.same,lE,.same])
abbrev HU:Pt:=(.ifc 392 (.bx 390 0 true [lE]))
abbrev NQ:Pt:=(.dat (.p (.l gO) (.l aW)) [none,none])
abbrev eO:Pt:=(.sli aW)
abbrev HL:Ty:=(.p (.l (.l bf)) (.l (.l bf)))
abbrev Ra:Pt:=(.dat (.p gO (.l aW)) [none,none,none])
abbrev ag5:Pt:=(.bx 212 0 true [(.own vq 132 false),aq,(.own .s 9 false),aq,aq])
abbrev lS:Ty:=(.l aW)
abbrev jT:Pt:=(.sli lB)
abbrev aaN:Pt:=(.ifc 97 (.agg [(.sli (.l bf)),(.sli (.l bf))]))
abbrev afj:Pt:=(.bx 355 0 true [(.own gO 270 true),(.fn 229 [(.ptr 0 0)] [])])
abbrev wB:Pt:=(.dat .ex [none])
abbrev ahb:Pt:=(.bx 79 0 true [(.own gO 73 true),.same,.same,.same,.same])
abbrev pM:Pt:=(.dat .un [])
abbrev HV:Pt:=(.dat gO [none,none])
abbrev nT:Ty:=(.p aW bf)
abbrev V6:Pt:=(.fn 289 [] [(.bx 4 0 true [.bool])])
abbrev akV:Pt:=(.bx 379 0 true [.same,(.own tW 273 true),.same,.same,lE,(.mp bf .bo true)])
abbrev afx:Pt:=(.bx 355 0 false [(.sli gO),(.fn 233 [(.ptr 0 0)] [])])
abbrev arw:Pt:=(.bx 130 0 false [(.own vq 132 false),aq,(.own .s 9 false),(.own lB 112 false),(.own bf 3 false),(.own .s 9 false),(.own BY 180 false),aq,aq])
abbrev im:Pt:=(.cW [])
abbrev akx:Pt:=(.bx 379 0 true [aq,(.own tW 273 true),aq,aq,lE,(.mp bf .bo false)])
abbrev akf:Pt:=(.bx 379 0 true [aq,(.own tW 273 true),aq,aq,lE,(.mp bf .bo true)])
abbrev aa9:Pt:=(.bx 161 0 true [yx,(.mp .s .bo true)])
abbrev PZ:Pt:=(.bx 27 0 true [(.int .u64)])
abbrev amC:Pt:=(.bx 130 0 true [.same,aq,.same,.same,.same,.same,.same,.same,.same])
abbrev Qf:Pt:=(.ifc 95 (.agg [aq,aY]))
abbrev agR:Pt:=(.bx 79 0 true [.same,.same,.same,.same,.same])
abbrev G3:Pt:=(.cW [.bool,aq])
abbrev agK:Ty:=(.p .s (.p ME (.p aW (.p aW (.p aW aW)))))
abbrev afp:Pt:=(.bx 76 0 false [aq,(.sli lS),aY,eO])
abbrev aaw:Ty:=(.p .s (.p ME (.p aW (.i .u64))))
abbrev JA:Pt:=(.bx 100 0 true QL3)
abbrev wu:Ty:=(.p lS bf)
abbrev ag7:Pt:=(.bx 212 0 true [.same,aq,.same,aq,aq])
abbrev nM:Pt:=(.int .u8)
abbrev Ve:Pt:=(.bx 243 0 true [.sfp,jm])
abbrev agO:Pt:=(.bx 355 0 true [(.own gO 270 true),.same])
abbrev sO:Pt:=(.int .u32)
abbrev agS:Ty:=(.p (.l vq) (.p bf (.p (.l .s) lB)))
abbrev alL:Pt:=(.dat R7 [some 19,some 225,some 7,some 19,some 361])
abbrev KO:Pt:=(.cW [pz,aq])
abbrev Wc:Pt:=(.cW [pz,.bool,aq])
abbrev afS:Ty:=(.p (.l vq) (.p bf (.p R7 lB)))
abbrev aqO:Pt:=(.bx 130 0 true [.same,aq,(.own .s 9 true),(.own lB 112 true),lE,.same,.same,aq,aq])
abbrev aac:Ty:=(.p (.l gO) (.p gO lS))
abbrev Ro:Pt:=(.cW [aq,.bool])
abbrev VH:Pt:=(.dat .ex [some 293])
abbrev aqY:Pt:=(.bx 130 0 true [.same,aq,.same,.same,.same,.same,(.own BY 180 true),aq,aq])
abbrev UB:Pt:=(.own Cl 171 false)
abbrev akR:Pt:=(.bx 76 0 true [aq,(.sli lS),aY,eO])
abbrev ag3:Ty:=(.p R7 (.p ME (.p Sk bf)))
abbrev YR:Pt:=(.dat AT [none,none])
abbrev VU:Pt:=(.bx 100 0 true QL4)
abbrev aeL:Ty:=(.p bf (.p bf (.p .bo aW)))
abbrev aaA:Pt:=(.bx 24 0 false [aY])
abbrev al7:Pt:=(.bx 218 0 true [yx,(.mp .s .bo true)])
abbrev aqf:Ty:=(.p aW (.p aW (.p aW (.p aW (.p aW (.p aW (.p aW (.p aW ami))))))))
abbrev agd:Pt:=(.bx 317 0 true [jm,aq])
abbrev V8:Pt:=(.sli (.i .u32))
abbrev Rt:Pt:=(.dat ZS [])
abbrev afM:Pt:=(.bx 390 0 true [lE])
abbrev Zg:Ty:=(.p (.l gO) lS)
abbrev MC:Pt:=(.ifc 3 aq)
abbrev Z5:Pt:=(.own bf 3 false)
abbrev JE:Pt:=(.int .u64)
abbrev Uz:Pt:=(.cW [yx,aq])
abbrev Yx:Pt:=(.bx 24 0 true [aY])
abbrev YB:Pt:=(.bx 4 0 true [.bool])
abbrev anH:Pt:=(.dat R7 [some 18,some 224,some 6,some 18,some 360])
abbrev tf:Ty:=(.l bf)
abbrev Uv:Pt:=(.own .s 9 false)
open Tryz
theorem ac3:akP Tryz.prog 138:=λv w=>by rw [run_callFunc_extern func138 (by kernel_rfl) (by kernel_rfl) (by kernel_rfl) (e:=Extern.AbiNoEscape.same) (by kernel_rfl)];rfl
noncomputable def Xg:Cx:=⟨Tryz.prog,[(2,bf),(3,bf),(4,.bo),(5,aW),(6,aW),(7,aeL),(8,aeL),(9,.s),(10,.s),(11,.s),(12,(.i .u64)),(13,(.p .s (.i .u64))),(14,(.p .s (.i .u64))),(21,(.i .i32)),(22,(.l (.l .ex))),(23,(.l tf)),(24,tf),(25,ME),(26,ME),(27,(.i .u64)),(28,ZS),(29,ZS),(31,(.l .s)),(32,(.l lB)),(33,(.l BY)),(34,R7),(35,R7),(40,HL),(41,HL),(42,bf),(47,agK),(48,agK),(55,aaw),(56,aaw),(65,(.l .bo)),(68,(.l (.l .bo))),(71,(.l lS)),(72,gO),(73,gO),(74,lS),(75,(.p gO lS)),(76,(.p gO lS)),(77,(.l gO)),(78,aac),(79,aac),(80,(.l gO)),(81,Zg),(82,Zg),(83,(.l tW)),(84,AT),(85,AT),(86,(.p AT (.p AT AT))),(87,(.p lS (.p lS lS))),(88,Hz),(89,Hz),(90,Sk),(91,Sk),(94,(.p bf tf)),(95,(.p bf tf)),(96,HL),(97,HL),(99,ag3),(100,ag3),(111,lB),(112,lB),(115,(.l .n)),(120,.n),(123,(.l Cl)),(126,(.l vq)),(129,afS),(130,afS),(131,vq),(132,vq),(143,(.l .ex)),(145,(.p bf (.p bf (.p bf (.l .ex))))),(146,.ex),(152,lB),(153,.un),(154,.un),(155,.un),(156,.un),(157,.un),(158,.un),(170,Cl),(171,Cl),(178,(.l (.p bf .ex))),(179,BY),(180,BY),(182,(.p bf .ex)),(183,(.p bf .ex)),(211,agS),(212,agS),(215,lB),(225,ami),(236,apW),(237,(.i .u32)),(238,(.p aW aeZ)),(239,(.i .u64)),(252,aqf),(253,aeZ),(259,.un),(260,.un),(261,.un),(262,aW),(263,aW),(265,(.i .i32)),(266,(.i .i32)),(269,gO),(270,gO),(271,(.l nT)),(272,tW),(273,tW),(295,wu),(296,wu),(303,gO),(304,gO),(305,gO),(306,gO),(314,wu),(315,wu),(316,wu),(317,wu),(357,(.l (.i .u32))),(364,Wi),(365,Wi),(383,nT),(384,nT),(390,tf)],[],[138],(List.forall_mem_cons.2 ⟨ac3,(λ_ h=>nomatch h)⟩),au,[154,155,156,157,158],[],(λ_ h=>nomatch h),[(25,21),(66,40)]⟩
noncomputable def X0:Cx:=⟨Tryz.prog,[(2,bf),(3,bf),(4,.bo),(5,aW),(6,aW),(7,aeL),(8,aeL),(9,.s),(10,.s),(11,.s),(12,(.i .u64)),(13,(.p .s (.i .u64))),(14,(.p .s (.i .u64))),(21,(.i .i32)),(22,(.l (.l .ex))),(23,(.l tf)),(24,tf),(25,ME),(26,ME),(27,(.i .u64)),(28,ZS),(29,ZS),(31,(.l .s)),(32,(.l lB)),(33,(.l BY)),(34,R7),(35,R7),(40,HL),(41,HL),(42,bf),(47,agK),(48,agK),(55,aaw),(56,aaw),(65,(.l .bo)),(68,(.l (.l .bo))),(71,(.l lS)),(72,gO),(73,gO),(74,lS),(75,(.p gO lS)),(76,(.p gO lS)),(77,(.l gO)),(78,aac),(79,aac),(80,(.l gO)),(81,Zg),(82,Zg),(83,(.l tW)),(84,AT),(85,AT),(86,(.p AT (.p AT AT))),(87,(.p lS (.p lS lS))),(88,Hz),(89,Hz),(90,Sk),(91,Sk),(94,(.p bf tf)),(95,(.p bf tf)),(96,HL),(97,HL),(99,ag3),(100,ag3),(111,lB),(112,lB),(115,(.l .n)),(120,.n),(123,(.l Cl)),(126,(.l vq)),(129,afS),(130,afS),(131,vq),(132,vq),(143,(.l .ex)),(145,(.p bf (.p bf (.p bf (.l .ex))))),(146,.ex),(152,lB),(153,.un),(154,.un),(155,.un),(156,.un),(157,.un),(158,.un),(170,Cl),(171,Cl),(178,(.l (.p bf .ex))),(179,BY),(180,BY),(182,(.p bf .ex)),(183,(.p bf .ex)),(211,agS),(212,agS),(215,lB),(225,ami),(236,apW),(237,(.i .u32)),(238,(.p aW aeZ)),(239,(.i .u64)),(252,aqf),(253,aeZ),(259,.un),(260,.un),(261,.un),(262,aW),(263,aW),(265,(.i .i32)),(266,(.i .i32)),(269,gO),(270,gO),(271,(.l nT)),(272,tW),(273,tW),(295,wu),(296,wu),(303,gO),(304,gO),(305,gO),(306,gO),(314,wu),(315,wu),(316,wu),(317,wu),(357,(.l (.i .u32))),(364,Wi),(365,Wi),(383,nT),(384,nT),(390,tf)],[(0,0,⟨.l (.i .u64),vS⟩)],[138],(List.forall_mem_cons.2 ⟨ac3,(λ_ h=>nomatch h)⟩),au,[154,155,156,157,158],[⟨180,λargs H st K=>QH Xg Tryz.f180 args H st K⟩,⟨171,λargs H st K=>QH Xg Tryz.f171 args H st K⟩,⟨289,λargs H st K=>QH Xg Tryz.f289 args H st K⟩,⟨290,λargs H st K=>QH Xg Tryz.f290 args H st K⟩],(List.forall_mem_cons.2 ⟨RX (X:=Xg) call180 func180 rfl,(List.forall_mem_cons.2 ⟨RX (X:=Xg) call171 func171 rfl,(List.forall_mem_cons.2 ⟨RX (X:=Xg) call289 func289 rfl,(List.forall_mem_cons.2 ⟨RX (X:=Xg) call290 func290 rfl,(λ_ h=>nomatch h)⟩)⟩)⟩)⟩),[(25,21),(66,40)]⟩
abbrev Ko(e:aA):=e.Ok X0.P X0.Γ
abbrev Lb(e:bY):=e.Ok X0.P X0.Γ
theorem aG{X:Cx}{tb:List aA}{fn:Func}{e:aA}(h:HT)(c:Enters X.P e.f)(b:X.P.funcs[e.f]? =some fn)(a:∀e∈tb,e.Ok X.P X.Γ)(eq:∀s,Zj X tb [] [] h fn e s=e.m s:=by intro _;kernel_rfl):e.Ok X.P X.Γ:=eC h c b a ax ax eq
theorem afH{X:Cx}{tb:List aA}{fn:Func}{e:bY}(h:HT)(c:Enters X.P e.f)(b:X.P.funcs[e.f]? =some fn)(a:∀e∈tb,e.Ok X.P X.Γ)(eq:∀s,akh X tb [] [] h fn e s=e.m s:=by intro _;kernel_rfl):e.Ok X.P X.Γ:=Mx h c b a ax ax eq
abbrev U2{a z r:Type}(F:a->z->r)(s:a×z):r:=F s.1 s.2
abbrev U3{a b z r:Type}(F:a->b->z->r)(s:a×b×z):r:=F s.1 s.2.1 s.2.2
abbrev U4{a b c z r:Type}(F:a->b->c->z->r)(s:a×b×c×z):r:=F s.1 s.2.1 s.2.2.1 s.2.2.2
abbrev U6{a b c d e z r:Type}(F:a->b->c->d->e->z->r)(s:a×b×c×d×e×z):r:=F s.1 s.2.1 s.2.2.1 s.2.2.2.1 s.2.2.2.2.1 s.2.2.2.2.2
abbrev U7{a b c d e f z r:Type}(F:a->b->c->d->e->f->z->r)(s:a×b×c×d×e×f×z):r:=F s.1 s.2.1 s.2.2.1 s.2.2.2.1 s.2.2.2.2.1 s.2.2.2.2.2.1 s.2.2.2.2.2.2
abbrev U8{a b c d e f g z r:Type}(F:a->b->c->d->e->f->g->z->r)(s:a×b×c×d×e×f×g×z):r:=F s.1 s.2.1 s.2.2.1 s.2.2.2.1 s.2.2.2.2.1 s.2.2.2.2.2.1 s.2.2.2.2.2.2.1 s.2.2.2.2.2.2.2
abbrev U9{a b c d e f g h z r:Type}(F:a->b->c->d->e->f->g->h->z->r)(s:a×b×c×d×e×f×g×h×z):r:=F s.1 s.2.1 s.2.2.1 s.2.2.2.1 s.2.2.2.2.1 s.2.2.2.2.2.1 s.2.2.2.2.2.2.1 s.2.2.2.2.2.2.2.1 s.2.2.2.2.2.2.2.2
def lC(x:Ex):Ex:=Ex.mk x.op x.n x.at_ x.l
theorem dX:lC=id:=funext λx=>by cases x;rfl
def ap9:aA:=⟨131,[.int .i64],.str,[],λs=>Yw s⟩
theorem ajN:Ko ap9:=alY (ρ:=Tryz.M7) Tryz.alM call131 (G:=0) (tab:=vS) (by kernel_rfl) (show gl 0 (vS.map (Value.int .u64))∈X0.Γ by first|exact c8 ..|exact (.tail _ (c8 ..))|exact (.tail _ (.tail _ (c8 ..)))|exact (.tail _ (.tail _ (.tail _ (c8 ..))))|exact (.tail _ (.tail _ (.tail _ (.tail _ (c8 ..)))))|exact (.tail _ (.tail _ (.tail _ (.tail _ (.tail _ (c8 ..))))))) (by decide+kernel) Yw λn r h=>by obtain ⟨b,a⟩:=jG h;cases a;exact ⟨b,rfl⟩
def apZ:aA:=⟨110,[.own aW 5 true,.int .u64,.int .i64],.own aW 5 true,[],U3 SK⟩
theorem ajM:Ko apZ:=amO (ρ:=Tryz.PB) Tryz.aoA call110 (G:=0) (tab:=vS) (by kernel_rfl) (show gl 0 (vS.map (Value.int .u64))∈X0.Γ by first|exact c8 ..|exact (.tail _ (c8 ..))|exact (.tail _ (.tail _ (c8 ..)))|exact (.tail _ (.tail _ (.tail _ (c8 ..))))|exact (.tail _ (.tail _ (.tail _ (.tail _ (c8 ..)))))|exact (.tail _ (.tail _ (.tail _ (.tail _ (.tail _ (c8 ..))))))) (by decide+kernel) SK λl u b r h=>by obtain ⟨a,c⟩:=jG h;simp only [ar,mN,eY] at a;cases c;exact ⟨a.1.1,a.1.2.1,a.1.2.2,a.2,rfl⟩
theorem ajt{α:Type}{b:Nat}{s y r:List α}{k:Int}(h:UY b s k y=some r):y≠[]/\Ci k s.length=true/\aH (s.length+y.length) b=true/\r=ng s k y:=by
 unfold UY at h;split at h
 .cases h
 .obtain ⟨a,c⟩:=jG h;simp only [ar] at a;cases c;exact ⟨by simp,a.1,a.2,rfl⟩
def akm:aA:=⟨261,[.own nT 384 true,.int .i64,.own nT 384 true],.own nT 384 true,[],λs=>UY 16 s.1 s.2.1 s.2.2⟩
theorem acG:Ko akm:=aoF (t:=nT) (bytes:=16) call261 (λa d c b=>I261.ZF a d c b) (UY 16) (λ_ _ _ _ h=>ajt h)
abbrev TK0:=Aa->Option fB
def gf(k:TK0):aA:=⟨107,[ag5,aq,aq],VH,[(true,0,ag7)],λs=>k (s.2.2.2.2.2.1,s.2.2.2.2.2.2,s.1,s.2.1,s.2.2.1,s.2.2.2.1,s.2.2.2.2.1)⟩
abbrev OK0(k:TK0):Prop:=Ko (gf k)
abbrev TK1:=Ex->Option ln
def kW(k:TK1):aA:=⟨85,[wB],(.cW [aq,aq,aq]),[],λs=>k s⟩
abbrev OK1(k:TK1):Prop:=Ko (kW k)
abbrev TK2:=Int->zb
def xO(k:TK2):aA:=⟨224,[aq],aq,[],λs=>k s⟩
abbrev OK2(k:TK2):Prop:=Ko (xO k)
abbrev TK3:=(Ex×Q1)->zb
def yo(k:TK3):aA:=⟨102,[wB,aY],aq,[],λs=>k (s.1,s.2)⟩
abbrev OK3(k:TK3):Prop:=Ko (yo k)
abbrev TK4:=Q47->Option xa
def pH(k:TK4):bY:=⟨236,[afx,aq,V8],MC,none,false,false,sO,[],λs=>k (s.2.1,s.2.2,s.1)⟩
abbrev OK4(k:TK4):Prop:=Lb (pH k)
abbrev TK5:=Q47->Option Q53
def lV(k:TK5):aA:=⟨236,[afj,aq,V8],sO,[(true,0,agO)],λs=>k (s.2.1,s.2.2,s.1)⟩
abbrev OK5(k:TK5):Prop:=Ko (lV k)
abbrev TK6:=Q41->Option Lo
def tl(k:TK6):aA:=⟨253,[akf,aq,eO],aq,[(true,0,akV)],λs=>k (s.2.2.2.2.2.2.1,s.2.2.2.2.2.2.2,s.1,s.2.1,s.2.2.1,s.2.2.2.1,s.2.2.2.2.1,s.2.2.2.2.2.1)⟩
abbrev OK6(k:TK6):Prop:=Ko (tl k)
abbrev TK7:=Q45->Option (cD×Q1)
def pE(k:TK7):aA:=⟨254,[akx,aq],im,[(true,0,aaa)],λs=>k (s.2.2.2.2.2.2,s.1,s.2.1,s.2.2.1,s.2.2.2.1,s.2.2.2.2.1,s.2.2.2.2.2.1)⟩
abbrev OK7(k:TK7):Prop:=Ko (pE k)
abbrev TK8:=(Ex×Q1)->zb
def lg(k:TK8):aA:=⟨80,[wB,aY],aq,[],λs=>k (s.1,s.2)⟩
abbrev OK8(k:TK8):Prop:=Ko (lg k)
abbrev TK9:=wW->zb
def kU(k:TK9):aA:=⟨83,[wB,aq],aq,[],λs=>k (s.1,s.2)⟩
abbrev OK9(k:TK9):Prop:=Ko (kU k)
abbrev aaU:=wW->zb
def lv(k:aaU):aA:=⟨84,[wB,aq],aq,[],λs=>k (s.1,s.2)⟩
abbrev asT(k:aaU):Prop:=Ko (lv k)
abbrev abT:=wW->x3
def me(k:abT):aA:=⟨59,[wB,aq],.bool,[],λs=>k (s.1,s.2)⟩
abbrev asS(k:abT):Prop:=Ko (me k)
def Kv:aA:=⟨73,[nM],aq,[],λs=>gu s⟩
theorem FM:Ko Kv:=
 aG .o call73 func73 ax
def IM:aA:=⟨74,[],(.own .s 9 true),[],λ_=>sG⟩
theorem Ey:Ko IM:=
 aG .o call74 func74 ax
def GZ:aA:=⟨44,[.str],(.cW [(.own vq 132 true),aq,aq]),[],λs=>gF s⟩
theorem C8:Ko GZ:=
 aG (.c .o (.l ⟨[(false,5,(.own vq 132 true)),(false,6,aq)],[]⟩ (.c (.c .o (.c (.l ⟨[(false,6,aq)],[]⟩ .o) (.c (.l ⟨[(false,6,aq)],[]⟩ .o) (.c (.l ⟨[(false,6,aq),(false,9,aq)],[]⟩ .o) (.l ⟨[(false,11,.str),(false,12,aq)],[]⟩ .o))))) .o))) call44 func44 (aw FM (aw Ey ax))
def FA:aA:=⟨45,[arw,aq,.str],.bool,[],λs=>bU (d8 s).2.1 (d8 s).2.2 s.1 s.2.1 s.2.2.1 s.2.2.2.1 s.2.2.2.2.1 s.2.2.2.2.2.1 s.2.2.2.2.2.2.1 s.2.2.2.2.2.2.2.1 s.2.2.2.2.2.2.2.2.1⟩
theorem iF:Ko FA:=
 aG .o call45 func45 ax
def LN:aA:=⟨77,[.str],.bool,[],λs=>jM s⟩
theorem vI:Ko LN:=
 aG (.s (.s (.s (.j ⟨[(false,4,.bool)],[]⟩ .o .o)))) call77 func77 ax
def CI:aA:=⟨46,[ZI,aq,aq],im,[(true,0,Nk)],λs=>aJ (d8 s).2.1 (d8 s).2.2 s.1 s.2.1 s.2.2.1 s.2.2.2.1 s.2.2.2.2.1 s.2.2.2.2.2.1 s.2.2.2.2.2.2.1 s.2.2.2.2.2.2.2.1 s.2.2.2.2.2.2.2.2.1⟩
theorem cO:Ko CI:=
 aG .o call46 func46 ax
def EZ:aA:=⟨78,[Uv,.str],aq,[],U2 cQ⟩
theorem rC:Ko EZ:=
 aG (.l ⟨[(false,5,aq)],[]⟩ .o) call78 func78 ax
def Dh:aA:=⟨49,[ZI,.bool],.str,[(true,0,ZX)],λs=>gP (d8 s).2 s.1 s.2.1 s.2.2.1 s.2.2.2.1 s.2.2.2.2.1 s.2.2.2.2.2.1 s.2.2.2.2.2.2.1 s.2.2.2.2.2.2.2.1 s.2.2.2.2.2.2.2.2.1⟩
theorem rq:Ko Dh:=
 aG .o call49 func49 (aw vI (aw cO (aw rC ax)))
def CX:aA:=⟨47,[arw],aq,[],U9 bq⟩
theorem gG:Ko CX:=
 aG .o call47 func47 ax
def CU:aA:=⟨50,[ZI,.str],im,[(true,0,ZX)],λs=>bN (d8 s).2 s.1 s.2.1 s.2.2.1 s.2.2.2.1 s.2.2.2.2.1 s.2.2.2.2.2.1 s.2.2.2.2.2.2.1 s.2.2.2.2.2.2.2.1 s.2.2.2.2.2.2.2.2.1⟩
theorem kj:Ko CU:=
 aG .o call50 func50 (aw iF (aw gG (aw cO ax)))
def GP:aA:=⟨113,[aq],.bool,[],λs=>mf s⟩
theorem CH:Ko GP:=
 aG .o call113 func113 ax
def AL:aA:=⟨114,[ag5,aq],VH,[(true,0,(.bx 212 0 true [.same,.same,.same,aq,aq]))],λs=>bF s.2.2.2.2.2 s.1 s.2.1 s.2.2.1 s.2.2.2.1 s.2.2.2.2.1⟩
theorem nH:Ko AL:=
 aG (.c (.r [0] .o) .o) call114 func114 ax
def BB(a:TK0):aA:=⟨115,[ag5,aq],VH,[(true,0,ag7)],λs=>dV a s.2.2.2.2.2 s.1 s.2.1 s.2.2.1 s.2.2.2.1 s.2.2.2.2.1⟩
def yu(g:Ex->Ex)(i:Sh->(R:Type)->Option R->Option R)(l:Q7)(at_:Int)(names:bn)(f:Int)(a:Int)(e:tY)(b:Int->Option fB)(c:Int):Option fB:= bif decide (c<(names.length:Int)) then (idx names c).bind λh=> bif h==e.2.1 then some ((Ex.mk 2 c e.2.2.2 []),(i64.wrap (at_+1)),f,a) else b (i64.wrap (c+1)) else (bF 3 l at_ names f a).bind λd=> some ((g d.1),at_,d.2.1,d.2.2)
def kK(f:Ex->Ex)(B:Sh->(R:Type)->Option R->Option R)(C:Aa->Option fB)(h:Int)(l:Q7)(at_:Int)(names:bn)(d:Int)(c:Int):Option fB:= (idx l at_).bind λb=> bif b.1==2 then some ((Ex.mk 1 b.2.2.1 b.2.2.2 []),(i64.wrap (at_+1)),d,c) else ai (b.1==1) λA=> ai (b.2.1==[116,114,117,101]) λz=> ai (A&&z) λy=> bif y then ( some ((Ex.mk 13 0 b.2.2.2 []),(i64.wrap (at_+1)),d,c)) else ( ai (b.1==1) λx=> ai (b.2.1==[102,97,108,115,101]) λw=> ai (x&&w) λv=> bif v then ( some ((Ex.mk 14 0 b.2.2.2 []),(i64.wrap (at_+1)),d,c)) else ( (jM b.2.1).bind λj=> ai (b.1==1) λu=> ai (!j) λt=> ai (u&&t) λs=> bif s then ( aj (yu f B l at_ names d c b) au 0) else ( ai (b.1 != 3) λr=> ai (b.2.1 != [40]) λq=> ai (r||q) λp=> bif p then ( (bF 2 l at_ names d c).bind λg=> some ((f g.1),at_,g.2.1,g.2.2)) else ( (C (1,h,l,(i64.wrap (at_+1)),names,d,c)).bind λa=> bif a.2.2.1 != 0 then some ((Ex.mk 0 0 0 []),a.2.1,a.2.2.1,a.2.2.2) else (idx l a.2.1).bind λm=> ai (m.1 != 3) λi=> bC (!i) (0,[],0,0) (idx l a.2.1) λk=> ai (k.2.1 != [41]) λo=> ai (i||o) λn=> bif n then ( (bF 2 l a.2.1 names a.2.2.1 a.2.2.2).bind λe=> some ((f e.1),a.2.1,e.2.1,e.2.2)) else ( some ((f a.1),(i64.wrap (a.2.1+1)),a.2.2.1,a.2.2.2))))))
theorem yR(a:TK0)(i0:OK0 a):Ko (BB a):=
 eC (.r [] (.c .o (.c .o (.c .o (.c (.l ⟨[(true,0,(.bx 212 0 true [.same,.same,.same,.same,.same])),(true,4,(.bx 146 0 true [.same,.same,.same,.same])),(false,7,aq)],[]⟩ .o) .o))))) call115 func115 (aw vI (aw nH (aw i0 ax))) ax ax λs=>(show _=kK lC eK a s.2.2.2.2.2 s.1 s.2.1 s.2.2.1 s.2.2.2.1 s.2.2.2.2.1 from by kernel_rfl).trans ((congrArg (λb=>kK b eK a s.2.2.2.2.2 s.1 s.2.1 s.2.2.1 s.2.2.2.1 s.2.2.2.2.1) dX).trans ((congrArg (λd=>kK id d a s.2.2.2.2.2 s.1 s.2.1 s.2.2.1 s.2.2.2.1 s.2.2.2.2.1) fU).trans (by kernel_rfl)))
def LP:aA:=⟨116,[(.dat vq []),aq],aq,[],U2 cV⟩
theorem Ix:Ko LP:=
 aG (.c (.c .o (.c .o (.c .o (.c .o (.c .o (.c (.l ⟨[(false,7,aq)],[]⟩ .o) .o)))))) .o) call116 func116 ax
def ru:aA:=⟨107,[ag5,aq,aq],VH,[(true,0,ag7)],λs=>iC s.2.2.2.2.2.1 s.2.2.2.2.2.2 s.1 s.2.1 s.2.2.1 s.2.2.2.1 s.2.2.2.2.1⟩
def xE(f:Ex->Ex)(j:Sh->(R:Type)->Option R->Option R)(i:Aa->Option fB)(l:Q7)(at_:Int)(names:bn)(g:Int)(b:Int)(a:Int)(h:tY)(e:Int):Option fB:= bif e==0 then (i (7,a,l,at_,names,g,b)).bind λd=> some ((f d.1),d.2.1,d.2.2.1,d.2.2.2) else (i (6,a,l,(i64.wrap (at_+1)),names,g,b)).bind λc=> some ((Ex.mk e 0 h.2.2.2 ([(f c.1)]:List Ex)),c.2.1,c.2.2.1,c.2.2.2)
def xr(g:Ex->Ex)(m:Sh->(R:Type)->Option R->Option R)(n:Aa->Option fB)(l:Q7)(at_:Int)(names:bn)(h:Int)(c:Int)(a:Int)(d:tY)(f:Int):Option fB:= ai (λ(e:Int)=>xE g m n l at_ names h c a d e) λb=> ai (d.1==1) λk=> ai (d.2.1==[71]) λj=> ai (k&&j) λi=> bif i then ( b 22) else ( b f)
def xu(g:Ex->Ex)(m:Sh->(R:Type)->Option R->Option R)(n:Aa->Option fB)(l:Q7)(at_:Int)(names:bn)(h:Int)(c:Int)(a:Int)(d:tY)(f:Int):Option fB:= ai (λ(e:Int)=>xr g m n l at_ names h c a d e) λb=> ai (d.1==1) λk=> ai (d.2.1==[70]) λj=> ai (k&&j) λi=> bif i then ( b 21) else ( b f)
def xw(g:Ex->Ex)(m:Sh->(R:Type)->Option R->Option R)(n:Aa->Option fB)(l:Q7)(at_:Int)(names:bn)(h:Int)(c:Int)(a:Int)(d:tY)(f:Int):Option fB:= ai (λ(e:Int)=>xu g m n l at_ names h c a d e) λb=> ai (d.1==1) λk=> ai (d.2.1==[88]) λj=> ai (k&&j) λi=> bif i then ( b 20) else ( b f)
def xv(p:Ex->Ex)(w:Sh->(R:Type)->Option R->Option R)(v:Aa->Option fB)(a:Int)(l:Q7)(names:bn)(m:Int)(o:(Int×Int×Int×Int×Int×Int×(List Ex))->Option fB):Int×Int×Int×Int×Int×Int×(List Ex)->Option fB:=λ⟨h,g,n,f,e,d,c⟩=> bif g==0 then (idx l h).bind λk=> (cV k a).bind λj=> bif j==0 then some ((Ex.mk f e d c),h,g,n) else ai (a==1) λu=> ai (a==2) λt=> ai (u||t) λs=> ai (a==5) λr=> ai (s||r) λq=> bif q then ( (v (a,m,l,(i64.wrap (h+1)),names,g,n)).bind λi=> some ((Ex.mk j 0 k.2.2.2 ([(Ex.mk f e d c),(p i.1)]:List Ex)),i.2.1,i.2.2.1,i.2.2.2)) else ( (v ((i64.wrap (a+1)),m,l,(i64.wrap (h+1)),names,g,n)).bind λb=> bif a==7 then some ((Ex.mk j 0 k.2.2.2 ([(Ex.mk f e d c),(p b.1)]:List Ex)),b.2.1,b.2.2.1,b.2.2.2) else o (b.2.1,b.2.2.1,b.2.2.2,j,0,k.2.2.2,([(Ex.mk f e d c),(p b.1)]:List Ex))) else some ((Ex.mk f e d c),h,g,n)
def xB(h:Ex->Ex)(y:Sh->(R:Type)->Option R->Option R)(q:Aa->Option fB)(a:Int)(l:Q7)(at_:Int)(names:bn)(i:Int)(d:Int)(s:Bool)(b:Int):Option fB:= ai (decide (320<b)) λx=> ai (s&&x) λw=> bif w then ( (bF 9 l at_ names i d).bind λk=> some ((h k.1),at_,k.2.1,k.2.2)) else ( (idx l at_).bind λg=> bif a==6 then ai (λ(r:Int)=>xw h y q l at_ names i d b g r) λj=> ai (g.1==3) λv=> ai (g.2.1==[33]) λu=> ai (v&&u) λt=> bif t then ( j 15) else ( j 0) else bif a==10 then ai (g.1 != 3) λp=> ai (g.2.1 != [45]) λo=> ai (p||o) λm=> bif m then ( (dV q b l at_ names i d).bind λf=> some ((h f.1),f.2.1,f.2.2.1,f.2.2.2)) else ( (q (10,b,l,(i64.wrap (at_+1)),names,i,d)).bind λe=> some ((Ex.mk 6 0 g.2.2.2 ([(h e.1)]:List Ex)),e.2.1,e.2.2.1,e.2.2.2)) else (q ((i64.wrap (a+1)),b,l,at_,names,i,d)).bind λc=> aj (xv h y q a l names b) au (c.2.1,c.2.2.1,c.2.2.2,c.1.op,c.1.n,c.1.at_,c.1.l))
def jy(h:Ex->Ex)(i:Sh->(R:Type)->Option R->Option R)(j:Aa->Option fB)(a:Int)(d:Int)(l:Q7)(at_:Int)(names:bn)(e:Int)(b:Int):Option fB:= bif e != 0 then some ((Ex.mk 0 0 0 []),at_,e,b) else (mf a).bind λg=> ai (λ(f:Int)=>xB h i j a l at_ names e b g f) λc=> bif g then ( c (i64.wrap (d+1))) else ( c d)
def pR:TK0->TK0:=λa s=>dq a s.1 s.2.1 s.2.2.1 s.2.2.2.1 s.2.2.2.2.1 s.2.2.2.2.2.1 s.2.2.2.2.2.2
theorem vD(a:TK0)(i0:OK0 a):(gf (pR a)).Ok X0.P X0.Γ:=
 eC (.c .o (.s (.j ⟨[(false,2,aq)],[]⟩ .o (.c .o (.r [] (.c (.s (.j ⟨[(false,9,aq)],[]⟩ .o (.j ⟨[(false,9,aq)],[]⟩ .o (.j ⟨[(false,9,aq)],[]⟩ .o (.j ⟨[(false,9,aq)],[]⟩ .o .o))))) (.c .o (.l ⟨[(true,0,ag7),(true,6,(.bx 146 0 true [.same,.same,.same,.same])),(true,12,(.bx 146 0 true [aq,aq,aq,(.own .ex 146 true)]))],[]⟩ .o)))))))) call107 func107 (aw CH (aw nH (aw i0 (aw (yR a i0) (aw Ix ax))))) ax ax λs=>(show _=jy lC eK a s.2.2.2.2.2.1 s.2.2.2.2.2.2 s.1 s.2.1 s.2.2.1 s.2.2.2.1 s.2.2.2.2.1 from by kernel_rfl).trans ((congrArg (λb=>jy b eK a s.2.2.2.2.2.1 s.2.2.2.2.2.2 s.1 s.2.1 s.2.2.1 s.2.2.2.1 s.2.2.2.2.1) dX).trans ((congrArg (λd=>jy id d a s.2.2.2.2.2.1 s.2.2.2.2.2.2 s.1 s.2.1 s.2.2.1 s.2.2.2.1 s.2.2.2.2.1) fU).trans (by kernel_rfl)))
theorem xy:Ko ru:=(show ru=gf (aj (pR) au) by kernel_rfl)▸n3 (X:=X0) (E:=gf) ⟨call107,λ_ _ h=>nomatch h⟩ (vD) au
def E8:aA:=⟨98,[(.own vq 132 false),aq,Uv],(.cW [VH,aq,aq,aq]),[],U3 fz⟩
def ni(b:Ex->Ex)(c:Sh->(R:Type)->Option R->Option R)(l:Q7)(at_:Int)(names:bn):Option fB:= (iC 1 0 l at_ names 0 0).bind λa=> bif a.2.2.1 != 0 then some ((Ex.mk 0 0 0 []),0,a.2.2.1,a.2.2.2) else some ((b a.1),a.2.1,0,0)
theorem Bs:Ko E8:=
 eC (.c (.r [6] .o) (.r [6] .o)) call98 func98 (aw xy ax) ax ax λs=>(show _=ni lC eK s.1 s.2.1 s.2.2 from by kernel_rfl).trans ((congrArg (λa=>ni a eK s.1 s.2.1 s.2.2) dX).trans ((congrArg (λb=>ni id b s.1 s.2.1 s.2.2) fU).trans (by kernel_rfl)))
def xU:aA:=⟨85,[wB],(.cW [aq,aq,aq]),[],λs=>dQ s⟩
def FE(j:Ex->Ex)(H:Sh->(R:Type)->Option R->Option R)(G:Ex->Option ln)(e:Ex)(f:Ge->Option ln):Int×Int×Int×Int->Option ln:=λ⟨a,b,c,h⟩=> bif decide (h<(List.length e.l:Int)) then (idx e.l h).bind λk=> (G (j k)).bind λd=> bif d.2.1 != 0 then some (0,d.2.1,d.2.2) else ai (λ(i:Int)=>p6 b c h f d i) λg=> bif d.1==1 then g (i64.wrap (a+1)) else g a else ai (decide (e.op<=6)) λF=> ai (a==(List.length e.l:Int)) λE=> ai (F&&E) λD=> bif D then ( some (1,0,0)) else ( ai (decide (7<=e.op)) λC=> ai (decide (e.op<=12)) λB=> ai (C&&B) λA=> ai (a==(List.length e.l:Int)) λz=> ai (A&&z) λy=> ai (e.op==13) λx=> ai (y||x) λw=> ai (e.op==14) λv=> ai (w||v) λu=> bif u then ( some (2,0,0)) else ( ai (decide (15<=e.op)) λt=> ai (decide (e.op<=19)) λs=> ai (t&&s) λr=> ai (b==(List.length e.l:Int)) λq=> ai (r&&q) λp=> bif p then ( some (2,0,0)) else ( ai (decide (15<=e.op)) λo=> ai ((i64.wrap (b+c))==(List.length e.l:Int)) λn=> ai (o&&n) λm=> bif m then ( some (3,0,0)) else ( some (0,4,e.at_)))))
def oV(a:Ex->Ex)(c:Sh->(R:Type)->Option R->Option R)(b:Ex->Option ln)(e:Ex):Option ln:= aj (FE a c b e) au (0,0,0,0)
def x9:TK1->TK1:=λk1 s=>jF k1 s
theorem Da(k1:TK1)(b:OK1 k1):(kW (x9 k1)).Ok X0.P X0.Γ:=
 eC (.l ⟨[(false,5,aq),(false,6,aq),(false,7,aq),(false,8,aq)],[]⟩ (.c (.c .o (.j ⟨[(false,5,aq)],[]⟩ .o (.j ⟨[(false,6,aq)],[]⟩ .o .o))) .o)) call85 func85 (aw b ax) ax ax λs=>(show _=oV lC eK k1 s from by kernel_rfl).trans ((congrArg (λa=>oV a eK k1 s) dX).trans ((congrArg (λd=>oV id d k1 s) fU).trans (by kernel_rfl)))
theorem uT:Ko xU:=(show xU=kW (aj (x9) au) by kernel_rfl)▸n3 (X:=X0) (E:=kW) ⟨call85,λ_ _ h=>nomatch h⟩ (Da) au
def FU:aA:=⟨85,[(.dat .ex [some 292])],(.cW [aq,aq,aq]),[],λs=>iY s⟩
def Cm(j:Ex->Ex)(G:Sh->(R:Type)->Option R->Option R)(e:Ex)(f:Ge->Option ln):Int×Int×Int×Int->Option ln:=λ⟨a,b,c,h⟩=> bif decide (h<(List.length e.l:Int)) then (idx e.l h).bind λk=> (dQ (j k)).bind λd=> bif d.2.1 != 0 then some (0,d.2.1,d.2.2) else ai (λ(i:Int)=>tU b c h f d i) λg=> bif d.1==1 then g (i64.wrap (a+1)) else g a else ai (decide (e.op<=6)) λF=> ai (a==(List.length e.l:Int)) λE=> ai (F&&E) λD=> bif D then ( some (1,0,0)) else ( ai (decide (7<=e.op)) λC=> ai (decide (e.op<=12)) λB=> ai (C&&B) λA=> ai (a==(List.length e.l:Int)) λz=> ai (A&&z) λy=> ai (e.op==13) λx=> ai (y||x) λw=> ai (e.op==14) λv=> ai (w||v) λu=> bif u then ( some (2,0,0)) else ( ai (decide (15<=e.op)) λt=> ai (decide (e.op<=19)) λs=> ai (t&&s) λr=> ai (b==(List.length e.l:Int)) λq=> ai (r&&q) λp=> bif p then ( some (2,0,0)) else ( ai (decide (15<=e.op)) λo=> ai ((i64.wrap (b+c))==(List.length e.l:Int)) λn=> ai (o&&n) λm=> bif m then ( some (3,0,0)) else ( some (0,4,e.at_)))))
def nS(a:Ex->Ex)(b:Sh->(R:Type)->Option R->Option R)(e:Ex):Option ln:= aj (Cm a b e) au (0,0,0,0)
theorem Ce:Ko FU:=
 eC (.l ⟨[(false,5,aq),(false,6,aq),(false,7,aq),(false,8,aq)],[]⟩ (.c (.c .o (.j ⟨[(false,5,aq)],[]⟩ .o (.j ⟨[(false,6,aq)],[]⟩ .o .o))) .o)) call85 func85 (aw uT ax) ax ax λs=>(show _=nS lC eK s from by kernel_rfl).trans ((congrArg (λa=>nS a eK s) dX).trans ((congrArg (λb=>nS id b s) fU).trans (by kernel_rfl)))
def xD:aA:=⟨79,[ZI,aq],VH,[(true,0,ZX)],λs=>cF (d8 s).2 s.1 s.2.1 s.2.2.1 s.2.2.2.1 s.2.2.2.2.1 s.2.2.2.2.2.1 s.2.2.2.2.2.2.1 s.2.2.2.2.2.2.2.1 s.2.2.2.2.2.2.2.2.1⟩
def vl(b:Ex->Ex)(e:Sh->(R:Type)->Option R->Option R)(a:fB)(d:Int)(c:Int):Option fB:= some ((b a.1),a.2.1,d,c)
def jh(p:Ex->Ex)(q:Sh->(R:Type)->Option R->Option R)(j:Int)(l:Q7)(at_:Int)(c:bn)(b:Q4)(h:Q1)(d:bn)(aT:Q5)(f:Int)(a:Int):Option fB:= bif f != 0 then some ((Ex.mk 0 0 0 []),at_,f,a) else (fz l at_ c).bind λe=> bif e.2.2.1 != 0 then (aJ e.2.2.1 e.2.2.2 l at_ c b h d aT f a).bind λo=> some ((Ex.mk 0 0 0 []),at_,o.1,o.2) else (iY (p e.1)).bind λi=> ai (λ(k:Int×Int)=>vl p q e k.1 k.2) λg=> bif i.2.1 != 0 then (aJ i.2.1 i.2.2 l at_ c b h d aT f a).bind λn=> g (n.1,n.2) else bif i.1 != j then (aJ 4 e.1.at_ l at_ c b h d aT f a).bind λm=> g (m.1,m.2) else g (f,a)
theorem vm:Ko xD:=
 eC (.c .o (.r [0,40000] (.c .o (.s (.j ⟨[(true,0,Nk)],[]⟩ .o .o))))) call79 func79 (aw Bs (aw cO (aw Ce ax))) ax ax λs=>(show _=jh lC eK (d8 s).2 s.1 s.2.1 s.2.2.1 s.2.2.2.1 s.2.2.2.2.1 s.2.2.2.2.2.1 s.2.2.2.2.2.2.1 s.2.2.2.2.2.2.2.1 s.2.2.2.2.2.2.2.2.1 from by kernel_rfl).trans ((congrArg (λa=>jh a eK (d8 s).2 s.1 s.2.1 s.2.2.1 s.2.2.2.1 s.2.2.2.2.1 s.2.2.2.2.2.1 s.2.2.2.2.2.2.1 s.2.2.2.2.2.2.2.1 s.2.2.2.2.2.2.2.2.1) dX).trans ((congrArg (λb=>jh id b (d8 s).2 s.1 s.2.1 s.2.2.1 s.2.2.2.1 s.2.2.2.2.1 s.2.2.2.2.2.1 s.2.2.2.2.2.2.1 s.2.2.2.2.2.2.2.1 s.2.2.2.2.2.2.2.2.1) fU).trans (by kernel_rfl)))
def AX:aA:=⟨51,[(.bx 130 0 true [(.own vq 132 false),aq,Uv,(.own lB 112 false),Z5,Uv,(.own BY 180 true),aq,aq])],im,[(true,0,aqY)],U9 iE⟩
def xx(k:Ex->Ex)(p:Sh->(R:Type)->Option R->Option R)(l:Q7)(e:bn)(b:Q4)(f:Q1)(d:bn)(aT:Q5)(j:Ue)(c:WV->Option uU)(i:Int)(o:Int)(n:Int)(m:Int):Option uU:= (bN [61] l m e b f d aT o n).bind λh=> (cF 1 l h.1 e b f d aT h.2.1 h.2.2).bind λa=> aN (aH (List.length j+List.length ([(i,(k a.1))]:List (Int×Ex))) 56)<| (bU 3 [44] l a.2.1 e b f d aT a.2.2.1 a.2.2.2).bind λg=> bif g then ( c ((i64.wrap (a.2.1+1)),a.2.2.1,a.2.2.2,(j++([(i,(k a.1))]:List (Int×Ex))),g)) else ( c (a.2.1,a.2.2.1,a.2.2.2,(j++([(i,(k a.1))]:List (Int×Ex))),g))
def xG(m:Ex->Ex)(o:Sh->(R:Type)->Option R->Option R)(l:Q7)(e:bn)(b:Q4)(h:Q1)(d:bn)(aT:Q5)(g:Int)(k:Ue)(a:WV->Option uU)(j:Int)(f:Int)(n:Int):Option uU:= ai (λ(i:Int)=>xx m o l e b h d aT k a j f n i) λc=> bif f==0 then c (i64.wrap (g+1)) else c g
def xA(v:Ex->Ex)(z:Sh->(R:Type)->Option R->Option R)(l:Q7)(d:bn)(b:Q4)(h:Q1)(c:bn)(aT:Q5)(r:Int)(q:Int)(p:Int)(m:Ue)(g:WV->Option uU)(o:tY)(k:Int)(f:D7->Option uU):Bool×Int->Option uU:=λ⟨a,n⟩=> bif decide (n<(m.length:Int)) then bC (!a) (0,(Ex.mk 0 0 0 [])) (idx m n) λw=> ai (w.1==k) λy=> ai (a||y) λx=> f (x,(i64.wrap (n+1))) else ai (λ(s:Int×Int)=>xG v z l d b h c aT r m g k s.1 s.2) λe=> bif o.1 != 1 then (aJ 2 o.2.2.2 l r d b h c aT q p).bind λj=> e (j.1,j.2) else ai (decide (k<0)) λu=> ai (u||a) λt=> bif t then ( (aJ 3 o.2.2.2 l r d b h c aT q p).bind λi=> e (i.1,i.2)) else ( e (q,p))
def xt(i:Ex->Ex)(s:Sh->(R:Type)->Option R->Option R)(l:Q7)(b:bn)(c:Q4)(g:Q1)(a:bn)(aT:Q5)(m:fB)(e:WV->Option uU):Int×Int×Int×Ue×Bool->Option uU:=λ⟨k,j,o,h,f⟩=> ai (j==0) λr=> ai (f&&r) λq=> bif q then ( (idx l k).bind λn=> (cQ b n.2.1).bind λp=> aj (xA i s l b c g a aT k j o h e n p) au (false,0)) else ( (bN [59] l k b c g a aT j o).bind λd=> aN (aH (List.length aT+List.length ([((i64.wrap ((a.length:Int)-1)),(i m.1),h)]:List Q52)) 80)<| some (d.1,(aT++([((i64.wrap ((a.length:Int)-1)),(i m.1),h)]:List Q52)),d.2.1,d.2.2))
def xC(g:Ex->Ex)(j:Sh->(R:Type)->Option R->Option R)(l:Q7)(at_:Int)(c:bn)(a:Q4)(d:Q1)(b:bn)(aT:Q5)(i:Int)(h:Int):Option uU:= (cF 2 l at_ c a d b aT i h).bind λe=> (bN [58] l e.2.1 c a d b aT e.2.2.1 e.2.2.2).bind λf=> aj (xt g j l c a d b aT e) au (f.1,f.2.1,f.2.2,[],true)
def kl(k:Ex->Ex)(m:Sh->(R:Type)->Option R->Option R)(l:Q7)(at_:Int)(d:bn)(a:Q4)(f:Q1)(c:bn)(aT:Q5)(i:Int)(b:Int):Option uU:= ai (λ(g:Int×Int)=>xC k m l at_ d a f c aT g.1 g.2) λe=> bif decide (256<=(aT.length:Int)) then (bq l at_ d a f c aT i b).bind λj=> (aJ 9 j l at_ d a f c aT i b).bind λh=> e (h.1,h.2) else e (i,b)
theorem xz:Ko AX:=
 eC (.j ⟨[(true,0,Nk)],[]⟩ .o (.l ⟨[(true,0,ZX),(true,2,(.bx 180 0 true [.same,.same,.same,.same,.same,(.own (.p bf .ex) 183 true)])),(false,3,.bool)],[]⟩ (.c (.r [] (.r [0] (.l ⟨[(false,6,.bool),(false,7,aq)],[]⟩ (.c .o (.j ⟨[(true,0,Nk)],[4]⟩ .o (.j ⟨[(true,0,amC)],[]⟩ .o .o)))))) (.r [0,2] .o)))) call51 func51 (aw vm (aw kj (aw rC (aw iF (aw cO (aw gG ax)))))) ax ax λs=>(show _=kl lC eK s.1 s.2.1 s.2.2.1 s.2.2.2.1 s.2.2.2.2.1 s.2.2.2.2.2.1 s.2.2.2.2.2.2.1 s.2.2.2.2.2.2.2.1 s.2.2.2.2.2.2.2.2 from by kernel_rfl).trans ((congrArg (λa=>kl a eK s.1 s.2.1 s.2.2.1 s.2.2.2.1 s.2.2.2.2.1 s.2.2.2.2.2.1 s.2.2.2.2.2.2.1 s.2.2.2.2.2.2.2.1 s.2.2.2.2.2.2.2.2) dX).trans ((congrArg (λb=>kl id b s.1 s.2.1 s.2.2.1 s.2.2.2.1 s.2.2.2.2.1 s.2.2.2.2.2.1 s.2.2.2.2.2.2.1 s.2.2.2.2.2.2.2.1 s.2.2.2.2.2.2.2.2) fU).trans (by kernel_rfl)))
def Bq:aA:=⟨75,[ZI],aq,[(true,0,ZX)],U9 dW⟩
theorem yL:Ko Bq:=
 aG (.s (.s (.j ⟨[(true,0,amC)],[]⟩ .o (.r [] (.j ⟨[(true,0,Nk)],[]⟩ .o .o))))) call75 func75 (aw iF (aw cO ax))
def H8:aA:=⟨76,[jT],.bool,[],λs=>nu s⟩
theorem Ew:Ko H8:=
 aG (.c .o (.l ⟨[(false,3,aq)],[]⟩ .o)) call76 func76 ax
def yW:aA:=⟨48,[(.bx 130 0 true [(.own vq 132 false),aq,(.own .s 9 true),(.own lB 112 true),lE,Uv,(.own BY 180 false),aq,aq])],im,[(true,0,aqO)],U9 ia⟩
theorem wN:Ko yW:=
 aG (.s (.s (.s (.s (.s (.s (.s (.s (.j ⟨[(true,0,Nk)],[]⟩ .o (.r [0] .o)))))))))) call48 func48 (aw rq (aw gG (aw yL (aw kj (aw Ew (aw cO ax))))))
def IG:aA:=⟨26,[.str],(.cW [alL,aq,aq]),[],λs=>fF s⟩
theorem EC:Ko IG:=
 aG (.c .o (.l ⟨[(true,8,(.bx 130 0 true [.same,aq,(.own .s 9 true),(.own lB 112 true),lE,(.own .s 9 true),(.own BY 180 true),aq,aq]))],[]⟩ (.c (.s (.s (.j ⟨[(true,8,Nk)],[]⟩ .o (.j ⟨[(true,8,amC)],[]⟩ .o (.j ⟨[(true,8,aqO)],[]⟩ .o (.c (.l ⟨[(true,8,aqY),(false,12,.bool)],[]⟩ .o) .o)))))) (.j ⟨[(true,8,Nk)],[]⟩ .o (.c (.r [2] .o) .o))))) call26 func26 (aw C8 (aw iF (aw rq (aw kj (aw xz (aw wN (aw gG (aw cO ax))))))))
def Mc:aA:=⟨12,[.str],(.cW [alL,.bool]),[],λs=>nn s⟩
theorem wS:Ko Mc:=
 aG .o call12 func12 (aw EC ax)
def O4:aA:=⟨62,[(.dat lB [])],.bool,[],λs=>sW s⟩
theorem Kn:Ko O4:=
 aG .o call62 func62 ax
def NG:aA:=⟨61,[jT,(.fn 62 [] [])],(.own .bo 4 true),[],λs=>rS s⟩
theorem IV:Ko NG:=
 aG (.l ⟨[(true,5,(.own .bo 4 true)),(false,13,aq)],[]⟩ .o) call61 func61 (aw Kn ax)
def Fp:aA:=⟨86,[(.sli .bo),.bool],aq,[],U2 oU⟩
theorem BT:Ko Fp:=
 aG (.l ⟨[(false,8,aq)],[]⟩ .o) call86 func86 ax
def BI:aA:=⟨60,[(.sli .bo),.bool],.bool,[],U2 iZ⟩
theorem xP:Ko BI:=
 aG .o call60 func60 (aw BT ax)
def Wa:aA:=⟨36,[jT],.bool,[],λs=>tR s⟩
theorem Cv:Ko Wa:=
 aG .o call36 func36 (aw IV (aw xP ax))
def vz:aA:=⟨37,[jT],(.own lB 112 true),[],λs=>cK s⟩
def ve(s:Q4):Option Q4:= AA s ( some []) ( aN (aH (List.length ([]:List jl)+List.length s) 16)<| some (([]:List jl)++s))
theorem kq:Ko vz:=
 eC .o call37 func37 ax ax ax λs=>(show _=ve s from by kernel_rfl).trans od
def Xr:aA:=⟨22,[sJ,pc],(.cW [(.own lB 112 true),aq]),[],U2 vM⟩
theorem QU:Ko Xr:=
 aG (.c .o (.r [40000] .o)) call22 func22 (aw Cv (aw kq ax))
def XI:aA:=⟨38,[],(.sli .n),[],λ_=>ct⟩
theorem Fk:Ko XI:=
 aG .o call38 func38 ax
def PN:aA:=⟨166,[aq],(.cW [(.dat gO [some 149,some 7]),aq]),[],λs=>oF s⟩
theorem Al:Ko PN:=
 aG .o call166 func166 ax
def afT:aA:=⟨161,[aq],(.cW [(.dat (.p gO lS) [some 149,some 7,some 11]),aq]),[],λs=>JY s⟩
theorem XM:Ko afT:=
 aG .o call161 func161 (aw Al ax)
def LL:aA:=⟨155,[pM,pz,Rt],(.cW [(.dat Sk [none,some 149,some 7,some 11,none,none,none,none,none,none,none,none,none,none,none,none,none,none,none]),aq]),[],U3 jI⟩
theorem Hn:Ko LL:=
 aG .o call155 func155 (aw XM ax)
def KG:aA:=⟨201,[jT,aq],(.cW [(.dat aac [some 147,some 149,some 7,some 11]),aq]),[],U2 Jm⟩
def XC(f:Nat)(s:Q4)(most:Int)(e:(Q6×Int))(a:((List Q6)×Int)->Option (Af×Int)):(List Q6)×Int->Option (Af×Int):=λ⟨b,c⟩=> bif decide (c<(i64.wrap (Int.tdiv (i64.wrap ((i64.wrap ((s.length:Int)+2))-1)) 2))) then (oF most).bind λd=> aN (aH (List.length b+List.length ([d.1]:List Q6)) 56)<| a ((b++([d.1]:List Q6)),(i64.wrap (c+1))) else some ((b,e.1,[]),0)
def ae7(fl:Nat)(s:Q4)(most:Int):Option (Af×Int):= (oF most).bind λa=> bif a.2 != 0 then some (([],(0,[],[]),[]),a.2) else aj (XC fl s most a) fl ([],0)
theorem UE(fl:Nat)(s:fN (rR KG.ps)):Zj { X0 with fl:=fl } [PN] [] [] (.c .o (.l ⟨[(true,4,agR),(true,8,ahb),(false,27,aq)],[]⟩ .o)) Tryz.f201 KG s=ae7 fl s.1 s.2:=by kernel_rfl
theorem Xx:Ko KG:=
 eC (.c .o (.l ⟨[(true,4,agR),(true,8,ahb),(false,27,aq)],[]⟩ .o)) call201 func201 (aw Al ax) ax ax λs=>(UE au s).trans (by kernel_rfl)
def Kf:aA:=⟨195,[pM,pz,Rt],(.cW [(.dat Sk [none,none,none,none,some 147,some 149,some 7,some 11,none,none,none,none,none,none,none,none,none,none,none]),aq]),[],U3 iU⟩
theorem FO:Ko Kf:=
 aG .o call195 func195 (aw Xx ax)
def acW:aA:=⟨223,[aq],(.cW [(.dat gO [some 149,some 7]),aq]),[],λs=>NC s⟩
theorem VL:Ko acW:=
 aG .o call223 func223 (aw Al ax)
def Pz:aA:=⟨224,[aq],aq,[],λs=>wQ s⟩
def Pb:TK2->TK2:=λa s=>sA a s
theorem Qq(a:TK2)(b:OK2 a):(xO (Pb a)).Ok X0.P X0.Γ:=
 aG .o call224 func224 (aw b ax)
theorem As:Ko Pz:=(show Pz=xO (aj (Pb) au) by kernel_rfl)▸n3 (X:=X0) (E:=xO) ⟨call224,λ_ _ h=>nomatch h⟩ (Qq) au
def afN:aA:=⟨219,[jT,aq],(.cW [(.dat Zg [some 541,some 11]),aq]),[],U2 KU⟩
theorem Yf:Ko afN:=
 aG (.c .o (.r [30000,20006] (.l ⟨[(true,4,(.bx 82 0 true [.same,.same])),(true,8,(.bx 82 0 true [(.own gO 270 true),.same])),(false,23,aq)],[]⟩ .o))) call219 func219 (aw VL (aw As ax))
def Ji:aA:=⟨213,[pM,pz,Rt],(.cW [(.dat Sk [none,none,none,none,none,none,none,none,some 541,some 11,none,none,none,none,none,none,none,none,none]),aq]),[],U3 iW⟩
theorem FH:Ko Ji:=
 aG .o call213 func213 (aw Yf ax)
def acJ:aA:=⟨185,[JE],aq,[],λs=>BD s⟩
theorem I8:Ko acJ:=
 aG (.l ⟨[(false,0,JE),(false,3,aq)],[]⟩ .o) call185 func185 ax
def NP:aA:=⟨177,[(.dat lB [])],aq,[],λs=>kh s⟩
theorem IT:Ko NP:=
 aG .o call177 func177 (aw I8 ax)
def OJ:aA:=⟨176,[jT,(.fn 177 [] [])],lE,[],λs=>oQ s⟩
theorem xX:Ko OJ:=
 aG (.l ⟨[(true,5,lE),(false,13,aq)],[]⟩ .o) call176 func176 (aw IT ax)
def XJ:aA:=⟨188,[jT],aq,[],λs=>Bf s⟩
theorem Qd:Ko XJ:=
 aG (.l ⟨[(false,3,aq),(false,9,aq)],[]⟩ .o) call188 func188 (aw xX ax)
def Vl:aA:=⟨179,[jT],aq,[],λs=>p8 s⟩
theorem Cr:Ko Vl:=
 aG .o call179 func179 (aw Qd ax)
def aix:aA:=⟨246,[aq],(.cW [(.dat AT [some 547,some 7]),aq]),[],λs=>Oo s⟩
theorem Y7:Ko aix:=
 aG .o call246 func246 ax
def LB:aA:=⟨240,[pM,pz,Rt],KO,[],U3 gT⟩
theorem G2:Ko LB:=
 aG (.c .o (.l ⟨[(true,4,(.bx 91 0 true [.same,.same,.same,.same,.same,.same,.same,.same,.same,.same,.same,.same,.same,.same,aq,(.sli tW),aq,aq,aY,aq,(.sli tW),aq,aq,aY,aq,(.sli tW),aq,aq,aY,.same,.same,.same,.same,.same,.same])),(true,6,(.bx 91 0 true [.same,.same,.same,.same,.same,.same,.same,.same,.same,.same,.same,.same,.same,.same,.same,.same,.same,.same,.same,.same,.same,.same,.same,.same,.same,.same,.same,.same,.same,.same,.same,.same,.same,.same,.same])),(false,18,aq)],[]⟩ .o)) call240 func240 (aw Cr (aw Y7 ax))
def aeT:aA:=⟨280,[aq,aq,JE],(.cW [(.dat Hz [some 11,some 11,some 11]),aq]),[],U3 JM⟩
theorem Xs:Ko aeT:=
 aG (.c .o (.l ⟨[(true,6,(.bx 89 0 true [.same,.same,.same,.same,.same,.same])),(true,8,(.bx 89 0 true [.same,.same,.same,jm,jm,jm])),(false,29,aq)],[]⟩ .o)) call280 func280 ax
def Lu:aA:=⟨274,[pM,pz,Rt],KO,[],U3 lN⟩
theorem Hv:Ko Lu:=
 aG .o call274 func274 (aw Xs ax)
def acZ:aA:=⟨23,[jT,Rt],KO,[],U2 gh⟩
theorem Va:Ko acZ:=
 aG (.r [] (.c .o (.r [3,40000] .o))) call23 func23 (aw Cv (aw Fk (aw kq (aw Hn (aw FO (aw FH (aw G2 (aw Hv ax))))))))
def acs:aA:=⟨63,[pc,aY,aY],(.fn 87 [] [Yx,(.bx 26 0 true [(.sli (.l .ex)),(.sli tf),aY,(.sli tf)]),Yx]),[],U3 BQ⟩
theorem Ig:Ko acs:=
 aG .o call63 func63 ax
def abG:aA:=⟨109,[.bool],aq,[],λs=>xK s⟩
theorem Rv:Ko abG:=
 aG .o call109 func109 ax
def O8:aA:=⟨102,[wB,aY],aq,[],U2 ry⟩
def VA(s:Ex->Ex)(z:Sh->(R:Type)->Option R->Option R)(y:(Ex×Q1)->zb)(e:Ex)(q:Q1)(b:ln->zb):Int×Int×Int->zb:=λ⟨a,c,d⟩=> bif decide (d<(List.length (aV e.l 0 (min (List.length e.l:Int) 2)):Int)) then (idx (aV e.l 0 (min (List.length e.l:Int) 2)) d).bind λu=> (y ((s u),q)).bind λk=> bif d==0 then b (k,c,(i64.wrap (d+1))) else bif d==1 then b (a,k,(i64.wrap (d+1))) else none else ai (λ(j:Int×Int×Bool)=>EL j.1 j.2.1 j.2.2) λp=> ai (λ(i:Int×Int×Bool)=>Ff i.1 i.2.1 i.2.2) λo=> ai (λ(h:Int×Int×Bool)=>DY h.1 h.2.1 h.2.2) λg=> bif e.op==1 then some e.n else bif e.op==2 then ai (decide (e.n<0)) λCy=> ai (decide ((q.length:Int)<=e.n)) λw=> ai (Cy||w) λv=> bif v then ( some 0) else ( (idx q e.n).bind λt=> some t) else bif e.op==3 then some (i64.wrap (a+c)) else bif e.op==5 then some (i64.wrap (a*c)) else bif e.op==6 then some (i64.wrap (0-a)) else bif e.op==4 then some (i64.wrap (a-c)) else bif e.op==8 then g (a,c,true) else ai (λ(x:Unit)=>Ep e a c p o) λm=> ai (λ(r:Bool)=>Ee a c g m r) λf=> bif e.op==7 then f (e.op==7) else f (e.op==19)
def BZ(a:Ex->Ex)(d:Sh->(R:Type)->Option R->Option R)(c:(Ex×Q1)->zb)(e:Ex)(b:Q1):zb:= aN (cZ 0 (min (List.length e.l:Int) 2) (List.length e.l))<| aj (VA a d c e b) au (0,0,0)
def PD:TK3->TK3:=λa s=>vH a s.1 s.2
theorem Qz(a:TK3)(d:OK3 a):(yo (PD a)).Ok X0.P X0.Γ:=
 eC (.l ⟨[(true,5,(.bx 215 0 true [aq,aq])),(false,19,aq)],[]⟩ (.c .o (.r [] (.s (.s (.s (.s (.s (.s (.s (.s (.j ⟨[(false,8,aq),(false,9,aq),(false,10,.bool)],[2]⟩ (.s (.j ⟨[(false,8,aq),(false,9,aq),(false,10,.bool)],[2]⟩ (.s (.j ⟨[(false,8,aq),(false,9,aq),(false,10,.bool)],[2]⟩ (.c .o (.c .o (.c .o (.c .o (.c .o (.c .o (.c .o (.j ⟨[],[]⟩ (.j ⟨[(false,50,.bool)],[]⟩ .o .o) .o)))))))) .o)) .o)) .o)))))))))))) call102 func102 (aw d (aw Rv ax)) ax ax λs=>(show _=BZ lC eK a s.1 s.2 from by kernel_rfl).trans ((congrArg (λb=>BZ b eK a s.1 s.2) dX).trans ((congrArg (λe=>BZ id e a s.1 s.2) fU).trans (by kernel_rfl)))
theorem Aw:Ko O8:=(show O8=yo (aj (PD) au) by kernel_rfl)▸n3 (X:=X0) (E:=yo) ⟨call102,λ_ _ h=>nomatch h⟩ (Qz) au
def Xw:aA:=⟨101,[wB,aaA],.bool,[],U2 Bh⟩
def B8(a:Ex->Ex)(c:Sh->(R:Type)->Option R->Option R)(e:Ex)(x:Q1):x3:= (ry (a e) x).bind λb=> some (b != 1)
theorem P8:Ko Xw:=
 eC .o call101 func101 (aw Aw ax) ax ax λs=>(show _=B8 lC eK s.1 s.2 from by kernel_rfl).trans ((congrArg (λa=>B8 a eK s.1 s.2) dX).trans ((congrArg (λb=>B8 id b s.1 s.2) fU).trans (by kernel_rfl)))
def tG:aA:=⟨108,[(.sli .ex),(.fn 101 [] [aaA])],aq,[],U2 gW⟩
def ss(e:Ex->Ex)(g:Sh->(R:Type)->Option R->Option R)(s:(List Ex))(c:Q1)(a:Int->zb)(b:Int):zb:= bif decide (b<(s.length:Int)) then (idx s b).bind λf=> (Bh (e f) c).bind λd=> bif d then ( some b) else ( a (i64.wrap (b+1))) else some (-1)
def gA(a:Ex->Ex)(b:Sh->(R:Type)->Option R->Option R)(s:(List Ex))(c:Q1):zb:= aj (ss a b s c) au 0
theorem sg:Ko tG:=
 eC (.l ⟨[(false,8,aq)],[]⟩ .o) call108 func108 (aw P8 ax) ax ax λs=>(show _=gA lC eK s.1 s.2 from by kernel_rfl).trans ((congrArg (λa=>gA a eK s.1 s.2) dX).trans ((congrArg (λb=>gA id b s.1 s.2) fU).trans (by kernel_rfl)))
def sx:aA:=⟨100,[(.sli .ex),(.fn 101 [] [aaA])],.bool,[],U2 fW⟩
theorem rh:Ko sx:=
 aG .o call100 func100 (aw sg ax)
def aga:aA:=⟨88,[pc,aq,aY],.bool,[],U3 DT⟩
theorem K6:Ko aga:=
 aG .o call88 func88 (aw rh ax)
def Hd:aA:=⟨89,[aY],lE,[],λs=>bu s⟩
def Hq(s:Q1):Option Q1:= AA s ( some []) ( aN (aH (List.length ([]:zj)+List.length s) 8)<| some (([]:zj)++s))
theorem dZ:Ko Hd:=
 eC .o call89 func89 ax ax ax λs=>(show _=Hq s from by kernel_rfl).trans od
def xF:aA:=⟨103,[jm,aq,aq],jm,[],U3 jS⟩
theorem vp:Ko xF:=
 aG (.s (.s (.j ⟨[(false,0,jm),(false,7,JE)],[]⟩ .o .o))) call103 func103 (aw ajM ax)
def G0:aA:=⟨90,[jm,aq,aq],jm,[],U3 mz⟩
theorem C4:Ko G0:=
 aG .o call90 func90 (aw vp ax)
def VN:aA:=⟨64,[aa9,aY],im,[(true,0,aa9)],λs=>tE s.2.2 s.1 s.2.1⟩
theorem CA:Ko VN:=
 aG (.j ⟨[(true,0,(.bx 161 0 true [.same,(.mp .s .bo true)]))],[]⟩ .o (.l ⟨[(true,0,(.bx 161 0 true [.same,.same])),(false,4,jm),(false,18,aq)],[]⟩ (.c .o (.r [] (.c (.r [0] .o) .o))))) call64 func64 (aw C4 ax)
def acU:aA:=⟨39,[sJ,pc],yx,[],U2 Bw⟩
theorem ZP:(⟨87,Tryz.f87⟩:py).Ok X0.P:=⟨call87,func87⟩
theorem Wd:Ko acU:=
 eC (.c (.c (.l ⟨[(false,9,aq),(true,10005,aa9)],[]⟩ (.c (.n 4 (.c .o .o)) .o)) .o) (.r [70000,5] .o)) call39 func39 (aw Ig (aw K6 (aw dZ (aw CA ax)))) ax (aw ZP ax) λ_=>by kernel_rfl
def O5:aA:=⟨104,[(.dat lB []),aq],.bool,[],U2 lu⟩
theorem yF:Ko O5:=
 aG .o call104 func104 ax
def PF:aA:=⟨91,[jT,aY],aq,[],U2 fD⟩
theorem iT:Ko PF:=
 aG (.c .o (.l ⟨[(false,14,aq)],[]⟩ .o)) call91 func91 (aw yF ax)
def afU:aA:=⟨92,[pz],.ifn,[],λs=>dJ s⟩
theorem B7:Ko afU:=
 aG (.r [1] .o) call92 func92 (aw Fk ax)
def Yg:aA:=⟨181,[eO],jm,[],λs=>vA s⟩
def Yc(b:Q1):Option Q1:= AA b ( some []) ( aN (aH (List.length ([]:zj)+List.length b) 1)<| some (([]:zj)++b))
theorem DZ:Ko Yg:=
 eC .o call181 func181 ax ax ax λs=>(show _=Yc s from by kernel_rfl).trans od
def ahM:aA:=⟨186,[(.dat wu [none])],agd,[],λs=>UZ s⟩
theorem aaP:Ko ahM:=
 aG .o call186 func186 (aw DZ ax)
def Wg:aA:=⟨187,[agd,.bool],im,[(true,0,agd)],λs=>xT s.2.2 s.1 s.2.1⟩
theorem OR:Ko Wg:=
 aG (.j ⟨[(true,0,(.bx 317 0 true [jm,.same]))],[]⟩ .o (.j ⟨[(true,0,(.bx 317 0 true [jm,.same]))],[]⟩ (.c (.r [0] .o) .o) .o)) call187 func187 ax
def ag4:aA:=⟨178,[(.dat wu [none]),JE,aq],(.cW [(.dat wu [none]),aq]),[],U3 KD⟩
theorem XZ:Ko ag4:=
 aG (.c .o (.c .o (.l ⟨[(true,6,(.bx 296 0 true [.same,.same])),(true,8,agd),(false,9,aq)],[]⟩ (.c (.r [8] .o) .o)))) call178 func178 (aw I8 (aw aaP (aw OR ax)))
def F5:aA:=⟨169,[jT,aY],(.cW [jm,aq]),[],U2 lJ⟩
theorem ug:Ko F5:=
 aG (.c .o (.l ⟨[(true,7,(.bx 296 0 true [eO,aq])),(false,20,aq)],[]⟩ (.c (.r [7] .o) .o))) call169 func169 (aw iT (aw xX (aw XZ (aw Cr ax))))
def acp:aA:=⟨163,[pz,aY],eO,[],U2 eP⟩
theorem fy:Ko acp:=
 aG .o call163 func163 (aw ug ax)
def Yd:aA:=⟨192,[PZ],im,[(true,0,PZ)],λs=>PK s⟩
theorem Rb:Ko Yd:=
 aG .o call192 func192 ax
def X7:aA:=⟨193,[PZ],im,[(true,0,PZ)],λs=>O7 s⟩
theorem Re:Ko X7:=
 aG .o call193 func193 ax
def XS:aA:=⟨194,[PZ],im,[(true,0,PZ)],λs=>Ph s⟩
theorem Rp:Ko XS:=
 aG .o call194 func194 ax
def aeM:aA:=⟨190,[eO,JE],JE,[],U2 EG⟩
theorem Cb:Ko aeM:=
 aG (.l ⟨[(true,5,PZ),(false,15,aq)],[]⟩ (.c .o (.n 50 .o))) call190 func190 (aw Rb (aw Re (aw Rp ax)))
def ac2:aA:=⟨189,[JE,aq],aq,[],U2 wZ⟩
theorem A3:Ko ac2:=
 aG .o call189 func189 ax
def XO:aA:=⟨191,[eO,eO],.bool,[],U2 vP⟩
theorem DJ:Ko XO:=
 aG .o call191 func191 ax
def OO:aA:=⟨183,[HV,eO],aq,[],U2 fP⟩
theorem yw:Ko OO:=
 aG (.n 0 (.j ⟨[(false,5,aq)],[]⟩ .o .o)) call183 func183 (aw Cb (aw A3 (aw DJ ax)))
def OV:aA:=⟨184,[HV,eO],Ro,[],U2 yz⟩
theorem KC:Ko OV:=
 aG .o call184 func184 (aw yw ax)
def abX:aA:=⟨175,[HV,eO],Ro,[],U2 dO⟩
theorem oE:Ko abX:=
 aG .o call175 func175 (aw KC ax)
def Kt:aA:=⟨183,[(.dat gO [some 148,some 6]),eO],aq,[],U2 ou⟩
theorem FQ:Ko Kt:=
 aG (.n 0 (.j ⟨[(false,5,aq)],[]⟩ .o .o)) call183 func183 (aw Cb (aw A3 (aw DJ ax)))
def Mt:aA:=⟨182,[(.bx 306 0 true [aq,(.own lS 74 true),aY]),aq],im,[(true,0,(.bx 306 0 true [.same,(.own lS 74 true),aY]))],λs=>rT s.2.2.2 s.1 s.2.1 s.2.2.1⟩
theorem IA:Ko Mt:=
 aG (.l ⟨[(true,0,(.bx 306 0 true [.same,(.own lS 74 true),lE])),(false,18,(.slr 1)),(false,20,aq)],[]⟩ (.c (.r [0] .o) .o)) call182 func182 (aw FQ ax)
def IY:aA:=⟨170,[HV,eO],(.cW [HV,aq,.bool,aq]),[],U2 cj⟩
theorem vj:Ko IY:=
 aG (.c .o (.c .o (.s (.s (.j ⟨[(true,11,(.bx 306 0 true [.same,(.own lS 74 true),aY]))],[2]⟩ (.c .o (.r [11] .o)) .o))))) call170 func170 (aw oE (aw DZ (aw IA (aw dZ (aw yw ax)))))
def XQ:aA:=⟨164,[Ra,eO],(.cW [Ra,.bool,aq]),[],U2 Be⟩
theorem QD:Ko XQ:=
 aG (.c .o (.r [4,40000] .o)) call164 func164 (aw vj ax)
def Kh:aA:=⟨157,[pM,pz,aY],Wc,[],U3 kQ⟩
theorem FC:Ko Kh:=
 aG (.r [40000] .o) call157 func157 (aw fy (aw QD ax))
def Ll:aA:=⟨209,[jT,aY],(.fn 212 [] [(.bx 32 0 true [jT]),Yx]),[],U2 vO⟩
theorem Eu:Ko Ll:=
 aG .o call209 func209 ax
def K5:aA:=⟨210,[jm,aY],jm,[],U2 vK⟩
theorem E3:Ko K5:=
 aG (.l ⟨[(false,0,jm),(false,10,aq)],[]⟩ (.c (.l ⟨[(false,0,jm),(false,14,aq)],[]⟩ .o) .o)) call210 func210 ax
def PH:aA:=⟨206,[L8,jT,aY],aq,[],U3 tX⟩
theorem WN:(⟨212,Tryz.f212⟩:py).Ok X0.P:=⟨call212,func212⟩
theorem IK:Ko PH:=
 eC (.c (.c (.l ⟨[(false,4,aq),(true,10006,(.bx 3 0 true [aq])),(true,10007,(.bx 74 0 true [jm]))],[]⟩ .o) .o) (.r [70000,6,7] .o)) call206 func206 (aw Eu (aw ug (aw oE (aw E3 ax)))) ax (aw WN ax) λ_=>by kernel_rfl
def abc:aA:=⟨211,[HV],aq,[],λs=>yg s⟩
theorem Gh:Ko abc:=
 aG .o call211 func211 ax
def Pg:aA:=⟨207,[L8],aq,[],λs=>Bp s⟩
theorem VP:Ko Pg:=
 aG .o call207 func207 (aw Gh ax)
def lL:aA:=⟨208,[(.sli gO)],(.own gO 73 true),[],λs=>dD s⟩
def vg(s:(List Q6)):Option (List Q6):= AA s ( some []) ( aN (aH (List.length ([]:List Q6)+List.length s) 56)<| some (([]:List Q6)++s))
theorem tu:Ko lL:=
 eC .o call208 func208 ax ax ax λs=>(show _=vg s from by kernel_rfl).trans od
def Cj:aA:=⟨203,[L8,jT,aY],(.cW [L8,.bool,aq]),[],U3 Bn⟩
def Qs(n:Nat)(c:Af)(o:Q4)(b:(Q4×Q1))(e:(Int×(List Q6)×Q1)->Option Q51):Int×(List Q6)×Q1->Option Q51:=λ⟨a,d,j⟩=> bif decide ((i64.wrap (a*2))<(b.1.length:Int)) then aN (cZ (i64.wrap (a*2)) (min (b.1.length:Int) (i64.wrap ((i64.wrap (a+1))*2))) (List.length b.1))<| aN (cZ (i64.wrap (a*2)) (min (b.1.length:Int) (i64.wrap ((i64.wrap (a+1))*2))) (List.length b.2))<| (lJ (aV b.1 (i64.wrap (a*2)) (min (b.1.length:Int) (i64.wrap ((i64.wrap (a+1))*2)))) (aV b.2 (i64.wrap (a*2)) (min (b.1.length:Int) (i64.wrap ((i64.wrap (a+1))*2))))).bind λk=> (idx d a).bind λl=> (cj l k.1).bind λf=> (vK j ([f.2.1]:zj)).bind λg=> (idx d a).bind λm=> bif !true then (cj c.2.1 g).bind λi=> aN (ku 0 (c.2.2.length:Int) (c.2.2.length:Int) (List.length c.2.2)&&((c.2.2.length:Int)==(c.2.2.length:Int)))<| aN (aH (List.length (aV c.2.2 0 (c.2.2.length:Int))+List.length ([0]:zj)) 1)<| some (((List.set d (Int.toNat a) f.1),i.1,((aV c.2.2 0 (c.2.2.length:Int))++([0]:zj))),true,0) else e ((i64.wrap (a+1)),(List.set d (Int.toNat a) f.1),g) else (cj c.2.1 j).bind λh=> aN (ku 0 (c.2.2.length:Int) (c.2.2.length:Int) (List.length c.2.2)&&((c.2.2.length:Int)==(c.2.2.length:Int)))<| aN (aH (List.length (aV c.2.2 0 (c.2.2.length:Int))+List.length ([0]:zj)) 1)<| some ((d,h.1,((aV c.2.2 0 (c.2.2.length:Int))++([0]:zj))),true,0)
def Yb(fl:Nat)(c:Af)(s:Q4)(a:Q1):Option Q51:= (fD s a).bind λb=> bif b != 0 then some (c,false,b) else (tX c s a).bind λg=> bif decide (0<=g) then some (c,false,0) else (Bp c).bind λf=> bif decide (c.2.1.1<=f) then some (c,false,7) else (dD c.1).bind λe=> (vO s a).bind λd=> aj (Qs fl c s d) fl (0,e,[])
theorem OK(fl:Nat)(s:fN (rR Cj.ps)):Zj { X0 with fl:=fl } [PF,PH,Pg,lL,Ll,F5,IY,K5] [] [⟨212,Tryz.f212⟩] (.c .o (.c .o (.r [] (.c .o (.c (.c (.l ⟨[(false,4,aq),(true,10003,ahb),(true,10006,agR),(true,10010,(.bx 74 0 true [jm]))],[]⟩ .o) (.r [10,3] .o)) (.r [70000,3,6,10] .o)))))) Tryz.f203 Cj s=Yb fl s.1 s.2.1 s.2.2:=by kernel_rfl
theorem Qe:Ko Cj:=
 eC (.c .o (.c .o (.r [] (.c .o (.c (.c (.l ⟨[(false,4,aq),(true,10003,ahb),(true,10006,agR),(true,10010,(.bx 74 0 true [jm]))],[]⟩ .o) (.r [10,3] .o)) (.r [70000,3,6,10] .o)))))) call203 func203 (aw iT (aw IK (aw VP (aw tu (aw Eu (aw ug (aw vj (aw E3 ax)))))))) ax (aw WN ax) λs=>(OK au s).trans (by kernel_rfl)
def Ik:aA:=⟨197,[pM,pz,aY],Wc,[],U3 j9⟩
theorem EH:Ko Ik:=
 aG .o call197 func197 (aw Qe ax)
def V2:aA:=⟨231,[jT,aY],(.own (.i .u32) 237 true),[],U2 yQ⟩
theorem Cq:Ko V2:=
 aG (.l ⟨[(false,5,(.own (.i .u32) 237 true)),(false,10,aq)],[]⟩ .o) call231 func231 ax
def afa:aA:=⟨238,[sO,sO],(.dat Wi []),[],U2 JR⟩
theorem Lr:Ko afa:=
 aG (.l ⟨[(true,4,(.bx 365 0 true [.same,.same,.same,.same,.same,.same,.same,.same])),(true,5,(.bx 365 0 true [nM,nM,nM,nM,nM,nM,nM,nM])),(false,7,aq)],[]⟩ (.c (.r [5] .o) .o)) call238 func238 ax
def Qn:aA:=⟨239,[(.dat Wi [])],eO,[],λs=>uE s⟩
theorem Ai:Ko Qn:=
 aG .o call239 func239 ax
def aad:aA:=⟨237,[HV,sO,sO],Ro,[],U3 C7⟩
theorem Sb:Ko aad:=
 aG .o call237 func237 (aw Lr (aw Ai (aw oE ax)))
def QW:bY:=⟨233,[afx,aq,sO,sO],MC,none,false,false,sO,[],λs=>pW s.2.1 s.2.2.1 s.2.2.2 s.1⟩
theorem Ag:Lb QW:=
 afH .o call233 func233 (aw Sb ax)
def DK:bY:=⟨236,[afx,aq,V8],MC,none,false,false,sO,[],λs=>uG s.2.1 s.2.2 s.1⟩
def Eb:TK4->TK4:=λa s=>mL a s.1 s.2.1 s.2.2
theorem H3(a:TK4)(b:OK4 a):(pH (Eb a)).Ok X0.P X0.Γ:=
 Mx (.c .o (.r [0] .o)) call236 func236 (aw As ax) (aw b (aw Ag ax)) ax λ_=>by kernel_rfl
theorem Ly:Lb DK:=(show DK=pH (aj (Eb) au) by kernel_rfl)▸abz (X:=X0) (E:=pH) ⟨call236,λ_ _ h=>nomatch h⟩ (H3) au
def O3:bY:=⟨230,[afx,V8],MC,none,false,false,sO,[],λs=>oK s.2 s.1⟩
theorem Jq:Lb O3:=
 Mx (.c (.r [0] .o) .o) call230 func230 ax (aw Ag (aw Ly ax)) ax λ_=>by kernel_rfl
def acn:aA:=⟨226,[NQ,jT,aY],Ro,[],U3 w6⟩
theorem aju:(⟨232,Tryz.f232⟩:py).Ok X0.P:=⟨call232,func232⟩
theorem H9:Ko acn:=
 eC .o call226 func226 (aw Cq ax) (aw Jq ax) (aw aju ax) λ_=>by kernel_rfl
def abq:aA:=⟨234,[HV],aq,[],λs=>Kk s⟩
theorem Um:Ko abq:=
 aG .o call234 func234 (aw Gh ax)
def acb:aA:=⟨227,[NQ],aq,[],λs=>GH s⟩
theorem UJ:Ko acb:=
 aG .o call227 func227 (aw Um ax)
def vx:aA:=⟨228,[(.sli gO)],(.own gO 270 true),[],λs=>eW s⟩
def vn(s:(List Q6)):Option (List Q6):= AA s ( some []) ( aN (aH (List.length ([]:List Q6)+List.length s) 56)<| some (([]:List Q6)++s))
theorem tq:Ko vx:=
 eC .o call228 func228 ax ax ax λs=>(show _=vn s from by kernel_rfl).trans od
def VO:aA:=⟨235,[HV,sO,sO],(.cW [HV,aq,.bool,aq]),[],U3 yT⟩
theorem OQ:Ko VO:=
 aG (.r [40000] .o) call235 func235 (aw Lr (aw Ai (aw vj ax)))
def MY:aA:=⟨229,[afj,aq,sO,sO],sO,[(true,0,agO)],λs=>nt s.2.1 s.2.2.1 s.2.2.2 s.1⟩
theorem w8:Ko MY:=
 aG (.r [0] .o) call229 func229 (aw OQ ax)
def yY:aA:=⟨236,[afj,aq,V8],sO,[(true,0,agO)],λs=>vu s.2.1 s.2.2 s.1⟩
def y8:TK5->TK5:=λa s=>j7 a s.1 s.2.1 s.2.2
theorem Ej(a:TK5)(b:OK5 a):(lV (y8 a)).Ok X0.P X0.Γ:=
 aG (.c .o (.r [0] .o)) call236 func236 (aw b (aw As (aw w8 ax)))
theorem Hm:Ko yY:=(show yY=lV (aj (y8) au) by kernel_rfl)▸n3 (X:=X0) (E:=lV) ⟨call236,λ_ _ h=>nomatch h⟩ (Ej) au
def J3:aA:=⟨230,[afj,V8],sO,[(true,0,agO)],λs=>oS s.2 s.1⟩
theorem FG:Ko J3:=
 aG (.c (.r [0] .o) .o) call230 func230 (aw w8 (aw Hm ax))
def XW:aA:=⟨221,[NQ,jT,aY],(.cW [NQ,.bool,aq]),[],U3 Bk⟩
theorem Rh:Ko XW:=
 aG (.c .o (.c .o (.r [] (.c .o (.r [6,40000] .o))))) call221 func221 (aw iT (aw H9 (aw UJ (aw tq (aw Cq (aw FG ax))))))
def Jd:aA:=⟨215,[pM,pz,aY],Wc,[],U3 j8⟩
theorem D9:Ko Jd:=
 aG .o call215 func215 (aw Rh ax)
def QG:aA:=⟨263,[nM],.bool,[],λs=>uC s⟩
theorem Ls:Ko QG:=
 aG .o call263 func263 ax
def L3:aA:=⟨257,[nM,nM],aq,[],U2 mY⟩
theorem wT:Ko L3:=
 aG .o call257 func257 (aw Ls ax)
def acF:aA:=⟨256,[(.dat nT []),nM],aq,[],U2 BV⟩
theorem UQ:Ko acF:=
 aG .o call256 func256 (aw wT ax)
def mM:aA:=⟨255,[(.sli nT),nM,(.fn 256 [] [])],Ro,[],U2 bD⟩
theorem fC:Ko mM:=
 aG (.l ⟨[(false,9,aq),(false,10,aq)],[]⟩ .o) call255 func255 (aw UQ ax)
def ak8:aA:=⟨251,[YR,aq,nM],aq,[],U3 BK⟩
theorem acR:Ko ak8:=
 aG .o call251 func251 (aw fC ax)
def ajw:aA:=⟨248,[YR,eO],.bool,[],U2 pT⟩
theorem yU:Ko ajw:=
 aG (.l ⟨[(false,5,aq),(false,12,aq)],[]⟩ .o) call248 func248 (aw acR ax)
def agP:aA:=⟨249,[YR],aq,[],λs=>KN s⟩
theorem Yh:Ko agP:=
 aG .o call249 func249 ax
def wO:aA:=⟨252,[(.sli tW)],(.own tW 273 true),[],λs=>dP s⟩
def wE(s:cD):Option cD:= AA s ( some []) ( aN (aH (List.length ([]:List (Q4×Int))+List.length s) 32)<| some (([]:List (Q4×Int))++s))
theorem uM:Ko wO:=
 eC .o call252 func252 ax ax ax λs=>(show _=wE s from by kernel_rfl).trans od
def wC:aA:=⟨269,[(.sli nT),(.sli nT)],.bool,[],U2 fO⟩
theorem uA:Ko wC:=
 aG (.c .o (.l ⟨[(false,13,aq)],[]⟩ .o)) call269 func269 ax
def Up:aA:=⟨264,[(.bx 379 0 false [aq,(.own tW 273 false),aq,aq,Z5,(.mp bf .bo false)]),(.sli nT)],Ro,[],λs=>Ca s.2.2.2.2.2.2 s.1 s.2.1 s.2.2.1 s.2.2.2.1 s.2.2.2.2.1 s.2.2.2.2.2.1⟩
theorem LX:Ko Up:=
 aG (.l ⟨[(false,14,aq)],[]⟩ .o) call264 func264 (aw uA ax)
def J6:aA:=⟨296,[Z5],aq,[],λs=>kI s⟩
theorem uX:Ko J6:=
 aG .o call296 func296 ax
def IZ:aA:=⟨298,[lE,aq,aq],im,[(true,0,lE)],U3 ij⟩
theorem mQ:Ko IZ:=
 aG (.r [0] .o) call298 func298 ax
def Ie:aA:=⟨297,[Z5,aq,aq],.bool,[],U3 ie⟩
theorem uu:Ko Ie:=
 aG .o call297 func297 ax
def H5:aA:=⟨272,[HU,aq,aq],.bool,[(true,0,HU)],λs=>sP s.2.1 s.2.2 s.1⟩
theorem EJ:Ko H5:=
 aG (.l ⟨[(true,0,HU),(false,7,aq)],[]⟩ (.c .o (.s (.j ⟨[(false,9,aq)],[]⟩ .o .o)))) call272 func272 (aw uu (aw mQ ax))
def OL:aA:=⟨299,[afM],MC,[(true,0,afM)],λs=>yv s⟩
theorem Kx:Ko OL:=
 aG .o call299 func299 ax
def Kl:aA:=⟨270,[HU],MC,[(true,0,HU)],λs=>om s⟩
theorem Fz:Ko Kl:=
 aG .o call270 func270 (aw uX (aw mQ (aw EJ (aw Kx ax))))
def QX:aA:=⟨265,[akx],aq,[(true,0,aaa)],U6 uL⟩
theorem LI:Ko QX:=
 aG .o call265 func265 (aw Fz ax)
def RH:aA:=⟨258,[akf,(.sli nT)],aq,[(true,0,akV)],λs=>su s.2.2.2.2.2.2 s.1 s.2.1 s.2.2.1 s.2.2.2.1 s.2.2.2.2.1 s.2.2.2.2.2.1⟩
theorem MM:Ko RH:=
 aG (.c .o (.l ⟨[(true,0,(.bx 379 0 true [.same,(.own tW 273 true),.same,.same,.same,.same])),(false,35,aq)],[]⟩ (.c (.r [0] .o) .o))) call258 func258 (aw LX (aw LI ax))
def acL:aA:=⟨251,[(.dat AT [some 546,some 6]),aq,nM],aq,[],U3 Mk⟩
theorem Vh:Ko acL:=
 aG .o call251 func251 (aw fC ax)
def OX:aA:=⟨260,[(.dat nT []),nM],aq,[],U2 yK⟩
theorem Kj:Ko OX:=
 aG .o call260 func260 (aw wT ax)
def lM:aA:=⟨255,[(.own nT 384 false),nM,(.fn 260 [] [])],Ro,[],U2 cq⟩
theorem kM:Ko lM:=
 aG (.l ⟨[(false,9,aq),(false,10,aq)],[]⟩ .o) call255 func255 (aw Kj ax)
def wK:aA:=⟨259,[(.sli nT)],(.own nT 384 true),[],λs=>fI s⟩
def wD(s:Q4):Option Q4:= AA s ( some []) ( aN (aH (List.length ([]:List jl)+List.length s) 16)<| some (([]:List jl)++s))
theorem uS:Ko wK:=
 eC .o call259 func259 ax ax ax λs=>(show _=wD s from by kernel_rfl).trans od
def Io:aA:=⟨253,[akf,aq,eO],aq,[(true,0,akV)],λs=>yq s.2.2.2.2.2.2.1 s.2.2.2.2.2.2.2 s.1 s.2.1 s.2.2.1 s.2.2.2.1 s.2.2.2.2.1 s.2.2.2.2.2.1⟩
def IN:TK6->TK6:=λa s=>mH a s.1 s.2.1 s.2.2.1 s.2.2.2.1 s.2.2.2.2.1 s.2.2.2.2.2.1 s.2.2.2.2.2.2.1 s.2.2.2.2.2.2.2
theorem LD(a:TK6)(b:OK6 a):(tl (IN a)).Ok X0.P X0.Γ:=
 aG (.c .o (.s (.j ⟨[(false,7,(.own nT 384 true))],[]⟩ .o (.r [0,40000] (.s (.j ⟨[(false,7,(.own nT 384 true))],[8]⟩ .o .o)))))) call253 func253 (aw MM (aw Vh (aw b (aw kM (aw acG (aw uS ax))))))
theorem OH:Ko Io:=(show Io=tl (aj (IN) au) by kernel_rfl)▸n3 (X:=X0) (E:=tl) ⟨call253,λ_ _ h=>nomatch h⟩ (LD) au
def Nt:aA:=⟨300,[afM,MC],im,[(true,0,afM)],λs=>we s.2 s.1⟩
theorem Ip:Ko Nt:=
 aG (.r [0] .o) call300 func300 ax
def He:aA:=⟨268,[HU,aq],im,[(true,0,HU)],λs=>rZ s.2 s.1⟩
theorem CS:Ko He:=
 aG (.l ⟨[(true,0,HU),(false,1,aq)],[]⟩ .o) call268 func268 (aw uu (aw mQ ax))
def HW:aA:=⟨262,[HU,MC],im,[(true,0,HU)],λs=>nD s.2 s.1⟩
theorem EN:Ko HW:=
 aG .o call262 func262 (aw Ip (aw uX (aw CS ax)))
def Fj:aA:=⟨254,[akx,aq],im,[(true,0,aaa)],λs=>uF s.2.2.2.2.2.2 s.1 s.2.1 s.2.2.1 s.2.2.2.1 s.2.2.2.2.1 s.2.2.2.2.2.1⟩
def Ea:TK7->TK7:=λa s=>rD a s.1 s.2.1 s.2.2.1 s.2.2.2.1 s.2.2.2.2.1 s.2.2.2.2.2.1 s.2.2.2.2.2.2
theorem HZ(a:TK7)(b:OK7 a):(pE (Ea a)).Ok X0.P X0.Γ:=
 aG (.c .o (.l ⟨[(true,0,aaa),(false,42,aq)],[]⟩ .o)) call254 func254 (aw b (aw EN ax))
theorem LH:Ko Fj:=(show Fj=pE (aj (Ea) au) by kernel_rfl)▸n3 (X:=X0) (E:=pE) ⟨call254,λ_ _ h=>nomatch h⟩ (HZ) au
def Zq:aA:=⟨250,[YR,eO],(.cW [YR,.bool,aq]),[],U2 fQ⟩
theorem F0:Ko Zq:=
 aG (.c .o (.c .o (.r [7] (.r [7] (.j ⟨[(true,7,aaa)],[]⟩ .o .o))))) call250 func250 (aw yU (aw uM (aw dZ (aw OH (aw LH ax)))))
def JI:aA:=⟨242,[pM,pz,aY],Wc,[],U3 kR⟩
theorem FP:Ko JI:=
 aG .o call242 func242 (aw fy (aw yU (aw Yh (aw F0 ax))))
def aan:aA:=⟨291,[eO,JE,aq,aq],lE,[],U4 oh⟩
theorem oL:Ko aan:=
 aG (.l ⟨[(false,9,lE),(false,13,aq)],[]⟩ .o) call291 func291 (aw Cb (aw A3 ax))
def aco:aA:=⟨288,[xJ,eO,(.nK (.int .i64 0)),V6],im,[(true,3,V6)],U3 M3⟩
theorem Wb:Ko aco:=
 aG (.l ⟨[(true,3,V6),(false,19,aq)],[]⟩ (.c (.r [3] .o) .o)) call288 func288 (aw oL ax)
def ags:aA:=⟨285,[xJ,eO,(.nK (.int .i64 0))],.bool,[],U2 PX⟩
theorem Xy:Ko ags:=
 aG .o call285 func285 (aw Wb ax)
def X8:aA:=⟨286,[xJ,eO],.bool,[],U2 vB⟩
theorem DH:Ko X8:=
 aG .o call286 func286 (aw Xy ax)
def Fg:aA:=⟨173,[eO],jm,[],λs=>cu s⟩
def DM(s:Q1):Option Q1:= AA s ( some []) ( aN (aH (List.length ([]:zj)+List.length s) 1)<| some (([]:zj)++s))
theorem eR:Ko Fg:=
 eC .o call173 func173 ax ax ax λs=>(show _=DM s from by kernel_rfl).trans od
def Vw:aA:=⟨288,[(.dat Hz [some 11,none,none]),eO,(.nK (.int .i64 0)),(.fn 290 [] [])],im,[(true,0,(.agg [.same,.same,.same,jm,.same,.same]))],U2 xZ⟩
theorem Ct:Ko Vw:=
 aG (.l ⟨[(true,0,(.agg [.same,.same,.same,jm,.same,.same])),(false,19,aq)],[]⟩ (.c (.r [4,0] .o) .o)) call288 func288 (aw oL ax)
def afv:aA:=⟨287,[xJ,eO,(.nK (.int .i64 0))],(.dat Hz [some 11,none,none]),[],U2 Qi⟩
theorem Yi:Ko afv:=
 aG .o call287 func287 (aw eR (aw Ct ax))
def XU:aA:=⟨282,[xJ,eO],(.cW [xJ,.bool]),[],U2 Bi⟩
theorem PU:Ko XU:=
 aG .o call282 func282 (aw DH (aw Yi ax))
def Jh:aA:=⟨276,[pM,pz,aY],Wc,[],U3 kO⟩
theorem FF:Ko Jh:=
 aG (.r [40000] .o) call276 func276 (aw fy (aw PU ax))
def UO:aA:=⟨65,[pz,aY],Wc,[],U2 dC⟩
theorem O0:Ko UO:=
 aG (.c .o (.r [2,4] .o)) call65 func65 (aw iT (aw B7 (aw FC (aw EH (aw D9 (aw FP (aw FF ax)))))))
def LG:bY:=⟨40,[VU,aY],Qf,none,false,false,.bool,[(true,0,JA)],λs=>jL (d8 (d8 (d8 (d8 (d8 s))))).2.2.2.2.2 s.1 s.2.1 s.2.2.1 s.2.2.2.1 s.2.2.2.2.1 s.2.2.2.2.2.1 s.2.2.2.2.2.2.1 s.2.2.2.2.2.2.2.1 s.2.2.2.2.2.2.2.2.1 (d8 s).2.1 (d8 s).2.2.1 (d8 s).2.2.2.1 (d8 s).2.2.2.2.1 (d8 s).2.2.2.2.2.1 (d8 s).2.2.2.2.2.2.1 (d8 s).2.2.2.2.2.2.2.1 (d8 (d8 s)).1 (d8 (d8 s)).2.1 (d8 (d8 s)).2.2.1 (d8 (d8 s)).2.2.2.1 (d8 (d8 s)).2.2.2.2.1 (d8 (d8 s)).2.2.2.2.2.1 (d8 (d8 s)).2.2.2.2.2.2.1 (d8 (d8 s)).2.2.2.2.2.2.2.1 (d8 (d8 (d8 s))).1 (d8 (d8 (d8 s))).2.1 (d8 (d8 (d8 s))).2.2.1 (d8 (d8 (d8 s))).2.2.2.1 (d8 (d8 (d8 s))).2.2.2.2.1 (d8 (d8 (d8 s))).2.2.2.2.2.1 (d8 (d8 (d8 s))).2.2.2.2.2.2.1 (d8 (d8 (d8 s))).2.2.2.2.2.2.2.1 (d8 (d8 (d8 (d8 s)))).1 (d8 (d8 (d8 (d8 s)))).2.1 (d8 (d8 (d8 (d8 s)))).2.2.1 (d8 (d8 (d8 (d8 s)))).2.2.2.1 (d8 (d8 (d8 (d8 s)))).2.2.2.2.1 (d8 (d8 (d8 (d8 s)))).2.2.2.2.2.1 (d8 (d8 (d8 (d8 s)))).2.2.2.2.2.2.1 (d8 (d8 (d8 (d8 s)))).2.2.2.2.2.2.2.1 (d8 (d8 (d8 (d8 (d8 s))))).1 (d8 (d8 (d8 (d8 (d8 s))))).2.1 (d8 (d8 (d8 (d8 (d8 s))))).2.2.1 (d8 (d8 (d8 (d8 (d8 s))))).2.2.2.1 (d8 (d8 (d8 (d8 (d8 s))))).2.2.2.2.1⟩
theorem oZ:Lb LG:=
 afH (.s (.s (.j ⟨[],[]⟩ .o .o))) call40 func40 (aw O0 ax)
def aaC:aA:=⟨94,[aY],(.cW [aY,aq]),[],λs=>yl s⟩
theorem GB:Ko aaC:=
 aG .o call94 func94 ax
def aaD:aA:=⟨111,[sJ,aY],(.fn 121 [] [(.bx 35 0 true [(.sli .s),jT,aY,(.sli .s),(.sli BY)]),Yx]),[],U2 Jn⟩
theorem Uk:Ko aaD:=
 aG .o call111 func111 ax
def UW:aA:=⟨122,[sJ,aY],lE,[],U2 Fe⟩
def O2(f:Ex->Ex)(h:Sh->(R:Type)->Option R->Option R)(m:iM)(d:Q1)(a:fS->Option Q1):Q1×Int->Option Q1:=λ⟨b,c⟩=> bif decide (c<(m.2.2.2.2.length:Int)) then (idx m.2.2.2.2 c).bind λg=> (ry (f g.2.1) d).bind λe=> bif e==1 then aN (aH (List.length b+List.length ([c]:zj)) 8)<| a ((b++([c]:zj)),(i64.wrap (c+1))) else a (b,(i64.wrap (c+1))) else some b
def AQ(b:Ex->Ex)(c:Sh->(R:Type)->Option R->Option R)(m:iM)(a:Q1):Option Q1:= aj (O2 b c m a) au ([],0)
theorem OI:Ko UW:=
 eC (.l ⟨[(false,5,lE),(false,11,aq)],[]⟩ .o) call122 func122 (aw Aw ax) ax ax λs=>(show _=AQ lC eK s.1 s.2 from by kernel_rfl).trans ((congrArg (λa=>AQ a eK s.1 s.2) dX).trans ((congrArg (λb=>AQ id b s.1 s.2) fU).trans (by kernel_rfl)))
def V3:aA:=⟨91,[jT,Z5],aq,[],U2 tZ⟩
theorem OY:Ko V3:=
 aG (.c .o (.l ⟨[(false,14,aq)],[]⟩ .o)) call91 func91 (aw yF ax)
def acq:aA:=⟨123,[sJ,aY,aq],(.cW [lE,aq]),[],U3 Gd⟩
def US(i:Ex->Ex)(k:Sh->(R:Type)->Option R->Option R)(m:iM)(f:Q1)(e:Q52)(a:fS->Option fS):Q1×Int->Option fS:=λ⟨b,c⟩=> bif decide (c<(e.2.2.length:Int)) then (idx e.2.2 c).bind λd=> (ry (i d.2) f).bind λh=> (idx b d.1).bind λj=> a ((List.set b (Int.toNat d.1) h),(i64.wrap (c+1))) else (tZ m.2.1 b).bind λg=> bif g != 0 then some ([],6) else some (b,0)
def Hb(c:Ex->Ex)(g:Sh->(R:Type)->Option R->Option R)(m:iM)(a:Q1)(k:Int):Option fS:= ai (decide (k<0)) λh=> ai (decide ((m.2.2.2.2.length:Int)<=k)) λf=> ai (h||f) λe=> bif e then ( some ([],10)) else ( (bu a).bind λb=> (idx m.2.2.2.2 k).bind λd=> aj (US c g m a d) au (b,0))
theorem Vf:Ko acq:=
 eC (.c .o (.l ⟨[(true,8,lE),(false,29,aq)],[]⟩ (.c (.r [8] .o) .o))) call123 func123 (aw dZ (aw Aw (aw OY ax))) ax ax λs=>(show _=Hb lC eK s.1 s.2.1 s.2.2 from by kernel_rfl).trans ((congrArg (λa=>Hb a eK s.1 s.2.1 s.2.2) dX).trans ((congrArg (λb=>Hb id b s.1 s.2.1 s.2.2) fU).trans (by kernel_rfl)))
def Br:aA:=⟨136,[(.bx 243 0 true [.sfp,(.own aW 5 false)])],im,[(true,0,(.bx 243 0 true [.sfp,.same]))],U2 jb⟩
theorem oM:Ko Br:=
 aG .o call136 func136 ax
def yX:aA:=⟨130,[Ve,.str],(.cW [aq,(.nK (.raw .nilIface))]),[(true,0,Ve)],λs=>gZ s.2.2 s.1 s.2.1⟩
theorem wM:Ko yX:=
 aG .o call130 func130 (aw oM ax)
def BG:aA:=⟨132,[Ve,nM],(.nK (.raw .nilIface)),[(true,0,Ve)],λs=>je s.2.2 s.1 s.2.1⟩
theorem x7:Ko BG:=
 aG .o call132 func132 (aw oM ax)
def Ef:aA:=⟨133,[Ve],.str,[],U2 kG⟩
theorem BH:Ko Ef:=
 aG (.r [0] .o) call133 func133 ax
def acT:aA:=⟨124,[aY],.str,[],λs=>Mm s⟩
theorem UT:Ko acT:=
 aG (.l ⟨[(true,3,Ve),(false,8,aq)],[]⟩ .o) call124 func124 (aw ajN (aw wM (aw x7 (aw BH ax))))
def SX:aA:=⟨112,[al7,aY],im,[(true,0,al7)],λs=>oa s.2.2 s.1 s.2.1⟩
theorem MI:Ko SX:=
 aG (.j ⟨[(true,0,(.bx 218 0 true [.same,(.mp .s .bo true)]))],[]⟩ .o .o) call112 func112 (aw UT ax)
def acr:aA:=⟨105,[sJ,aY],Uz,[],U2 Ga⟩
theorem ahx:(⟨121,Tryz.f121⟩:py).Ok X0.P:=⟨call121,func121⟩
theorem Vm:Ko acr:=
 eC (.c (.c (.l ⟨[(false,10,aq),(true,10004,(.bx 23 0 true [.same])),(true,10005,(.bx 42 0 true [aq])),(true,10006,al7)],[]⟩ .o) .o) (.r [70000,4,5,6] .o)) call105 func105 (aw Uk (aw OI (aw Vf (aw MI (aw dZ ax))))) ax (aw ahx ax) λ_=>by kernel_rfl
def acm:aA:=⟨93,[sJ,pc,aY],Uz,[],U3 wP⟩
theorem Vx:Ko acm:=
 eC (.c .o (.l ⟨[(true,12,aa9),(false,32,aq)],[]⟩ (.c (.r [] (.c (.c (.l ⟨[(false,9,aq),(true,10012,aa9)],[]⟩ (.c (.n 4 (.c .o .o)) .o)) .o) (.r [70000,12] .o))) .o))) call93 func93 (aw GB (aw Vm (aw Ig (aw K6 (aw dZ (aw CA ax)))))) ax (aw ZP ax) λ_=>by kernel_rfl
def Ir:bY:=⟨66,[(.bx 100 0 false QL4),(.own Cl 171 true),aY],Qf,none,false,false,(.own Cl 171 true),[],λs=>fH (d8 (d8 (d8 (d8 (d8 s))))).2.2.2.2.2.1 (d8 (d8 (d8 (d8 (d8 s))))).2.2.2.2.2.2 s.1 s.2.1 s.2.2.1 s.2.2.2.1 s.2.2.2.2.1 s.2.2.2.2.2.1 s.2.2.2.2.2.2.1 s.2.2.2.2.2.2.2.1 s.2.2.2.2.2.2.2.2.1 (d8 s).2.1 (d8 s).2.2.1 (d8 s).2.2.2.1 (d8 s).2.2.2.2.1 (d8 s).2.2.2.2.2.1 (d8 s).2.2.2.2.2.2.1 (d8 s).2.2.2.2.2.2.2.1 (d8 (d8 s)).1 (d8 (d8 s)).2.1 (d8 (d8 s)).2.2.1 (d8 (d8 s)).2.2.2.1 (d8 (d8 s)).2.2.2.2.1 (d8 (d8 s)).2.2.2.2.2.1 (d8 (d8 s)).2.2.2.2.2.2.1 (d8 (d8 s)).2.2.2.2.2.2.2.1 (d8 (d8 (d8 s))).1 (d8 (d8 (d8 s))).2.1 (d8 (d8 (d8 s))).2.2.1 (d8 (d8 (d8 s))).2.2.2.1 (d8 (d8 (d8 s))).2.2.2.2.1 (d8 (d8 (d8 s))).2.2.2.2.2.1 (d8 (d8 (d8 s))).2.2.2.2.2.2.1 (d8 (d8 (d8 s))).2.2.2.2.2.2.2.1 (d8 (d8 (d8 (d8 s)))).1 (d8 (d8 (d8 (d8 s)))).2.1 (d8 (d8 (d8 (d8 s)))).2.2.1 (d8 (d8 (d8 (d8 s)))).2.2.2.1 (d8 (d8 (d8 (d8 s)))).2.2.2.2.1 (d8 (d8 (d8 (d8 s)))).2.2.2.2.2.1 (d8 (d8 (d8 (d8 s)))).2.2.2.2.2.2.1 (d8 (d8 (d8 (d8 s)))).2.2.2.2.2.2.2.1 (d8 (d8 (d8 (d8 (d8 s))))).1 (d8 (d8 (d8 (d8 (d8 s))))).2.1 (d8 (d8 (d8 (d8 (d8 s))))).2.2.1 (d8 (d8 (d8 (d8 (d8 s))))).2.2.2.1 (d8 (d8 (d8 (d8 (d8 s))))).2.2.2.2.1⟩
theorem tS:Lb Ir:=
 afH (.s (.j ⟨[],[]⟩ .o (.r [] (.j ⟨[],[]⟩ .o .o)))) call66 func66 (aw Vx ax)
def Hw:aA:=⟨106,[aY,aq],aq,[],U2 rP⟩
theorem C5:Ko Hw:=
 aG (.l ⟨[(false,8,aq)],[]⟩ .o) call106 func106 ax
def CN:aA:=⟨95,[aY,aq],.bool,[],U2 nR⟩
theorem AF:Ko CN:=
 aG .o call95 func95 (aw C5 ax)
def abt:aA:=⟨67,[pc,aY],.bool,[],U2 x6⟩
theorem Ul:Ko abt:=
 aG .o call67 func67 (aw GB (aw AF ax))
def Dm:aA:=⟨72,[UB],im,[],λs=>u5 s⟩
theorem AM:Ko Dm:=
 aG .o call72 func72 ax
def Hh:aA:=⟨69,[aY,aY],.bool,[],U2 ml⟩
theorem CT:Ko Hh:=
 aG (.c .o (.l ⟨[(false,13,aq)],[]⟩ .o)) call69 func69 ax
def Ya:aA:=⟨70,[(.sli Cl)],yx,[],λs=>A9 s⟩
theorem QZ:Ko Ya:=
 aG (.l ⟨[(false,3,yx),(false,8,aq)],[]⟩ .o) call70 func70 ax
def CP:bY:=⟨68,[UB,aY,aaA,(.bx 123 0 false [UB])],aaN,none,false,true,im,[],U4 jZ⟩
theorem Ak:Lb CP:=
 afH (.c (.r [80000] .o) .o) call68 func68 (aw CT (aw QZ ax))
def aeR:aA:=⟨174,[aq],nM,[],λs=>ES s⟩
theorem Lh:Ko aeR:=
 aG .o call174 func174 ax
def XK:aA:=⟨168,[aq,nM,afp,YB],im,[(true,3,YB)],U7 HD⟩
theorem QM:Ko XK:=
 aG .o call168 func168 ax
def ahF:aA:=⟨167,[Ra,eO,aq,(.fn 168 [] [afp,YB])],aq,[(true,3,(.fn 168 [] [.same,YB]))],U8 Vv⟩
theorem Zl:Ko ahF:=
 aG .o call167 func167 (aw Lh (aw oE (aw QM ax)))
def ae5:aA:=⟨162,[Ra,eO,aq],G3,[],U3 J1⟩
theorem Xq:Ko ae5:=
 aG .o call162 func162 (aw Zl ax)
def OM:aA:=⟨156,[pM,pz,aY,aq],G3,[],U4 oC⟩
theorem KS:Ko OM:=
 aG (.r [5] .o) call156 func156 (aw fy (aw Xq ax))
def aiN:aA:=⟨205,[L8,jT,aY,aq],(.cW [aq,aq]),[],U4 Dv⟩
theorem NU:Ko aiN:=
 aG .o call205 func205 (aw iT (aw IK ax))
def afl:aA:=⟨202,[L8,jT,aY,aq],G3,[],U4 K0⟩
theorem Xt:Ko afl:=
 aG .o call202 func202 (aw NU ax)
def Nv:aA:=⟨196,[pM,pz,aY,aq],G3,[],U4 nr⟩
theorem IB:Ko Nv:=
 aG .o call196 func196 (aw Xt ax)
def aiS:aA:=⟨225,[NQ,jT,aY,aq],(.cW [aq,aq]),[],U4 DC⟩
theorem Mj:Ko aiS:=
 aG .o call225 func225 (aw iT (aw H9 ax))
def afC:aA:=⟨220,[NQ,jT,aY,aq],G3,[],U4 JW⟩
theorem XV:Ko afC:=
 aG .o call220 func220 (aw Mj ax)
def NR:aA:=⟨214,[pM,pz,aY,aq],G3,[],U4 nc⟩
theorem Ja:Ko NR:=
 aG .o call214 func214 (aw XV ax)
def SV:aA:=⟨247,[pz,aY,aq],aq,[],U3 sn⟩
theorem Bz:Ko SV:=
 aG (.c .o (.r [3] .o)) call247 func247 (aw fy (aw yU ax))
def OU:aA:=⟨241,[pM,pz,aY,aq],G3,[],U4 oN⟩
theorem Kd:Ko OU:=
 aG (.c .o (.r [5] .o)) call241 func241 (aw Bz (aw fy (aw yU ax)))
def agM:aA:=⟨284,[xJ,eO,aq],aq,[],U3 EO⟩
theorem K8:Ko agM:=
 aG .o call284 func284 (aw DH ax)
def VG:aA:=⟨288,[xJ,eO,aq,V6],im,[(true,3,V6)],U4 Ec⟩
theorem OZ:Ko VG:=
 aG (.l ⟨[(true,3,V6),(false,19,aq)],[]⟩ (.c (.r [3] .o) .o)) call288 func288 (aw oL ax)
def XT:aA:=⟨285,[xJ,eO,aq],.bool,[],U3 Bm⟩
theorem QV:Ko XT:=
 aG .o call285 func285 (aw OZ ax)
def afZ:aA:=⟨281,[xJ,eO,aq],G3,[],U3 Ki⟩
theorem XF:Ko afZ:=
 aG .o call281 func281 (aw K8 (aw QV ax))
def O1:aA:=⟨275,[pM,pz,aY,aq],G3,[],U4 og⟩
theorem Km:Ko O1:=
 aG (.r [5] .o) call275 func275 (aw fy (aw XF ax))
def acf:aA:=⟨96,[pz,aY,aq],G3,[],U3 dM⟩
theorem UC:Ko acf:=
 aG (.c .o (.r [3] .o)) call96 func96 (aw iT (aw B7 (aw KS (aw IB (aw Ja (aw Kd (aw Km ax)))))))
def Xz:aA:=⟨172,[aq,nM,afp,akR],im,[(true,3,(.bx 76 0 true [.same,.same,.same,eO]))],λs=>HJ s.1 s.2.1 s.2.2.1 s.2.2.2.1 s.2.2.2.2.1 s.2.2.2.2.2.1 s.2.2.2.2.2.2.1 s.2.2.2.2.2.2.2.1 s.2.2.2.2.2.2.2.2.1 (d8 s).2⟩
theorem Qt:Ko Xz:=
 aG .o call172 func172 (aw eR ax)
def abB:aA:=⟨167,[Ra,eO,aq,(.fn 172 [] [afp,akR])],aq,[(true,3,(.fn 172 [] [.same,akR]))],λs=>Jw s.1 s.2.1 s.2.2.1 s.2.2.2.1 s.2.2.2.2.1 s.2.2.2.2.2.1 s.2.2.2.2.2.2.1 s.2.2.2.2.2.2.2.1 s.2.2.2.2.2.2.2.2.1 (d8 s).2.1 (d8 s).2.2⟩
theorem Uq:Ko abB:=
 aG .o call167 func167 (aw Lh (aw oE (aw Qt ax)))
def afJ:aA:=⟨165,[Ra,eO,aq],(.cW [Ra,aq]),[],U3 Kg⟩
theorem XL:Ko afJ:=
 aG .o call165 func165 (aw Uq ax)
def OP:aA:=⟨160,[pM,pz,aY,aq],KO,[],U4 oq⟩
theorem Jj:Ko OP:=
 aG (.r [40000] .o) call160 func160 (aw fy (aw XL ax))
def agU:aA:=⟨204,[L8,jT,aY,aq],(.cW [L8,aq]),[],U4 J4⟩
theorem XY:Ko agU:=
 aG (.c .o (.r [4] .o)) call204 func204 (aw NU (aw eR ax))
def Me:aA:=⟨200,[pM,pz,aY,aq],KO,[],U4 mX⟩
theorem Ij:Ko Me:=
 aG .o call200 func200 (aw XY ax)
def agA:aA:=⟨222,[NQ,jT,aY,aq],(.cW [NQ,aq]),[],U4 Kc⟩
theorem Yj:Ko agA:=
 aG (.c .o (.r [4] .o)) call222 func222 (aw Mj (aw eR ax))
def MG:aA:=⟨218,[pM,pz,aY,aq],KO,[],U4 mS⟩
theorem IP:Ko MG:=
 aG .o call218 func218 (aw Yj ax)
def OS:aA:=⟨245,[pM,pz,aY,aq],KO,[],U4 oz⟩
theorem KV:Ko OS:=
 aG (.c .o (.r [5] .o)) call245 func245 (aw Bz (aw fy (aw F0 ax)))
def VX:aA:=⟨288,[(.dat Hz [none,some 11,none]),eO,(.nK (.int .i64 1)),(.fn 290 [] [])],im,[(true,0,(.agg [.same,.same,.same,.same,jm,.same]))],U2 Fm⟩
theorem O6:Ko VX:=
 aG (.l ⟨[(true,0,(.agg [.same,.same,.same,.same,jm,.same])),(false,19,aq)],[]⟩ (.c (.r [4,0] .o) .o)) call288 func288 (aw oL ax)
def UI:aA:=⟨288,[(.dat Hz [none,none,some 11]),eO,(.nK (.int .i64 2)),(.fn 290 [] [])],im,[(true,0,(.agg [.same,.same,.same,.same,.same,jm]))],U2 E9⟩
theorem OW:Ko UI:=
 aG (.l ⟨[(true,0,(.agg [.same,.same,.same,.same,.same,jm])),(false,19,aq)],[]⟩ (.c (.r [4,0] .o) .o)) call288 func288 (aw oL ax)
def XG:aA:=⟨287,[xJ,eO,aq],xJ,[],U3 A8⟩
theorem P4:Ko XG:=
 aG (.r [60000,2,0,0,1,2] (.c .o (.c .o (.c .o (.n 77777 .o))))) call287 func287 (aw eR (aw Ct (aw O6 (aw OW ax))))
def aeV:aA:=⟨283,[xJ,eO,aq],(.cW [xJ,aq]),[],U3 JK⟩
theorem Xv:Ko aeV:=
 aG .o call283 func283 (aw K8 (aw P4 ax))
def ON:aA:=⟨279,[pM,pz,aY,aq],KO,[],U4 ov⟩
theorem Ju:Ko ON:=
 aG (.r [40000] .o) call279 func279 (aw fy (aw Xv ax))
def acj:aA:=⟨97,[pz,aY,aq],KO,[],U3 gz⟩
theorem V7:Ko acj:=
 aG (.c .o (.r [3,6] .o)) call97 func97 (aw iT (aw B7 (aw Jj (aw Ij (aw IP (aw KV (aw Ju ax)))))))
def LK:bY:=⟨71,[VU,aY],Qf,none,false,false,.bool,[(true,0,JA)],λs=>pC (d8 (d8 (d8 (d8 (d8 s))))).2.2.2.2.2 s.1 s.2.1 s.2.2.1 s.2.2.2.1 s.2.2.2.2.1 s.2.2.2.2.2.1 s.2.2.2.2.2.2.1 s.2.2.2.2.2.2.2.1 s.2.2.2.2.2.2.2.2.1 (d8 s).2.1 (d8 s).2.2.1 (d8 s).2.2.2.1 (d8 s).2.2.2.2.1 (d8 s).2.2.2.2.2.1 (d8 s).2.2.2.2.2.2.1 (d8 s).2.2.2.2.2.2.2.1 (d8 (d8 s)).1 (d8 (d8 s)).2.1 (d8 (d8 s)).2.2.1 (d8 (d8 s)).2.2.2.1 (d8 (d8 s)).2.2.2.2.1 (d8 (d8 s)).2.2.2.2.2.1 (d8 (d8 s)).2.2.2.2.2.2.1 (d8 (d8 s)).2.2.2.2.2.2.2.1 (d8 (d8 (d8 s))).1 (d8 (d8 (d8 s))).2.1 (d8 (d8 (d8 s))).2.2.1 (d8 (d8 (d8 s))).2.2.2.1 (d8 (d8 (d8 s))).2.2.2.2.1 (d8 (d8 (d8 s))).2.2.2.2.2.1 (d8 (d8 (d8 s))).2.2.2.2.2.2.1 (d8 (d8 (d8 s))).2.2.2.2.2.2.2.1 (d8 (d8 (d8 (d8 s)))).1 (d8 (d8 (d8 (d8 s)))).2.1 (d8 (d8 (d8 (d8 s)))).2.2.1 (d8 (d8 (d8 (d8 s)))).2.2.2.1 (d8 (d8 (d8 (d8 s)))).2.2.2.2.1 (d8 (d8 (d8 (d8 s)))).2.2.2.2.2.1 (d8 (d8 (d8 (d8 s)))).2.2.2.2.2.2.1 (d8 (d8 (d8 (d8 s)))).2.2.2.2.2.2.2.1 (d8 (d8 (d8 (d8 (d8 s))))).1 (d8 (d8 (d8 (d8 (d8 s))))).2.1 (d8 (d8 (d8 (d8 (d8 s))))).2.2.1 (d8 (d8 (d8 (d8 (d8 s))))).2.2.2.1 (d8 (d8 (d8 (d8 (d8 s))))).2.2.2.2.1⟩
theorem Ho:Lb LK:=
 Mx .o call71 func71 (aw UC (aw V7 ax)) (aw oZ ax) ax λ_=>by kernel_rfl
def Jc:bY:=⟨41,[VU,aY,(.fn 71 [(.ptr 0 0)] []),(.fn 68 [] [aaA,(.bx 123 0 false [UB])]),(.fn 72 [] [])],Qf,some aaN,false,true,im,[(true,0,JA)],λs=>nG (d8 (d8 (d8 (d8 (d8 s))))).2.2.2.2.2.1 s.1 s.2.1 s.2.2.1 s.2.2.2.1 s.2.2.2.2.1 s.2.2.2.2.2.1 s.2.2.2.2.2.2.1 s.2.2.2.2.2.2.2.1 s.2.2.2.2.2.2.2.2.1 (d8 s).2.1 (d8 s).2.2.1 (d8 s).2.2.2.1 (d8 s).2.2.2.2.1 (d8 s).2.2.2.2.2.1 (d8 s).2.2.2.2.2.2.1 (d8 s).2.2.2.2.2.2.2.1 (d8 (d8 s)).1 (d8 (d8 s)).2.1 (d8 (d8 s)).2.2.1 (d8 (d8 s)).2.2.2.1 (d8 (d8 s)).2.2.2.2.1 (d8 (d8 s)).2.2.2.2.2.1 (d8 (d8 s)).2.2.2.2.2.2.1 (d8 (d8 s)).2.2.2.2.2.2.2.1 (d8 (d8 (d8 s))).1 (d8 (d8 (d8 s))).2.1 (d8 (d8 (d8 s))).2.2.1 (d8 (d8 (d8 s))).2.2.2.1 (d8 (d8 (d8 s))).2.2.2.2.1 (d8 (d8 (d8 s))).2.2.2.2.2.1 (d8 (d8 (d8 s))).2.2.2.2.2.2.1 (d8 (d8 (d8 s))).2.2.2.2.2.2.2.1 (d8 (d8 (d8 (d8 s)))).1 (d8 (d8 (d8 (d8 s)))).2.1 (d8 (d8 (d8 (d8 s)))).2.2.1 (d8 (d8 (d8 (d8 s)))).2.2.2.1 (d8 (d8 (d8 (d8 s)))).2.2.2.2.1 (d8 (d8 (d8 (d8 s)))).2.2.2.2.2.1 (d8 (d8 (d8 (d8 s)))).2.2.2.2.2.2.1 (d8 (d8 (d8 (d8 s)))).2.2.2.2.2.2.2.1 (d8 (d8 (d8 (d8 (d8 s))))).1 (d8 (d8 (d8 (d8 (d8 s))))).2.1 (d8 (d8 (d8 (d8 (d8 s))))).2.2.1 (d8 (d8 (d8 (d8 (d8 s))))).2.2.2.1 (d8 (d8 (d8 (d8 (d8 s))))).2.2.2.2.1 (d8 (d8 (d8 (d8 (d8 s))))).2.2.2.2.2.2.1 (d8 (d8 (d8 (d8 (d8 s))))).2.2.2.2.2.2.2⟩
theorem Fb:Lb Jc:=
 Mx (.l ⟨[(true,0,JA),(false,11,(.own Cl 171 true))],[]⟩ .o) call41 func41 (aw AM ax) (aw tS (aw Ak (aw Ho ax))) ax λ_=>by kernel_rfl
def Hp:bY:=⟨43,[VU,UB],Qf,some aaN,false,true,im,[(true,0,JA)],λs=>lX (d8 (d8 (d8 (d8 (d8 s))))).2.2.2.2.2 s.1 s.2.1 s.2.2.1 s.2.2.2.1 s.2.2.2.2.1 s.2.2.2.2.2.1 s.2.2.2.2.2.2.1 s.2.2.2.2.2.2.2.1 s.2.2.2.2.2.2.2.2.1 (d8 s).2.1 (d8 s).2.2.1 (d8 s).2.2.2.1 (d8 s).2.2.2.2.1 (d8 s).2.2.2.2.2.1 (d8 s).2.2.2.2.2.2.1 (d8 s).2.2.2.2.2.2.2.1 (d8 (d8 s)).1 (d8 (d8 s)).2.1 (d8 (d8 s)).2.2.1 (d8 (d8 s)).2.2.2.1 (d8 (d8 s)).2.2.2.2.1 (d8 (d8 s)).2.2.2.2.2.1 (d8 (d8 s)).2.2.2.2.2.2.1 (d8 (d8 s)).2.2.2.2.2.2.2.1 (d8 (d8 (d8 s))).1 (d8 (d8 (d8 s))).2.1 (d8 (d8 (d8 s))).2.2.1 (d8 (d8 (d8 s))).2.2.2.1 (d8 (d8 (d8 s))).2.2.2.2.1 (d8 (d8 (d8 s))).2.2.2.2.2.1 (d8 (d8 (d8 s))).2.2.2.2.2.2.1 (d8 (d8 (d8 s))).2.2.2.2.2.2.2.1 (d8 (d8 (d8 (d8 s)))).1 (d8 (d8 (d8 (d8 s)))).2.1 (d8 (d8 (d8 (d8 s)))).2.2.1 (d8 (d8 (d8 (d8 s)))).2.2.2.1 (d8 (d8 (d8 (d8 s)))).2.2.2.2.1 (d8 (d8 (d8 (d8 s)))).2.2.2.2.2.1 (d8 (d8 (d8 (d8 s)))).2.2.2.2.2.2.1 (d8 (d8 (d8 (d8 s)))).2.2.2.2.2.2.2.1 (d8 (d8 (d8 (d8 (d8 s))))).1 (d8 (d8 (d8 (d8 (d8 s))))).2.1 (d8 (d8 (d8 (d8 (d8 s))))).2.2.1 (d8 (d8 (d8 (d8 (d8 s))))).2.2.2.1 (d8 (d8 (d8 (d8 (d8 s))))).2.2.2.2.1⟩
theorem Dj:Lb Hp:=
 Mx .o call43 func43 (aw Ul ax) (aw Fb ax) ax λ_=>by kernel_rfl
def CO:aA:=⟨42,[UB,aY],im,[],U2 uZ⟩
theorem AZ:Ko CO:=
 aG .o call42 func42 ax
def Ng:bY:=⟨41,[VU,aY,(.fn 40 [(.ptr 0 0)] []),(.fn 42 [] []),(.fn 43 [(.ptr 0 0)] [])],Qf,some aaN,false,false,im,[(true,0,JA)],λs=>wx (d8 (d8 (d8 (d8 (d8 s))))).2.2.2.2.2 s.1 s.2.1 s.2.2.1 s.2.2.2.1 s.2.2.2.2.1 s.2.2.2.2.2.1 s.2.2.2.2.2.2.1 s.2.2.2.2.2.2.2.1 s.2.2.2.2.2.2.2.2.1 (d8 s).2.1 (d8 s).2.2.1 (d8 s).2.2.2.1 (d8 s).2.2.2.2.1 (d8 s).2.2.2.2.2.1 (d8 s).2.2.2.2.2.2.1 (d8 s).2.2.2.2.2.2.2.1 (d8 (d8 s)).1 (d8 (d8 s)).2.1 (d8 (d8 s)).2.2.1 (d8 (d8 s)).2.2.2.1 (d8 (d8 s)).2.2.2.2.1 (d8 (d8 s)).2.2.2.2.2.1 (d8 (d8 s)).2.2.2.2.2.2.1 (d8 (d8 s)).2.2.2.2.2.2.2.1 (d8 (d8 (d8 s))).1 (d8 (d8 (d8 s))).2.1 (d8 (d8 (d8 s))).2.2.1 (d8 (d8 (d8 s))).2.2.2.1 (d8 (d8 (d8 s))).2.2.2.2.1 (d8 (d8 (d8 s))).2.2.2.2.2.1 (d8 (d8 (d8 s))).2.2.2.2.2.2.1 (d8 (d8 (d8 s))).2.2.2.2.2.2.2.1 (d8 (d8 (d8 (d8 s)))).1 (d8 (d8 (d8 (d8 s)))).2.1 (d8 (d8 (d8 (d8 s)))).2.2.1 (d8 (d8 (d8 (d8 s)))).2.2.2.1 (d8 (d8 (d8 (d8 s)))).2.2.2.2.1 (d8 (d8 (d8 (d8 s)))).2.2.2.2.2.1 (d8 (d8 (d8 (d8 s)))).2.2.2.2.2.2.1 (d8 (d8 (d8 (d8 s)))).2.2.2.2.2.2.2.1 (d8 (d8 (d8 (d8 (d8 s))))).1 (d8 (d8 (d8 (d8 (d8 s))))).2.1 (d8 (d8 (d8 (d8 (d8 s))))).2.2.1 (d8 (d8 (d8 (d8 (d8 s))))).2.2.2.1 (d8 (d8 (d8 (d8 (d8 s))))).2.2.2.2.1⟩
theorem Iu:Lb Ng:=
 Mx (.l ⟨[(true,0,JA),(false,11,(.own Cl 171 true))],[]⟩ .o) call41 func41 (aw AZ ax) (aw tS (aw Dj (aw oZ ax))) ax λ_=>by kernel_rfl
def LA:bY:=⟨25,[VU],Qf,some aaN,false,false,im,[(true,0,JA)],λs=>pJ s.1 s.2.1 s.2.2.1 s.2.2.2.1 s.2.2.2.2.1 s.2.2.2.2.2.1 s.2.2.2.2.2.2.1 s.2.2.2.2.2.2.2.1 s.2.2.2.2.2.2.2.2.1 (d8 s).2.1 (d8 s).2.2.1 (d8 s).2.2.2.1 (d8 s).2.2.2.2.1 (d8 s).2.2.2.2.2.1 (d8 s).2.2.2.2.2.2.1 (d8 s).2.2.2.2.2.2.2.1 (d8 (d8 s)).1 (d8 (d8 s)).2.1 (d8 (d8 s)).2.2.1 (d8 (d8 s)).2.2.2.1 (d8 (d8 s)).2.2.2.2.1 (d8 (d8 s)).2.2.2.2.2.1 (d8 (d8 s)).2.2.2.2.2.2.1 (d8 (d8 s)).2.2.2.2.2.2.2.1 (d8 (d8 (d8 s))).1 (d8 (d8 (d8 s))).2.1 (d8 (d8 (d8 s))).2.2.1 (d8 (d8 (d8 s))).2.2.2.1 (d8 (d8 (d8 s))).2.2.2.2.1 (d8 (d8 (d8 s))).2.2.2.2.2.1 (d8 (d8 (d8 s))).2.2.2.2.2.2.1 (d8 (d8 (d8 s))).2.2.2.2.2.2.2.1 (d8 (d8 (d8 (d8 s)))).1 (d8 (d8 (d8 (d8 s)))).2.1 (d8 (d8 (d8 (d8 s)))).2.2.1 (d8 (d8 (d8 (d8 s)))).2.2.2.1 (d8 (d8 (d8 (d8 s)))).2.2.2.2.1 (d8 (d8 (d8 (d8 s)))).2.2.2.2.2.1 (d8 (d8 (d8 (d8 s)))).2.2.2.2.2.2.1 (d8 (d8 (d8 (d8 s)))).2.2.2.2.2.2.2.1 (d8 (d8 (d8 (d8 (d8 s))))).1 (d8 (d8 (d8 (d8 (d8 s))))).2.1 (d8 (d8 (d8 (d8 (d8 s))))).2.2.1 (d8 (d8 (d8 (d8 (d8 s))))).2.2.2.1 (d8 (d8 (d8 (d8 (d8 s))))).2.2.2.2⟩
theorem Hg:Lb LA:=
 Mx (.r [] (.l ⟨[(true,0,JA),(false,14,aq)],[]⟩ .o)) call25 func25 (aw Wd ax) (aw oZ (aw Iu ax)) ax λ_=>by kernel_rfl
def aci:aA:=⟨10,[sJ,pc,Rt],(.cW [.bool,(.dat HL [none,none]),aq,aY]),[],U3 jQ⟩
theorem amR:(⟨24,Tryz.f24⟩:py).Ok X0.P:=⟨call24,func24⟩
theorem H6:Ko aci:=
 eC (.c (.r [6,7,8,9] .o) .o) call10 func10 (aw QU (aw Va ax)) (aw Hg ax) (aw amR ax) λ_=>by kernel_rfl
def Nz:aA:=⟨81,[jT,aY],aq,[],U2 DL⟩
theorem IF:Ko Nz:=
 aG (.c .o (.l ⟨[(false,5,aq)],[]⟩ .o)) call81 func81 ax
def MJ:aA:=⟨54,[sJ,aY],.bool,[],U2 Fi⟩
theorem IC:Ko MJ:=
 aG .o call54 func54 (aw IF ax)
def MX:aA:=⟨28,[sJ,pc,aY],.bool,[],U3 Fc⟩
theorem Iy:Ko MX:=
 aG .o call28 func28 (aw IC ax)
def Iw:aA:=⟨99,[.bool],aq,[],λs=>bd s⟩
theorem ET:Ko Iw:=
 aG .o call99 func99 ax
def xR:aA:=⟨80,[wB,aY],aq,[],U2 eQ⟩
def FK(d:Ex->Ex)(j:Sh->(R:Type)->Option R->Option R)(h:(Ex×Q1)->zb)(e:Ex)(g:Q1)(i:Int):zb:= ai (λ(b:Int)=>lz e g i b) λa=> bif decide (1<(List.length e.l:Int)) then (idx e.l 1).bind λf=> (h ((d f),g)).bind λc=> a c else a 0
def ph(d:Ex->Ex)(i:Sh->(R:Type)->Option R->Option R)(h:(Ex×Q1)->zb)(e:Ex)(g:Q1):zb:= ai (λ(b:Int)=>FK d i h e g b) λa=> bif decide (0<(List.length e.l:Int)) then (idx e.l 0).bind λf=> (h ((d f),g)).bind λc=> a c else a 0
def yi:TK8->TK8:=λa s=>mw a s.1 s.2
theorem CM(a:TK8)(c:OK8 a):(lg (yi a)).Ok X0.P X0.Γ:=
 eC (.s (.s (.s (.j ⟨[(false,5,aq)],[]⟩ .o (.j ⟨[(false,6,aq)],[]⟩ .o .o))))) call80 func80 (aw ET (aw c ax)) ax ax λs=>(show _=ph lC eK a s.1 s.2 from by kernel_rfl).trans ((congrArg (λb=>ph b eK a s.1 s.2) dX).trans ((congrArg (λd=>ph id d a s.1 s.2) fU).trans (by kernel_rfl)))
theorem nO:Ko xR:=(show xR=lg (aj (yi) au) by kernel_rfl)▸n3 (X:=X0) (E:=lg) ⟨call80,λ_ _ h=>nomatch h⟩ (CM) au
def KJ:aA:=⟨82,[pc,aq,aY],.bool,[],U3 ur⟩
def Fu(e:Ex->Ex)(j:Sh->(R:Type)->Option R->Option R)(a:Q9)(q:Int)(h:Q1)(b:Int->x3)(d:Int):x3:= (idx a.1 q).bind λi=> bif decide (d<(i.length:Int)) then (idx a.1 q).bind λg=> (idx g d).bind λf=> (eQ (e f) h).bind λc=> bif c != 1 then some false else b (i64.wrap (d+1)) else some true
def rU(b:Ex->Ex)(d:Sh->(R:Type)->Option R->Option R)(a:Q9)(q:Int)(c:Q1):x3:= aj (Fu b d a q c) au 0
theorem FB:Ko KJ:=
 eC (.l ⟨[(false,7,aq)],[]⟩ .o) call82 func82 (aw nO ax) ax ax λs=>(show _=rU lC eK s.1 s.2.1 s.2.2 from by kernel_rfl).trans ((congrArg (λa=>rU a eK s.1 s.2.1 s.2.2) dX).trans ((congrArg (λb=>rU id b s.1 s.2.1 s.2.2) fU).trans (by kernel_rfl)))
def LJ:aA:=⟨32,[aY,aY],.bool,[],U2 gR⟩
theorem vV:Ko LJ:=
 aG (.c .o (.l ⟨[(false,5,aq)],[]⟩ .o)) call32 func32 ax
def DN:aA:=⟨16,[(.own tf 24 false),aY],aq,[],U2 dm⟩
theorem gX:Ko DN:=
 aG (.l ⟨[(false,5,aq)],[]⟩ .o) call16 func16 (aw vV ax)
def HQ:aA:=⟨55,[yx,pc,aY,aY],yx,[],U4 lT⟩
theorem sT:Ko HQ:=
 aG (.l ⟨[(false,0,yx),(false,9,aq)],[]⟩ (.c (.r [40000] .o) .o)) call55 func55 (aw FB (aw gX ax))
def JP:aA:=⟨29,[sJ,pc],yx,[],U2 kJ⟩
theorem uY:Ko JP:=
 aG .o call29 func29 (aw sT ax)
def Ih:aA:=⟨16,[(.sli tf),aY],aq,[],U2 sQ⟩
theorem tH:Ko Ih:=
 aG (.l ⟨[(false,5,aq)],[]⟩ .o) call16 func16 (aw vV ax)
def FD:aA:=⟨52,[sJ,aY],lE,[],U2 p7⟩
def Cd(f:Ex->Ex)(h:Sh->(R:Type)->Option R->Option R)(m:iM)(d:Q1)(a:fS->Option Q1):Q1×Int->Option Q1:=λ⟨b,c⟩=> bif decide (c<(m.2.2.2.2.length:Int)) then (idx m.2.2.2.2 c).bind λg=> (eQ (f g.2.1) d).bind λe=> bif e==1 then aN (aH (List.length b+List.length ([c]:zj)) 8)<| a ((b++([c]:zj)),(i64.wrap (c+1))) else a (b,(i64.wrap (c+1))) else some b
def nP(b:Ex->Ex)(c:Sh->(R:Type)->Option R->Option R)(m:iM)(a:Q1):Option Q1:= aj (Cd b c m a) au ([],0)
theorem BX:Ko FD:=
 eC (.l ⟨[(false,5,lE),(false,6,aq)],[]⟩ .o) call52 func52 (aw nO ax) ax ax λs=>(show _=nP lC eK s.1 s.2 from by kernel_rfl).trans ((congrArg (λa=>nP a eK s.1 s.2) dX).trans ((congrArg (λb=>nP id b s.1 s.2) fU).trans (by kernel_rfl)))
def J2:aA:=⟨53,[sJ,aY,aq],(.cW [lE,aq]),[],U3 oI⟩
def Fy(g:Ex->Ex)(l:Sh->(R:Type)->Option R->Option R)(m:iM)(e:Q1)(k:Int)(a:fS->Option fS):Q1×Int->Option fS:=λ⟨b,c⟩=> (idx m.2.2.2.2 k).bind λi=> bif decide (c<(i.2.2.length:Int)) then (idx m.2.2.2.2 k).bind λh=> (idx h.2.2 c).bind λd=> (eQ (g d.2) e).bind λf=> (idx b d.1).bind λj=> a ((List.set b (Int.toNat d.1) f),(i64.wrap (c+1))) else aj (iR m b) au 0
def rV(b:Ex->Ex)(e:Sh->(R:Type)->Option R->Option R)(m:iM)(a:Q1)(k:Int):Option fS:= ai (decide (k<0)) λf=> ai (decide ((m.2.2.2.2.length:Int)<=k)) λd=> ai (f||d) λc=> bif c then ( some ([],10)) else ( aN (aH (List.length ([]:zj)+List.length a) 8)<| aj (Fy b e m a k) au ((([]:zj)++a),0))
theorem FN:Ko J2:=
 eC (.c .o (.l ⟨[(true,8,lE),(false,9,aq)],[]⟩ (.c (.r [8] .o) (.l ⟨[(false,11,aq)],[]⟩ .o)))) call53 func53 (aw nO ax) ax ax λs=>(show _=rV lC eK s.1 s.2.1 s.2.2 from by kernel_rfl).trans ((congrArg (λa=>rV a eK s.1 s.2.1 s.2.2) dX).trans ((congrArg (λb=>rV id b s.1 s.2.1 s.2.2) fU).trans (by kernel_rfl)))
def JC:aA:=⟨27,[sJ,aY],Uz,[],U2 ob⟩
theorem Fw:Ko JC:=
 aG (.c .o (.l ⟨[(false,7,yx),(false,8,aq)],[]⟩ .o)) call27 func27 (aw BX (aw FN (aw gX ax)))
def JF:aA:=⟨31,[sJ,pc,aY],Uz,[],U3 kP⟩
theorem uV:Ko JF:=
 aG (.r [] (.c .o (.l ⟨[(false,11,yx),(false,12,aq)],[]⟩ (.c (.r [11] .o) .o)))) call31 func31 (aw Fw (aw sT ax))
def LO:aA:=⟨30,[sJ,pc,aY,aY],.bool,[],U4 vd⟩
theorem HF:Ko LO:=
 aG .o call30 func30 (aw uV (aw tH ax))
def I7:aA:=⟨20,[pc,aY],.bool,[],U2 Ac⟩
theorem EK:Ko I7:=
 aG (.l ⟨[(false,5,aq)],[]⟩ .o) call20 func20 ax
def II:aA:=⟨14,[sJ,pc,(.dat HL [none,none])],.bool,[],U3 y4⟩
theorem Fh:Ko II:=
 aG (.r [] (.c .o (.l ⟨[(false,8,aq)],[]⟩ (.c .o (.r [20007] (.c .o (.l ⟨[(false,10,aq)],[]⟩ (.c .o (.r [] (.l ⟨[(false,13,.bool),(false,14,aq)],[]⟩ .o)))))))))) call14 func14 (aw Iy (aw uY (aw tH (aw HF (aw EK ax)))))
def Ib:aA:=⟨7,[],.bool,[],λ_=>sE⟩
theorem EX:Ko Ib:=
 aG .o call7 func7 (aw wS (aw H6 (aw Fh ax)))
def yj:aA:=⟨83,[wB,aq],aq,[],U2 kS⟩
def FX(d:Ex->Ex)(m:Sh->(R:Type)->Option R->Option R)(j:wW->zb)(e:Ex)(most:Int)(a:jl->zb):Int×Int->zb:=λ⟨g,c⟩=> ai (decide (c<(List.length e.l:Int))) λk=> ai (decide (1<most)) λi=> ai (k&&i) λh=> bif h then ( (idx e.l c).bind λf=> (j ((d f),(i64.wrap (most-1)))).bind λb=> bif decide (g<(i64.wrap (1+b))) then a ((i64.wrap (1+b)),(i64.wrap (c+1))) else a (g,(i64.wrap (c+1)))) else ( some g)
def pd(a:Ex->Ex)(c:Sh->(R:Type)->Option R->Option R)(b:wW->zb)(e:Ex)(most:Int):zb:= aj (FX a c b e most) au (1,0)
def yt:TK9->TK9:=λa s=>jk a s.1 s.2
theorem Dg(a:TK9)(c:OK9 a):(kU (yt a)).Ok X0.P X0.Γ:=
 eC (.l ⟨[(false,5,aq),(false,6,aq)],[]⟩ .o) call83 func83 (aw c ax) ax ax λs=>(show _=pd lC eK a s.1 s.2 from by kernel_rfl).trans ((congrArg (λb=>pd b eK a s.1 s.2) dX).trans ((congrArg (λd=>pd id d a s.1 s.2) fU).trans (by kernel_rfl)))
theorem Fv:Ko yj:=(show yj=kU (aj (yt) au) by kernel_rfl)▸n3 (X:=X0) (E:=kU) ⟨call83,λ_ _ h=>nomatch h⟩ (Dg) au
def xI:aA:=⟨84,[wB,aq],aq,[],U2 kL⟩
def FL(f:Ex->Ex)(m:Sh->(R:Type)->Option R->Option R)(j:wW->zb)(e:Ex)(most:Int)(a:jl->zb):Int×Int->zb:=λ⟨c,d⟩=> ai (decide (d<(List.length e.l:Int))) λk=> ai (decide (c<most)) λi=> ai (k&&i) λh=> bif h then ( (idx e.l d).bind λg=> (j ((f g),most)).bind λb=> a ((i64.wrap (c+b)),(i64.wrap (d+1)))) else ( some c)
def oT(a:Ex->Ex)(c:Sh->(R:Type)->Option R->Option R)(b:wW->zb)(e:Ex)(most:Int):zb:= aj (FL a c b e most) au (1,0)
def yG:aaU->aaU:=λa s=>jr a s.1 s.2
theorem Dc(a:aaU)(b:asT a):(lv (yG a)).Ok X0.P X0.Γ:=
 eC (.l ⟨[(false,5,aq),(false,6,aq)],[]⟩ .o) call84 func84 (aw b ax) ax ax λs=>(show _=oT lC eK a s.1 s.2 from by kernel_rfl).trans ((congrArg (λc=>oT c eK a s.1 s.2) dX).trans ((congrArg (λd=>oT id d a s.1 s.2) fU).trans (by kernel_rfl)))
theorem FJ:Ko xI:=(show xI=lv (aj (yG) au) by kernel_rfl)▸n3 (X:=X0) (E:=lv) ⟨call84,λ_ _ h=>nomatch h⟩ (Dc) au
def Lz:aA:=⟨56,[wB],.bool,[],λs=>cB s⟩
def sH(a:Ex->Ex)(h:Sh->(R:Type)->Option R->Option R)(e:Ex):x3:= (kS (a e) 45).bind λg=> (kL (a e) 300).bind λf=> ai (decide (g<45)) λd=> ai (decide (f<300)) λc=> ai (d&&c) λb=> some b
theorem GQ:Ko Lz:=
 eC .o call56 func56 (aw Fv (aw FJ ax)) ax ax λs=>(show _=sH lC eK s from by kernel_rfl).trans ((congrArg (λa=>sH a eK s) dX).trans ((congrArg (λb=>sH id b s) fU).trans (by kernel_rfl)))
def Lv:aA:=⟨33,[pc,aq],.bool,[],U2 pD⟩
def HS(h:Ex->Ex)(m:Sh->(R:Type)->Option R->Option R)(a:Q9)(g:Int)(e:Int)(c:jl->x3)(l:(List Ex))(b:Int->x3)(d:Int):x3:= (idx a.1 e).bind λk=> bif decide (d<(k.length:Int)) then (idx a.1 e).bind λj=> (idx j d).bind λi=> (cB (h i)).bind λf=> bif !f then some false else b (i64.wrap (d+1)) else c ((i64.wrap (g+(l.length:Int))),(i64.wrap (e+1)))
def Hi(e:Ex->Ex)(o:Sh->(R:Type)->Option R->Option R)(a:Q9)(most:Int)(b:jl->x3):Int×Int->x3:=λ⟨c,d⟩=> ai (decide (d<(a.1.length:Int))) λn=> ai (decide (c<4000)) λm=> ai (n&&m) λl=> bif l then ( (idx a.1 d).bind λf=> aj (HS e o a c d b f) au 0) else ( ai (decide (c<4000)) λk=> ai (decide ((a.1.length:Int)<=most)) λj=> ai (k&&j) λi=> ai (decide ((a.2.1.length:Int)<=most)) λh=> ai (i&&h) λg=> some g)
def GU(e:Ex->Ex)(j:Sh->(R:Type)->Option R->Option R)(a:Q9)(most:Int)(b:jl->x3):Int×Int->x3:=λ⟨c,d⟩=> ai (decide (d<(a.2.2.2.length:Int))) λi=> ai (decide (c<4000)) λh=> ai (i&&h) λg=> bif g then ( (idx a.2.2.2 d).bind λf=> b ((i64.wrap (c+(f.length:Int))),(i64.wrap (d+1)))) else ( aj (Hi e j a most) au (c,0))
def GV(e:Ex->Ex)(i:Sh->(R:Type)->Option R->Option R)(a:Q9)(most:Int)(b:jl->x3):Int×Int->x3:=λ⟨c,d⟩=> ai (decide (d<(a.2.1.length:Int))) λj=> ai (decide (c<4000)) λh=> ai (j&&h) λg=> bif g then ( (idx a.2.1 d).bind λf=> b ((i64.wrap (c+(f.length:Int))),(i64.wrap (d+1)))) else ( aj (GU e i a most) au (c,0))
def sN(b:Ex->Ex)(c:Sh->(R:Type)->Option R->Option R)(a:Q9)(most:Int):x3:= aj (GV b c a most) au ((i64.wrap ((a.2.2.1.length:Int)+(a.2.2.2.length:Int))),0)
theorem G6:Ko Lv:=
 eC (.l ⟨[(false,5,aq),(false,6,aq)],[]⟩ (.c .o (.l ⟨[(false,5,aq),(false,7,aq)],[]⟩ (.c .o (.l ⟨[(false,5,aq),(false,8,aq)],[]⟩ (.c (.l ⟨[(false,9,aq)],[]⟩ .o) .o)))))) call33 func33 (aw GQ ax) ax ax λs=>(show _=sN lC eK s.1 s.2 from by kernel_rfl).trans ((congrArg (λa=>sN a eK s.1 s.2) dX).trans ((congrArg (λb=>sN id b s.1 s.2) fU).trans (by kernel_rfl)))
def HO:aA:=⟨57,[aY,aq],.bool,[],U2 fc⟩
theorem CJ:Ko HO:=
 aG (.l ⟨[(false,5,aq)],[]⟩ .o) call57 func57 ax
def LC:aA:=⟨58,[wB],.bool,[],λs=>lP s⟩
def sF(a:Ex->Ex)(f:Sh->(R:Type)->Option R->Option R)(e:Ex):x3:= (dQ (a e)).bind λd=> ai (d.2.1==0) λb8=> ai (d.1==2) λc=> ai (b8&&c) λb=> some b
theorem Ha:Ko LC:=
 eC .o call58 func58 (aw uT ax) ax ax λs=>(show _=sF lC eK s from by kernel_rfl).trans ((congrArg (λa=>sF a eK s) dX).trans ((congrArg (λb=>sF id b s) fU).trans (by kernel_rfl)))
def Is:aA:=⟨34,[pc],.bool,[],λs=>nC s⟩
def Fs(g:Ex->Ex)(k:Sh->(R:Type)->Option R->Option R)(a:Q9)(d:Int)(c:Int->x3)(b:Int->x3)(e:Int):x3:= (idx a.1 d).bind λj=> bif decide (e<(j.length:Int)) then (idx a.1 d).bind λi=> (idx i e).bind λh=> (lP (g h)).bind λf=> bif !f then some false else b (i64.wrap (e+1)) else c (i64.wrap (d+1))
def EE(e:Ex->Ex)(g:Sh->(R:Type)->Option R->Option R)(a:Q9)(b:Int->x3)(c:Int):x3:= bif decide (c<(a.1.length:Int)) then (idx a.2.1 c).bind λf=> (fc f (a.1.length:Int)).bind λd=> bif !d then some false else aj (Fs e g a c b) au 0 else aj (iq a) au 0
def ri(b:Ex->Ex)(f:Sh->(R:Type)->Option R->Option R)(a:Q9):x3:= (fc a.2.2.1 (a.1.length:Int)).bind λe=> ai (!e) λb8=> ai ((a.2.1.length:Int) != (a.1.length:Int)) λd=> ai (b8||d) λc=> bif c then ( some false) else ( aj (EE b f a) au 0)
theorem Em:Ko Is:=
 eC (.c .o (.l ⟨[(false,5,aq)],[]⟩ (.c (.c .o (.l ⟨[(false,7,aq)],[]⟩ .o)) (.l ⟨[(false,9,aq)],[]⟩ .o)))) call34 func34 (aw CJ (aw Ha ax)) ax ax λs=>(show _=ri lC eK s from by kernel_rfl).trans ((congrArg (λa=>ri a eK s) dX).trans ((congrArg (λb=>ri id b s) fU).trans (by kernel_rfl)))
def Ad:aA:=⟨59,[wB,aq],.bool,[],U2 pG⟩
def Hj(g:Ex->Ex)(j:Sh->(R:Type)->Option R->Option R)(i:wW->x3)(e:Ex)(d:Int)(b:Int)(a:Int->x3)(c:Int):x3:= bif decide (c<b) then (idx e.l c).bind λh=> (i ((g h),d)).bind λf=> bif !f then some false else a (i64.wrap (c+1)) else some true
def HR(c:Ex->Ex)(y:Sh->(R:Type)->Option R->Option R)(z:wW->x3)(e:Ex)(b:Int)(a:Int):x3:= ai (decide (e.op<1)) λB=> ai (decide (24<e.op)) λA=> ai (B||A) λx=> ai ((List.length e.l:Int) != a) λw=> ai (x||w) λv=> bif v then ( some false) else ( ai (e.op==1) λu=> ai (decide (e.n<0)) λt=> ai (decide (1073741824<e.n)) λs=> ai (t||s) λr=> ai (u&&r) λq=> ai (e.op==2) λp=> ai (decide (e.n<0)) λo=> ai (decide (b<=e.n)) λm=> ai (o||m) λk=> ai (p&&k) λj=> ai (q||j) λi=> ai (decide (2<e.op)) λh=> ai (e.n != 0) λg=> ai (h&&g) λf=> ai (i||f) λd=> bif d then ( some false) else ( aj (Hj c y z e b a) au 0))
def rm(g:Ex->Ex)(h:Sh->(R:Type)->Option R->Option R)(i:wW->x3)(e:Ex)(b:Int):x3:= ai (λ(f:Int)=>HR g h i e b f) λc=> ai (λ(d:Bool)=>rX e c d) λa=> bif e.op==1 then a (e.op==1) else bif e.op==2 then a (e.op==2) else bif e.op==13 then a (e.op==13) else a (e.op==14)
def Ah:abT->abT:=λa s=>ig a s.1 s.2
theorem DF(a:abT)(b:asS a):(me (Ah a)).Ok X0.P X0.Γ:=
 eC (.s (.s (.j ⟨[(false,5,aq)],[]⟩ (.s (.j ⟨[(false,10,.bool)],[]⟩ .o (.c .o (.j ⟨[(false,15,.bool)],[]⟩ .o .o)))) (.c .o (.c .o (.l ⟨[(false,6,aq)],[]⟩ .o)))))) call59 func59 (aw b ax) ax ax λs=>(show _=rm lC eK a s.1 s.2 from by kernel_rfl).trans ((congrArg (λd=>rm d eK a s.1 s.2) dX).trans ((congrArg (λe=>rm id e a s.1 s.2) fU).trans (by kernel_rfl)))
theorem HM:Ko Ad:=(show Ad=me (aj (Ah) au) by kernel_rfl)▸n3 (X:=X0) (E:=me) ⟨call59,λ_ _ h=>nomatch h⟩ (DF) au
def Lt:aA:=⟨35,[pc,aq],.bool,[],U2 vk⟩
def HH(h:Ex->Ex)(l:Sh->(R:Type)->Option R->Option R)(a:Q9)(e:Int)(g:Int)(c:Int->x3)(b:Int->x3)(d:Int):x3:= (idx a.1 g).bind λk=> bif decide (d<(k.length:Int)) then (idx a.1 g).bind λj=> (idx j d).bind λi=> (pG (h i) e).bind λf=> bif !f then some false else b (i64.wrap (d+1)) else c (i64.wrap (g+1))
def HB(d:Ex->Ex)(f:Sh->(R:Type)->Option R->Option R)(a:Q9)(c:Int)(b:Int->x3)(e:Int):x3:= bif decide (e<(a.1.length:Int)) then aj (HH d f a c e b) au 0 else some true
def sL(c:Ex->Ex)(d:Sh->(R:Type)->Option R->Option R)(a:Q9)(b:Int):x3:= aj (HB c d a b) au 0
theorem GX:Ko Lt:=
 eC (.l ⟨[(false,5,aq)],[]⟩ (.c (.l ⟨[(false,6,aq)],[]⟩ .o) .o)) call35 func35 (aw HM ax) ax ax λs=>(show _=sL lC eK s.1 s.2 from by kernel_rfl).trans ((congrArg (λa=>sL a eK s.1 s.2) dX).trans ((congrArg (λb=>sL id b s.1 s.2) fU).trans (by kernel_rfl)))
def Hr:aA:=⟨17,[anH,pc],.bool,[],U2 mo⟩
theorem Dl:Ko Hr:=
 aG .o call17 func17 (aw G6 (aw Em (aw GX ax)))
def E6:aA:=⟨18,[anH,aq],.bool,[],U2 pj⟩
theorem Bu:Ko E6:=
 aG (.l ⟨[(false,5,aq),(false,6,aq)],[]⟩ .o) call18 func18 ax
def Ht:aA:=⟨8,[.str,pc],(.cW [alL,.bool]),[],U2 mg⟩
theorem CE:Ko Ht:=
 aG (.r [4] .o) call8 func8 (aw wS (aw Dl (aw Bu ax)))
def Iv:aA:=⟨15,[sJ,pc,aq],Uz,[],U3 nF⟩
theorem ER:Ko Iv:=
 aG (.l ⟨[(false,8,yx),(false,9,aq)],[]⟩ (.c (.c .o (.r [] (.c .o (.l ⟨[(false,8,yx),(false,12,aq)],[]⟩ .o)))) .o)) call15 func15 (aw uY (aw uV (aw gX ax)))
end
end Go.Proofs.YtcgihjbfppkcfaaGreatDoor
