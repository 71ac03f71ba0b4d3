/- Own texts for NestMoreQ, cut and joined by a program. -/
import Derived.Test.YtcgihjbfppkcfaaGreatDoorNestMoreQG
set_option linter.all false
namespace Go.Proofs.YtcgihjbfppkcfaaGreatDoor
open IntKind (i64)
open Go.Proofs
noncomputable section
set_option maxRecDepth 100000
abbrev S5:Ty:=(.p (.i .i64) (.p (.l (.p (.i .i64) (.i .i64))) (.p (.i .i64) (.p (.p (.p (.i .i64) (.p (.l (.l (.i .u8))) (.l (.i .i64)))) (.l (.i .u8))) (.p (.p (.l (.p (.i .i64) (.p (.l (.l (.i .u8))) (.l (.i .i64))))) (.p (.p (.i .i64) (.p (.l (.l (.i .u8))) (.l (.i .i64)))) (.l (.i .u8)))) (.p (.p (.l (.p (.i .i64) (.p (.l (.l (.i .u8))) (.l (.i .i64))))) (.l (.i .u8))) (.p (.p (.p (.i .i64) (.p (.l (.p (.l (.p (.i .u8) (.i .i64))) (.i .i64))) (.p (.i .i64) (.p (.i .i64) (.l (.i .i64)))))) (.p (.p (.i .i64) (.p (.l (.p (.l (.p (.i .u8) (.i .i64))) (.i .i64))) (.p (.i .i64) (.p (.i .i64) (.l (.i .i64)))))) (.p (.i .i64) (.p (.l (.p (.l (.p (.i .u8) (.i .i64))) (.i .i64))) (.p (.i .i64) (.p (.i .i64) (.l (.i .i64)))))))) (.p (.i .i64) (.p (.i .i64) (.p (.i .u64) (.p (.l (.i .u8)) (.p (.l (.i .u8)) (.l (.i .u8))))))))))))))
abbrev bf:Ty:=(.i .i64)
abbrev QL3:List Pt:=(.same:: .same:: .same:: .same:: .same:: .same:: .same:: .same:: .same::(.int .i64)::(.sli (.p bf bf))::(.int .i64)::(.int .i64)::(.sli (.l (.i .u8)))::(.sli bf)::(.sli (.i .u8))::(.sli (.p bf (.p (.l (.l (.i .u8))) (.l bf))))::(.int .i64)::(.sli (.l (.i .u8)))::(.sli bf)::(.sli (.i .u8))::(.sli (.p bf (.p (.l (.l (.i .u8))) (.l bf))))::(.sli (.i .u8))::(.int .i64)::(.sli (.p (.l (.p (.i .u8) bf)) bf))::(.int .i64)::(.int .i64)::(.sli bf)::(.int .i64)::(.sli (.p (.l (.p (.i .u8) bf)) bf))::(.int .i64)::(.int .i64)::(.sli bf)::(.int .i64)::(.sli (.p (.l (.p (.i .u8) bf)) bf))::(.int .i64)::(.int .i64)::(.sli bf)::(.int .i64)::(.int .i64)::(.int .u64)::(.sli (.i .u8))::(.sli (.i .u8))::(.sli (.i .u8)):: .same::[])
abbrev QL4:List Pt:=((.sli .s)::(.sli (.p bf bf))::(.sli bf)::(.sli .s)::(.sli (.p bf (.p .ex (.l (.p bf .ex)))))::(.sli (.l .ex))::(.sli (.l bf))::(.sli bf)::(.sli (.l bf))::(.int .i64)::(.sli (.p bf bf))::(.int .i64)::(.int .i64)::(.sli (.l (.i .u8)))::(.sli bf)::(.sli (.i .u8))::(.sli (.p bf (.p (.l (.l (.i .u8))) (.l bf))))::(.int .i64)::(.sli (.l (.i .u8)))::(.sli bf)::(.sli (.i .u8))::(.sli (.p bf (.p (.l (.l (.i .u8))) (.l bf))))::(.sli (.i .u8))::(.int .i64)::(.sli (.p (.l (.p (.i .u8) bf)) bf))::(.int .i64)::(.int .i64)::(.sli bf)::(.int .i64)::(.sli (.p (.l (.p (.i .u8) bf)) bf))::(.int .i64)::(.int .i64)::(.sli bf)::(.int .i64)::(.sli (.p (.l (.p (.i .u8) bf)) bf))::(.int .i64)::(.int .i64)::(.sli bf)::(.int .i64)::(.int .i64)::(.int .u64)::(.sli (.i .u8))::(.sli (.i .u8))::(.sli (.i .u8))::(.int .i64)::[])
abbrev pI:Pt:=(.dat S5 [none,none,none,none,none,none,none,none,none,none,none,none,none,none,none,none,none,none,none])
abbrev ao:Pt:=(.int .i64)
abbrev gQ:Ty:=(.p bf (.p (.l (.l (.i .u8))) (.l bf)))
abbrev SC:Ty:=(.p (.l .s) (.p (.l (.p bf bf)) (.p (.l bf) (.p (.l .s) (.l (.p bf (.p .ex (.l (.p bf .ex)))))))))
abbrev aW:Ty:=(.i .u8)
abbrev NX:Ty:=(.p (.l (.l .ex)) (.p (.l (.l bf)) (.p (.l bf) (.l (.l bf)))))
abbrev afU:Ty:=(.p aW (.p aW (.p aW (.p aW (.p aW (.p aW (.p aW (.p aW (.p aW (.p aW (.p aW (.p aW (.p aW (.p aW (.p aW (.p aW (.p aW (.p aW (.p aW (.p aW (.p aW (.p aW (.p aW (.p aW (.p aW (.p aW (.p aW (.p aW (.p aW (.p aW (.p aW (.p aW (.p aW (.p aW (.p aW (.p aW (.p aW (.p aW (.p aW (.p aW (.p aW (.p aW (.p aW (.p aW (.p aW (.p aW (.p aW (.p aW (.p aW (.p aW (.p aW (.p aW (.p aW (.p aW (.p aW (.p aW (.p aW (.p aW (.p aW (.p aW (.p aW (.p aW (.p aW aW)))))))))))))))))))))))))))))))))))))))))))))))))))))))))))))))
abbrev HB:Ty:=(.p bf (.p bf (.p (.i .u64) (.p (.l aW) (.p (.l aW) (.l aW))))))
abbrev AG:Ty:=(.p bf (.p (.l (.p (.l (.p aW bf)) bf)) (.p bf (.p bf (.l bf)))))
abbrev abI:Pt:=(.bx 130 0 true [(.own (.p bf (.p .s (.p bf bf))) 132 false),ao,(.own .s 9 false),(.own (.p bf bf) 112 false),(.own bf 3 false),(.own .s 9 false),(.own (.p bf (.p .ex (.l (.p bf .ex)))) 180 false),ao,ao])
abbrev lN:Ty:=(.p bf bf)
abbrev nh:Pt:=(.dat NX [none,none,none,none])
abbrev pW:Pt:=(.dat SC [none,none,none,none,none])
abbrev aY:Pt:=(.sli bf)
abbrev kW:Pt:=(.own bf 3 true)
abbrev alq:Ty:=(.p aW (.p aW (.p aW (.p aW (.p aW (.p aW (.p aW (.p aW (.p aW (.p aW (.p aW (.p aW (.p aW (.p aW (.p aW (.p aW (.p aW (.p aW (.p aW (.p aW (.p aW (.p aW (.p aW aW)))))))))))))))))))))))
abbrev uJ:Ty:=(.p (.l (.p aW bf)) bf)
abbrev MS:Pt:=(.bx 130 0 true [.same,.same,.same,.same,.same,.same,.same,ao,ao])
abbrev uG:Pt:=(.own (.l bf) 24 true)
abbrev jA:Pt:=(.own aW 5 true)
abbrev vH:Ty:=(.p bf (.p .s lN))
abbrev aaI:Ty:=(.p bf (.p bf (.p bf (.p (.i .u64) lN))))
abbrev Ng:Pt:=(.dat (.p (.l gQ) (.p gQ (.l aW))) [none,none,none,none])
abbrev CC:Ty:=(.p bf (.p .ex (.l (.p bf .ex))))
abbrev Ct:Ty:=(.p (.l bf) (.l (.l bf)))
abbrev x8:Pt:=(.dat HB [none,none,none])
abbrev WE:Ty:=(.p aW (.p aW (.p aW (.p aW (.p aW (.p aW (.p aW aW)))))))
abbrev arQ:Ty:=(.p (.i .u64) (.p (.i .u64) (.p (.i .u64) (.p (.i .u64) (.p (.i .u64) (.p (.i .u64) (.p (.i .u64) (.p (.i .u64) (.p (.i .u64) (.p (.i .u64) (.p (.i .u64) (.p (.i .u64) (.p (.i .u64) (.p (.i .u64) (.p (.i .u64) (.p (.i .u64) (.p (.i .u64) (.p (.i .u64) (.p (.i .u64) (.i .u64))))))))))))))))))))
abbrev ZL:Pt:=(.bx 130 0 true [.same,ao,.same,.same,.same,.same,.same,ao,ao])
abbrev acj:Pt:=(.bx 379 0 true [.same,(.own uJ 273 true),.same,.same,kW,.same])
abbrev H3:Pt:=(.ifc 392 (.bx 390 0 true [kW]))
abbrev Og:Pt:=(.dat (.p (.l gQ) (.l aW)) [none,none])
abbrev eO:Pt:=(.sli aW)
abbrev Hv:Ty:=(.p (.l (.l bf)) (.l (.l bf)))
abbrev QX:Pt:=(.dat (.p gQ (.l aW)) [none,none,none])
abbrev ahC:Pt:=(.bx 212 0 true [(.own vH 132 false),ao,(.own .s 9 false),ao,ao])
abbrev mo:Ty:=(.l aW)
abbrev jZ:Pt:=(.sli lN)
abbrev aaU:Pt:=(.ifc 97 (.agg [(.sli (.l bf)),(.sli (.l bf))]))
abbrev agm:Pt:=(.bx 355 0 true [(.own gQ 270 true),(.fn 229 [(.ptr 0 0)] [])])
abbrev wW:Pt:=(.dat .ex [none])
abbrev agl:Pt:=(.bx 79 0 true [(.own gQ 73 true),.same,.same,.same,.same])
abbrev abF:Ty:=(.p .s (.p NX (.p aW (.p aW (.p aW aW)))))
abbrev rC:Pt:=(.dat .un [])
abbrev H2:Pt:=(.dat gQ [none,none])
abbrev n7:Ty:=(.p aW bf)
abbrev Wv:Pt:=(.fn 289 [] [(.bx 4 0 true [.bool])])
abbrev anv:Pt:=(.bx 379 0 true [.same,(.own uJ 273 true),.same,.same,kW,(.mp bf .bo true)])
abbrev ag9:Pt:=(.bx 355 0 false [(.sli gQ),(.fn 233 [(.ptr 0 0)] [])])
abbrev arF:Pt:=(.bx 130 0 false [(.own vH 132 false),ao,(.own .s 9 false),(.own lN 112 false),(.own bf 3 false),(.own .s 9 false),(.own CC 180 false),ao,ao])
abbrev iu:Pt:=(.cU [])
abbrev amH:Pt:=(.bx 379 0 true [ao,(.own uJ 273 true),ao,ao,kW,(.mp bf .bo false)])
abbrev al9:Pt:=(.bx 379 0 true [ao,(.own uJ 273 true),ao,ao,kW,(.mp bf .bo true)])
abbrev abN:Pt:=(.bx 161 0 true [uG,(.mp .s .bo true)])
abbrev QD:Pt:=(.bx 27 0 true [(.int .u64)])
abbrev al7:Pt:=(.bx 130 0 true [.same,ao,.same,.same,.same,.same,.same,.same,.same])
abbrev QU:Pt:=(.ifc 95 (.agg [ao,aY]))
abbrev af0:Pt:=(.bx 79 0 true [.same,.same,.same,.same,.same])
abbrev Hw:Pt:=(.cU [.bool,ao])
abbrev EP:Pt:=(.own .bo 4 true)
abbrev ahz:Pt:=(.bx 76 0 false [ao,(.sli mo),aY,eO])
abbrev Lp:Pt:=(.bx 100 0 true QL3)
abbrev wX:Ty:=(.p mo bf)
abbrev afG:Pt:=(.bx 212 0 true [.same,ao,.same,ao,ao])
abbrev od:Pt:=(.int .u8)
abbrev V7:Pt:=(.bx 243 0 true [.sfp,jA])
abbrev agY:Pt:=(.bx 355 0 true [(.own gQ 270 true),.same])
abbrev tq:Pt:=(.int .u32)
abbrev agP:Ty:=(.p (.l vH) (.p bf (.p (.l .s) lN)))
abbrev amp:Pt:=(.dat SC [some 19,some 225,some 7,some 19,some 361])
abbrev J0:Pt:=(.cU [pI,ao])
abbrev Wn:Pt:=(.cU [pI,.bool,ao])
abbrev ahN:Ty:=(.p (.l vH) (.p bf (.p SC lN)))
abbrev ahI:Ty:=(.p .s (.p NX (.p aW (.i .u64))))
abbrev arS:Pt:=(.bx 130 0 true [.same,ao,(.own .s 9 true),(.own lN 112 true),kW,.same,.same,ao,ao])
abbrev ZN:Ty:=(.p (.l gQ) (.p gQ mo))
abbrev Qy:Pt:=(.cU [ao,.bool])
abbrev V8:Pt:=(.dat .ex [some 293])
abbrev aqZ:Pt:=(.bx 130 0 true [.same,ao,.same,.same,.same,.same,(.own CC 180 true),ao,ao])
abbrev Vu:Pt:=(.own Ct 171 false)
abbrev amB:Pt:=(.bx 76 0 true [ao,(.sli mo),aY,eO])
abbrev ahf:Ty:=(.p SC (.p NX (.p S5 bf)))
abbrev abt:Pt:=(.dat AG [none,none])
abbrev Vo:Pt:=(.bx 100 0 true QL4)
abbrev ag3:Ty:=(.p bf (.p bf (.p .bo aW)))
abbrev aaV:Pt:=(.bx 24 0 false [aY])
abbrev alh:Pt:=(.bx 218 0 true [uG,(.mp .s .bo true)])
abbrev arx:Ty:=(.p aW (.p aW (.p aW (.p aW (.p aW (.p aW (.p aW (.p aW alq))))))))
abbrev ahx:Pt:=(.bx 317 0 true [jA,ao])
abbrev Vs:Pt:=(.sli (.i .u32))
abbrev QY:Pt:=(.dat aaI [])
abbrev af3:Pt:=(.bx 390 0 true [kW])
abbrev wQ:Ty:=(.l bf)
abbrev ab8:Ty:=(.p (.l gQ) mo)
abbrev NN:Pt:=(.ifc 3 ao)
abbrev SM:Pt:=(.own bf 3 false)
abbrev Dh:Pt:=(.int .u64)
abbrev S9:Pt:=(.cU [uG,ao])
abbrev Y3:Pt:=(.bx 24 0 true [aY])
abbrev Zh:Pt:=(.bx 4 0 true [.bool])
abbrev an2:Pt:=(.dat SC [some 18,some 224,some 6,some 18,some 360])
abbrev SD:Pt:=(.own .s 9 false)
open Tryz
theorem afd:amc Tryz.prog 138:=λv w=>by rw [run_callFunc_extern func138 (by kernel_rfl) (by kernel_rfl) (by kernel_rfl) (e:=Extern.AbiNoEscape.same) (by kernel_rfl)];rfl
noncomputable def Xn:Cx:=⟨Tryz.prog,[(2,bf),(3,bf),(4,.bo),(5,aW),(6,aW),(7,ag3),(8,ag3),(9,.s),(10,.s),(11,.s),(12,(.i .u64)),(13,(.p .s (.i .u64))),(14,(.p .s (.i .u64))),(21,(.i .i32)),(22,(.l (.l .ex))),(23,(.l wQ)),(24,wQ),(25,NX),(26,NX),(27,(.i .u64)),(28,aaI),(29,aaI),(31,(.l .s)),(32,(.l lN)),(33,(.l CC)),(34,SC),(35,SC),(40,Hv),(41,Hv),(42,bf),(47,abF),(48,abF),(55,ahI),(56,ahI),(65,(.l .bo)),(68,(.l (.l .bo))),(71,(.l mo)),(72,gQ),(73,gQ),(74,mo),(75,(.p gQ mo)),(76,(.p gQ mo)),(77,(.l gQ)),(78,ZN),(79,ZN),(80,(.l gQ)),(81,ab8),(82,ab8),(83,(.l uJ)),(84,AG),(85,AG),(86,(.p AG (.p AG AG))),(87,(.p mo (.p mo mo))),(88,HB),(89,HB),(90,S5),(91,S5),(94,(.p bf wQ)),(95,(.p bf wQ)),(96,Hv),(97,Hv),(99,ahf),(100,ahf),(111,lN),(112,lN),(115,(.l .n)),(120,.n),(123,(.l Ct)),(126,(.l vH)),(129,ahN),(130,ahN),(131,vH),(132,vH),(143,(.l .ex)),(145,(.p bf (.p bf (.p bf (.l .ex))))),(146,.ex),(152,lN),(153,.un),(154,.un),(155,.un),(156,.un),(157,.un),(158,.un),(170,Ct),(171,Ct),(178,(.l (.p bf .ex))),(179,CC),(180,CC),(182,(.p bf .ex)),(183,(.p bf .ex)),(211,agP),(212,agP),(215,lN),(225,alq),(236,arQ),(237,(.i .u32)),(238,(.p aW afU)),(239,(.i .u64)),(252,arx),(253,afU),(259,.un),(260,.un),(261,.un),(262,aW),(263,aW),(265,(.i .i32)),(266,(.i .i32)),(269,gQ),(270,gQ),(271,(.l n7)),(272,uJ),(273,uJ),(295,wX),(296,wX),(303,gQ),(304,gQ),(305,gQ),(306,gQ),(314,wX),(315,wX),(316,wX),(317,wX),(357,(.l (.i .u32))),(364,WE),(365,WE),(383,n7),(384,n7),(390,wQ)],[],[138],(List.forall_mem_cons.2 ⟨afd,(λ_ h=>nomatch h)⟩),an,[154,155,156,157,158],[],(λ_ h=>nomatch h),[(25,21),(66,40)]⟩
noncomputable def X0:Cx:=⟨Tryz.prog,[(2,bf),(3,bf),(4,.bo),(5,aW),(6,aW),(7,ag3),(8,ag3),(9,.s),(10,.s),(11,.s),(12,(.i .u64)),(13,(.p .s (.i .u64))),(14,(.p .s (.i .u64))),(21,(.i .i32)),(22,(.l (.l .ex))),(23,(.l wQ)),(24,wQ),(25,NX),(26,NX),(27,(.i .u64)),(28,aaI),(29,aaI),(31,(.l .s)),(32,(.l lN)),(33,(.l CC)),(34,SC),(35,SC),(40,Hv),(41,Hv),(42,bf),(47,abF),(48,abF),(55,ahI),(56,ahI),(65,(.l .bo)),(68,(.l (.l .bo))),(71,(.l mo)),(72,gQ),(73,gQ),(74,mo),(75,(.p gQ mo)),(76,(.p gQ mo)),(77,(.l gQ)),(78,ZN),(79,ZN),(80,(.l gQ)),(81,ab8),(82,ab8),(83,(.l uJ)),(84,AG),(85,AG),(86,(.p AG (.p AG AG))),(87,(.p mo (.p mo mo))),(88,HB),(89,HB),(90,S5),(91,S5),(94,(.p bf wQ)),(95,(.p bf wQ)),(96,Hv),(97,Hv),(99,ahf),(100,ahf),(111,lN),(112,lN),(115,(.l .n)),(120,.n),(123,(.l Ct)),(126,(.l vH)),(129,ahN),(130,ahN),(131,vH),(132,vH),(143,(.l .ex)),(145,(.p bf (.p bf (.p bf (.l .ex))))),(146,.ex),(152,lN),(153,.un),(154,.un),(155,.un),(156,.un),(157,.un),(158,.un),(170,Ct),(171,Ct),(178,(.l (.p bf .ex))),(179,CC),(180,CC),(182,(.p bf .ex)),(183,(.p bf .ex)),(211,agP),(212,agP),(215,lN),(225,alq),(236,arQ),(237,(.i .u32)),(238,(.p aW afU)),(239,(.i .u64)),(252,arx),(253,afU),(259,.un),(260,.un),(261,.un),(262,aW),(263,aW),(265,(.i .i32)),(266,(.i .i32)),(269,gQ),(270,gQ),(271,(.l n7)),(272,uJ),(273,uJ),(295,wX),(296,wX),(303,gQ),(304,gQ),(305,gQ),(306,gQ),(314,wX),(315,wX),(316,wX),(317,wX),(357,(.l (.i .u32))),(364,WE),(365,WE),(383,n7),(384,n7),(390,wQ)],[(0,0,⟨.l (.i .u64),vU⟩)],[138],(List.forall_mem_cons.2 ⟨afd,(λ_ h=>nomatch h)⟩),an,[154,155,156,157,158],[⟨180,λargs H st K=>Rx Xn Tryz.f180 args H st K⟩,⟨171,λargs H st K=>Rx Xn Tryz.f171 args H st K⟩,⟨289,λargs H st K=>Rx Xn Tryz.f289 args H st K⟩,⟨290,λargs H st K=>Rx Xn Tryz.f290 args H st K⟩],(List.forall_mem_cons.2 ⟨Uf (X:=Xn) call180 func180 rfl,(List.forall_mem_cons.2 ⟨Uf (X:=Xn) call171 func171 rfl,(List.forall_mem_cons.2 ⟨Uf (X:=Xn) call289 func289 rfl,(List.forall_mem_cons.2 ⟨Uf (X:=Xn) call290 func290 rfl,(λ_ h=>nomatch h)⟩)⟩)⟩)⟩),[(25,21),(66,40)]⟩
abbrev Ko(e:aA):=e.Ok X0.P X0.Γ
abbrev LZ(e:bZ):=e.Ok X0.P X0.Γ
theorem aG{X:Cx}{tb:List aA}{fn:Func}{e:aA}(h:HT)(c:Enters X.P e.f)(b:X.P.funcs[e.f]? =some fn)(a:∀e∈tb,e.Ok X.P X.Γ)(eq:∀s,Zt X tb [] [] h fn e s=e.m s:=by intro _;kernel_rfl):e.Ok X.P X.Γ:=eA h c b a ax ax eq
theorem ago{X:Cx}{tb:List aA}{fn:Func}{e:bZ}(h:HT)(c:Enters X.P e.f)(b:X.P.funcs[e.f]? =some fn)(a:∀e∈tb,e.Ok X.P X.Γ)(eq:∀s,akO X tb [] [] h fn e s=e.m s:=by intro _;kernel_rfl):e.Ok X.P X.Γ:=NS h c b a ax ax eq
abbrev U2{a z r:Type}(F:a->z->r)(s:a×z):r:=F s.1 s.2
abbrev U3{a b z r:Type}(F:a->b->z->r)(s:a×b×z):r:=F s.1 s.2.1 s.2.2
abbrev U4{a b c z r:Type}(F:a->b->c->z->r)(s:a×b×c×z):r:=F s.1 s.2.1 s.2.2.1 s.2.2.2
abbrev U6{a b c d e z r:Type}(F:a->b->c->d->e->z->r)(s:a×b×c×d×e×z):r:=F s.1 s.2.1 s.2.2.1 s.2.2.2.1 s.2.2.2.2.1 s.2.2.2.2.2
abbrev U7{a b c d e f z r:Type}(F:a->b->c->d->e->f->z->r)(s:a×b×c×d×e×f×z):r:=F s.1 s.2.1 s.2.2.1 s.2.2.2.1 s.2.2.2.2.1 s.2.2.2.2.2.1 s.2.2.2.2.2.2
abbrev U8{a b c d e f g z r:Type}(F:a->b->c->d->e->f->g->z->r)(s:a×b×c×d×e×f×g×z):r:=F s.1 s.2.1 s.2.2.1 s.2.2.2.1 s.2.2.2.2.1 s.2.2.2.2.2.1 s.2.2.2.2.2.2.1 s.2.2.2.2.2.2.2
abbrev U9{a b c d e f g h z r:Type}(F:a->b->c->d->e->f->g->h->z->r)(s:a×b×c×d×e×f×g×h×z):r:=F s.1 s.2.1 s.2.2.1 s.2.2.2.1 s.2.2.2.2.1 s.2.2.2.2.2.1 s.2.2.2.2.2.2.1 s.2.2.2.2.2.2.2.1 s.2.2.2.2.2.2.2.2
def lR(x:Ex):Ex:=Ex.mk x.op x.n x.at_ x.l
theorem ed:lR=id:=funext λx=>by cases x;rfl
def arz:aA:=⟨131,[.int .i64],.str,[],λs=>Y1 s⟩
theorem aiQ:Ko arz:=alU (ρ:=Tryz.M1) Tryz.anK call131 (G:=0) (tab:=vU) (by kernel_rfl) (show gl 0 (vU.map (Value.int .u64))∈X0.Γ by first|exact c8 ..|exact (.tail _ (c8 ..))|exact (.tail _ (.tail _ (c8 ..)))|exact (.tail _ (.tail _ (.tail _ (c8 ..))))|exact (.tail _ (.tail _ (.tail _ (.tail _ (c8 ..)))))|exact (.tail _ (.tail _ (.tail _ (.tail _ (.tail _ (c8 ..))))))) (by decide+kernel) Y1 λn r h=>by obtain ⟨b,a⟩:=jE h;cases a;exact ⟨b,rfl⟩
def aq1:aA:=⟨110,[.own aW 5 true,.int .u64,.int .i64],.own aW 5 true,[],U3 S3⟩
theorem ajb:Ko aq1:=amZ (ρ:=Tryz.PY) Tryz.apv call110 (G:=0) (tab:=vU) (by kernel_rfl) (show gl 0 (vU.map (Value.int .u64))∈X0.Γ by first|exact c8 ..|exact (.tail _ (c8 ..))|exact (.tail _ (.tail _ (c8 ..)))|exact (.tail _ (.tail _ (.tail _ (c8 ..))))|exact (.tail _ (.tail _ (.tail _ (.tail _ (c8 ..)))))|exact (.tail _ (.tail _ (.tail _ (.tail _ (.tail _ (c8 ..))))))) (by decide+kernel) S3 λl u b r h=>by obtain ⟨a,c⟩:=jE h;simp only [au,n4,eT] at a;cases c;exact ⟨a.1.1,a.1.2.1,a.1.2.2,a.2,rfl⟩
theorem akE{α:Type}{b:Nat}{s y r:List α}{k:Int}(h:Wh b s k y=some r):y≠[]/\CD k s.length=true/\aH (s.length+y.length) b=true/\r=mT s k y:=by
 unfold Wh at h;split at h
 .cases h
 .obtain ⟨a,c⟩:=jE h;simp only [au] at a;cases c;exact ⟨by simp,a.1,a.2,rfl⟩
def akU:aA:=⟨261,[.own n7 384 true,.int .i64,.own n7 384 true],.own n7 384 true,[],λs=>Wh 16 s.1 s.2.1 s.2.2⟩
theorem adp:Ko akU:=ap8 (t:=n7) (bytes:=16) call261 (λa d c b=>I261.ab5 a d c b) (Wh 16) (λ_ _ _ _ h=>akE h)
abbrev ZC:=Av->Option fJ
def gm(k:ZC):aA:=⟨107,[ahC,ao,ao],V8,[(true,0,afG)],λs=>k (s.2.2.2.2.2.1,s.2.2.2.2.2.2,s.1,s.2.1,s.2.2.1,s.2.2.2.1,s.2.2.2.2.1)⟩
abbrev OK0(k:ZC):Prop:=Ko (gm k)
abbrev TK1:=Ex->Option ln
def lE(k:TK1):aA:=⟨85,[wW],(.cU [ao,ao,ao]),[],λs=>k s⟩
abbrev OK1(k:TK1):Prop:=Ko (lE k)
abbrev TK2:=Int->zc
def x4(k:TK2):aA:=⟨224,[ao],ao,[],λs=>k s⟩
abbrev OK2(k:TK2):Prop:=Ko (x4 k)
abbrev TK3:=(Ex×Q1)->zc
def yE(k:TK3):aA:=⟨102,[wW,aY],ao,[],λs=>k (s.1,s.2)⟩
abbrev OK3(k:TK3):Prop:=Ko (yE k)
abbrev TK4:=Q49->Option xc
def pM(k:TK4):bZ:=⟨236,[ag9,ao,Vs],NN,none,false,false,tq,[],λs=>k (s.2.1,s.2.2,s.1)⟩
abbrev OK4(k:TK4):Prop:=LZ (pM k)
abbrev TK5:=Q49->Option Q56
def mn(k:TK5):aA:=⟨236,[agm,ao,Vs],tq,[(true,0,agY)],λs=>k (s.2.1,s.2.2,s.1)⟩
abbrev OK5(k:TK5):Prop:=Ko (mn k)
abbrev TK6:=Q43->Option LB
def tL(k:TK6):aA:=⟨253,[al9,ao,eO],ao,[(true,0,anv)],λs=>k (s.2.2.2.2.2.2.1,s.2.2.2.2.2.2.2,s.1,s.2.1,s.2.2.1,s.2.2.2.1,s.2.2.2.2.1,s.2.2.2.2.2.1)⟩
abbrev OK6(k:TK6):Prop:=Ko (tL k)
abbrev TK7:=Q47->Option (cF×Q1)
def pR(k:TK7):aA:=⟨254,[amH,ao],iu,[(true,0,acj)],λs=>k (s.2.2.2.2.2.2,s.1,s.2.1,s.2.2.1,s.2.2.2.1,s.2.2.2.2.1,s.2.2.2.2.2.1)⟩
abbrev OK7(k:TK7):Prop:=Ko (pR k)
abbrev TK8:=(Ex×Q1)->zc
def lu(k:TK8):aA:=⟨80,[wW,aY],ao,[],λs=>k (s.1,s.2)⟩
abbrev OK8(k:TK8):Prop:=Ko (lu k)
abbrev TK9:=xk->zc
def lG(k:TK9):aA:=⟨83,[wW,ao],ao,[],λs=>k (s.1,s.2)⟩
abbrev OK9(k:TK9):Prop:=Ko (lG k)
abbrev ab2:=xk->zc
def lf(k:ab2):aA:=⟨84,[wW,ao],ao,[],λs=>k (s.1,s.2)⟩
abbrev atM(k:ab2):Prop:=Ko (lf k)
abbrev Z8:=xk->y2
def l8(k:Z8):aA:=⟨59,[wW,ao],.bool,[],λs=>k (s.1,s.2)⟩
abbrev atJ(k:Z8):Prop:=Ko (l8 k)
def JN:aA:=⟨73,[od],ao,[],λs=>gA s⟩
theorem Gd:Ko JN:=
 aG .o call73 func73 ax
def Js:aA:=⟨74,[],(.own .s 9 true),[],λ_=>te⟩
theorem FP:Ko Js:=
 aG .o call74 func74 ax
def HU:aA:=⟨44,[.str],(.cU [(.own vH 132 true),ao,ao]),[],λs=>gF s⟩
theorem DC:Ko HU:=
 aG (.c .o (.l ⟨[(false,5,(.own vH 132 true)),(false,6,ao)],[]⟩ (.c (.c .o (.c (.l ⟨[(false,6,ao)],[]⟩ .o) (.c (.l ⟨[(false,6,ao)],[]⟩ .o) (.c (.l ⟨[(false,6,ao),(false,9,ao)],[]⟩ .o) (.l ⟨[(false,11,.str),(false,12,ao)],[]⟩ .o))))) .o))) call44 func44 (aw Gd (aw FP ax))
def F8:aA:=⟨45,[arF,ao,.str],.bool,[],λs=>bV (d8 s).2.1 (d8 s).2.2 s.1 s.2.1 s.2.2.1 s.2.2.2.1 s.2.2.2.2.1 s.2.2.2.2.2.1 s.2.2.2.2.2.2.1 s.2.2.2.2.2.2.2.1 s.2.2.2.2.2.2.2.2.1⟩
theorem iJ:Ko F8:=
 aG .o call45 func45 ax
def L4:aA:=⟨77,[.str],.bool,[],λs=>jO s⟩
theorem vW:Ko L4:=
 aG (.s (.s (.s (.j ⟨[(false,4,.bool)],[]⟩ .o .o)))) call77 func77 ax
def C4:aA:=⟨46,[abI,ao,ao],iu,[(true,0,MS)],λs=>aJ (d8 s).2.1 (d8 s).2.2 s.1 s.2.1 s.2.2.1 s.2.2.2.1 s.2.2.2.2.1 s.2.2.2.2.2.1 s.2.2.2.2.2.2.1 s.2.2.2.2.2.2.2.1 s.2.2.2.2.2.2.2.2.1⟩
theorem cN:Ko C4:=
 aG .o call46 func46 ax
def EI:aA:=⟨78,[SD,.str],ao,[],U2 cR⟩
theorem rT:Ko EI:=
 aG (.l ⟨[(false,5,ao)],[]⟩ .o) call78 func78 ax
def C5:aA:=⟨49,[abI,.bool],.str,[(true,0,ZL)],λs=>gP (d8 s).2 s.1 s.2.1 s.2.2.1 s.2.2.2.1 s.2.2.2.2.1 s.2.2.2.2.2.1 s.2.2.2.2.2.2.1 s.2.2.2.2.2.2.2.1 s.2.2.2.2.2.2.2.2.1⟩
theorem p6:Ko C5:=
 aG .o call49 func49 (aw vW (aw cN (aw rT ax)))
def CT:aA:=⟨47,[arF],ao,[],U9 bw⟩
theorem gL:Ko CT:=
 aG .o call47 func47 ax
def C9:aA:=⟨50,[abI,.str],iu,[(true,0,ZL)],λs=>bP (d8 s).2 s.1 s.2.1 s.2.2.1 s.2.2.2.1 s.2.2.2.2.1 s.2.2.2.2.2.1 s.2.2.2.2.2.2.1 s.2.2.2.2.2.2.2.1 s.2.2.2.2.2.2.2.2.1⟩
theorem kq:Ko C9:=
 aG .o call50 func50 (aw iJ (aw gL (aw cN ax)))
def Hs:aA:=⟨113,[ao],.bool,[],λs=>ml s⟩
theorem DG:Ko Hs:=
 aG .o call113 func113 ax
def AM:aA:=⟨114,[ahC,ao],V8,[(true,0,(.bx 212 0 true [.same,.same,.same,ao,ao]))],λs=>bI s.2.2.2.2.2 s.1 s.2.1 s.2.2.1 s.2.2.2.1 s.2.2.2.2.1⟩
theorem nS:Ko AM:=
 aG (.c (.r [0] .o) .o) call114 func114 ax
def Ck(a:ZC):aA:=⟨115,[ahC,ao],V8,[(true,0,afG)],λs=>dX a s.2.2.2.2.2 s.1 s.2.1 s.2.2.1 s.2.2.2.1 s.2.2.2.2.1⟩
def yi(g:Ex->Ex)(i:Sh->(R:Type)->Option R->Option R)(l:Q7)(at_:Int)(names:br)(f:Int)(a:Int)(e:uk)(b:Int->Option fJ)(c:Int):Option fJ:= bif decide (c<(names.length:Int)) then (idx names c).bind λh=> bif h==e.2.1 then some ((Ex.mk 2 c e.2.2.2 []),(i64.wrap (at_+1)),f,a) else b (i64.wrap (c+1)) else (bI 3 l at_ names f a).bind λd=> some ((g d.1),at_,d.2.1,d.2.2)
def la(f:Ex->Ex)(B:Sh->(R:Type)->Option R->Option R)(C:Av->Option fJ)(h:Int)(l:Q7)(at_:Int)(names:br)(d:Int)(c:Int):Option fJ:= (idx l at_).bind λb=> bif b.1==2 then some ((Ex.mk 1 b.2.2.1 b.2.2.2 []),(i64.wrap (at_+1)),d,c) else ai (b.1==1) λA=> ai (b.2.1==[116,114,117,101]) λz=> ai (A&&z) λy=> bif y then ( some ((Ex.mk 13 0 b.2.2.2 []),(i64.wrap (at_+1)),d,c)) else ( ai (b.1==1) λx=> ai (b.2.1==[102,97,108,115,101]) λw=> ai (x&&w) λv=> bif v then ( some ((Ex.mk 14 0 b.2.2.2 []),(i64.wrap (at_+1)),d,c)) else ( (jO b.2.1).bind λj=> ai (b.1==1) λu=> ai (!j) λt=> ai (u&&t) λs=> bif s then ( aj (yi f B l at_ names d c b) an 0) else ( ai (b.1 != 3) λr=> ai (b.2.1 != [40]) λq=> ai (r||q) λp=> bif p then ( (bI 2 l at_ names d c).bind λg=> some ((f g.1),at_,g.2.1,g.2.2)) else ( (C (1,h,l,(i64.wrap (at_+1)),names,d,c)).bind λa=> bif a.2.2.1 != 0 then some ((Ex.mk 0 0 0 []),a.2.1,a.2.2.1,a.2.2.2) else (idx l a.2.1).bind λm=> ai (m.1 != 3) λi=> bn (!i) (0,[],0,0) (idx l a.2.1) λk=> ai (k.2.1 != [41]) λo=> ai (i||o) λn=> bif n then ( (bI 2 l a.2.1 names a.2.2.1 a.2.2.2).bind λe=> some ((f e.1),a.2.1,e.2.1,e.2.2)) else ( some ((f a.1),(i64.wrap (a.2.1+1)),a.2.2.1,a.2.2.2))))))
theorem yy(a:ZC)(i0:OK0 a):Ko (Ck a):=
 eA (.r [] (.c .o (.c .o (.c .o (.c (.l ⟨[(true,0,(.bx 212 0 true [.same,.same,.same,.same,.same])),(true,4,(.bx 146 0 true [.same,.same,.same,.same])),(false,7,ao)],[]⟩ .o) .o))))) call115 func115 (aw vW (aw nS (aw i0 ax))) ax ax λs=>(show _=la lR eI a s.2.2.2.2.2 s.1 s.2.1 s.2.2.1 s.2.2.2.1 s.2.2.2.2.1 from by kernel_rfl).trans ((congrArg (λb=>la b eI a s.2.2.2.2.2 s.1 s.2.1 s.2.2.1 s.2.2.2.1 s.2.2.2.2.1) ed).trans ((congrArg (λd=>la id d a s.2.2.2.2.2 s.1 s.2.1 s.2.2.1 s.2.2.2.1 s.2.2.2.2.1) fT).trans (by kernel_rfl)))
def NO:aA:=⟨116,[(.dat vH []),ao],ao,[],U2 cY⟩
theorem IU:Ko NO:=
 aG (.c (.c .o (.c .o (.c .o (.c .o (.c .o (.c (.l ⟨[(false,7,ao)],[]⟩ .o) .o)))))) .o) call116 func116 ax
def ra:aA:=⟨107,[ahC,ao,ao],V8,[(true,0,afG)],λs=>iH s.2.2.2.2.2.1 s.2.2.2.2.2.2 s.1 s.2.1 s.2.2.1 s.2.2.2.1 s.2.2.2.2.1⟩
def xL(f:Ex->Ex)(j:Sh->(R:Type)->Option R->Option R)(i:Av->Option fJ)(l:Q7)(at_:Int)(names:br)(g:Int)(b:Int)(a:Int)(h:uk)(e:Int):Option fJ:= bif e==0 then (i (7,a,l,at_,names,g,b)).bind λd=> some ((f d.1),d.2.1,d.2.2.1,d.2.2.2) else (i (6,a,l,(i64.wrap (at_+1)),names,g,b)).bind λc=> some ((Ex.mk e 0 h.2.2.2 ([(f c.1)]:List Ex)),c.2.1,c.2.2.1,c.2.2.2)
def xR(g:Ex->Ex)(m:Sh->(R:Type)->Option R->Option R)(n:Av->Option fJ)(l:Q7)(at_:Int)(names:br)(h:Int)(c:Int)(a:Int)(d:uk)(f:Int):Option fJ:= ai (λ(e:Int)=>xL g m n l at_ names h c a d e) λb=> ai (d.1==1) λk=> ai (d.2.1==[71]) λj=> ai (k&&j) λi=> bif i then ( b 22) else ( b f)
def xV(g:Ex->Ex)(m:Sh->(R:Type)->Option R->Option R)(n:Av->Option fJ)(l:Q7)(at_:Int)(names:br)(h:Int)(c:Int)(a:Int)(d:uk)(f:Int):Option fJ:= ai (λ(e:Int)=>xR g m n l at_ names h c a d e) λb=> ai (d.1==1) λk=> ai (d.2.1==[70]) λj=> ai (k&&j) λi=> bif i then ( b 21) else ( b f)
def xM(g:Ex->Ex)(m:Sh->(R:Type)->Option R->Option R)(n:Av->Option fJ)(l:Q7)(at_:Int)(names:br)(h:Int)(c:Int)(a:Int)(d:uk)(f:Int):Option fJ:= ai (λ(e:Int)=>xV g m n l at_ names h c a d e) λb=> ai (d.1==1) λk=> ai (d.2.1==[88]) λj=> ai (k&&j) λi=> bif i then ( b 20) else ( b f)
def xX(p:Ex->Ex)(w:Sh->(R:Type)->Option R->Option R)(v:Av->Option fJ)(a:Int)(l:Q7)(names:br)(m:Int)(o:(Int×Int×Int×Int×Int×Int×(List Ex))->Option fJ):Int×Int×Int×Int×Int×Int×(List Ex)->Option fJ:=λ⟨h,g,n,f,e,d,c⟩=> bif g==0 then (idx l h).bind λk=> (cY k a).bind λj=> bif j==0 then some ((Ex.mk f e d c),h,g,n) else ai (a==1) λu=> ai (a==2) λt=> ai (u||t) λs=> ai (a==5) λr=> ai (s||r) λq=> bif q then ( (v (a,m,l,(i64.wrap (h+1)),names,g,n)).bind λi=> some ((Ex.mk j 0 k.2.2.2 ([(Ex.mk f e d c),(p i.1)]:List Ex)),i.2.1,i.2.2.1,i.2.2.2)) else ( (v ((i64.wrap (a+1)),m,l,(i64.wrap (h+1)),names,g,n)).bind λb=> bif a==7 then some ((Ex.mk j 0 k.2.2.2 ([(Ex.mk f e d c),(p b.1)]:List Ex)),b.2.1,b.2.2.1,b.2.2.2) else o (b.2.1,b.2.2.1,b.2.2.2,j,0,k.2.2.2,([(Ex.mk f e d c),(p b.1)]:List Ex))) else some ((Ex.mk f e d c),h,g,n)
def xO(h:Ex->Ex)(y:Sh->(R:Type)->Option R->Option R)(q:Av->Option fJ)(a:Int)(l:Q7)(at_:Int)(names:br)(i:Int)(d:Int)(s:Bool)(b:Int):Option fJ:= ai (decide (320<b)) λx=> ai (s&&x) λw=> bif w then ( (bI 9 l at_ names i d).bind λk=> some ((h k.1),at_,k.2.1,k.2.2)) else ( (idx l at_).bind λg=> bif a==6 then ai (λ(r:Int)=>xM h y q l at_ names i d b g r) λj=> ai (g.1==3) λv=> ai (g.2.1==[33]) λu=> ai (v&&u) λt=> bif t then ( j 15) else ( j 0) else bif a==10 then ai (g.1 != 3) λp=> ai (g.2.1 != [45]) λo=> ai (p||o) λm=> bif m then ( (dX q b l at_ names i d).bind λf=> some ((h f.1),f.2.1,f.2.2.1,f.2.2.2)) else ( (q (10,b,l,(i64.wrap (at_+1)),names,i,d)).bind λe=> some ((Ex.mk 6 0 g.2.2.2 ([(h e.1)]:List Ex)),e.2.1,e.2.2.1,e.2.2.2)) else (q ((i64.wrap (a+1)),b,l,at_,names,i,d)).bind λc=> aj (xX h y q a l names b) an (c.2.1,c.2.2.1,c.2.2.2,c.1.op,c.1.n,c.1.at_,c.1.l))
def jn(h:Ex->Ex)(i:Sh->(R:Type)->Option R->Option R)(j:Av->Option fJ)(a:Int)(d:Int)(l:Q7)(at_:Int)(names:br)(e:Int)(b:Int):Option fJ:= bif e != 0 then some ((Ex.mk 0 0 0 []),at_,e,b) else (ml a).bind λg=> ai (λ(f:Int)=>xO h i j a l at_ names e b g f) λc=> bif g then ( c (i64.wrap (d+1))) else ( c d)
def rP:ZC->ZC:=λa s=>dz a s.1 s.2.1 s.2.2.1 s.2.2.2.1 s.2.2.2.2.1 s.2.2.2.2.2.1 s.2.2.2.2.2.2
theorem wv(a:ZC)(i0:OK0 a):(gm (rP a)).Ok X0.P X0.Γ:=
 eA (.c .o (.s (.j ⟨[(false,2,ao)],[]⟩ .o (.c .o (.r [] (.c (.s (.j ⟨[(false,9,ao)],[]⟩ .o (.j ⟨[(false,9,ao)],[]⟩ .o (.j ⟨[(false,9,ao)],[]⟩ .o (.j ⟨[(false,9,ao)],[]⟩ .o .o))))) (.c .o (.l ⟨[(true,0,afG),(true,6,(.bx 146 0 true [.same,.same,.same,.same])),(true,12,(.bx 146 0 true [ao,ao,ao,(.own .ex 146 true)]))],[]⟩ .o)))))))) call107 func107 (aw DG (aw nS (aw i0 (aw (yy a i0) (aw IU ax))))) ax ax λs=>(show _=jn lR eI a s.2.2.2.2.2.1 s.2.2.2.2.2.2 s.1 s.2.1 s.2.2.1 s.2.2.2.1 s.2.2.2.2.1 from by kernel_rfl).trans ((congrArg (λb=>jn b eI a s.2.2.2.2.2.1 s.2.2.2.2.2.2 s.1 s.2.1 s.2.2.1 s.2.2.2.1 s.2.2.2.2.1) ed).trans ((congrArg (λd=>jn id d a s.2.2.2.2.2.1 s.2.2.2.2.2.2 s.1 s.2.1 s.2.2.1 s.2.2.2.1 s.2.2.2.2.1) fT).trans (by kernel_rfl)))
theorem xN:Ko ra:=(show ra=gm (aj (rP) an) by kernel_rfl)▸ot (X:=X0) (E:=gm) ⟨call107,λ_ _ h=>nomatch h⟩ (wv) an
def Eo:aA:=⟨98,[(.own vH 132 false),ao,SD],(.cU [V8,ao,ao,ao]),[],U3 fE⟩
def nC(b:Ex->Ex)(c:Sh->(R:Type)->Option R->Option R)(l:Q7)(at_:Int)(names:br):Option fJ:= (iH 1 0 l at_ names 0 0).bind λa=> bif a.2.2.1 != 0 then some ((Ex.mk 0 0 0 []),0,a.2.2.1,a.2.2.2) else some ((b a.1),a.2.1,0,0)
theorem BJ:Ko Eo:=
 eA (.c (.r [6] .o) (.r [6] .o)) call98 func98 (aw xN ax) ax ax λs=>(show _=nC lR eI s.1 s.2.1 s.2.2 from by kernel_rfl).trans ((congrArg (λa=>nC a eI s.1 s.2.1 s.2.2) ed).trans ((congrArg (λb=>nC id b s.1 s.2.1 s.2.2) fT).trans (by kernel_rfl)))
def yf:aA:=⟨85,[wW],(.cU [ao,ao,ao]),[],λs=>dO s⟩
def F9(j:Ex->Ex)(H:Sh->(R:Type)->Option R->Option R)(G:Ex->Option ln)(e:Ex)(f:Hc->Option ln):Int×Int×Int×Int->Option ln:=λ⟨a,b,c,h⟩=> bif decide (h<(List.length e.l:Int)) then (idx e.l h).bind λk=> (G (j k)).bind λd=> bif d.2.1 != 0 then some (0,d.2.1,d.2.2) else ai (λ(i:Int)=>rK b c h f d i) λg=> bif d.1==1 then g (i64.wrap (a+1)) else g a else ai (decide (e.op<=6)) λF=> ai (a==(List.length e.l:Int)) λE=> ai (F&&E) λD=> bif D then ( some (1,0,0)) else ( ai (decide (7<=e.op)) λC=> ai (decide (e.op<=12)) λB=> ai (C&&B) λA=> ai (a==(List.length e.l:Int)) λz=> ai (A&&z) λy=> ai (e.op==13) λx=> ai (y||x) λw=> ai (e.op==14) λv=> ai (w||v) λu=> bif u then ( some (2,0,0)) else ( ai (decide (15<=e.op)) λt=> ai (decide (e.op<=19)) λs=> ai (t&&s) λr=> ai (b==(List.length e.l:Int)) λq=> ai (r&&q) λp=> bif p then ( some (2,0,0)) else ( ai (decide (15<=e.op)) λo=> ai ((i64.wrap (b+c))==(List.length e.l:Int)) λn=> ai (o&&n) λm=> bif m then ( some (3,0,0)) else ( some (0,4,e.at_)))))
def pC(a:Ex->Ex)(c:Sh->(R:Type)->Option R->Option R)(b:Ex->Option ln)(e:Ex):Option ln:= aj (F9 a c b e) an (0,0,0,0)
def Ac:TK1->TK1:=λk1 s=>jK k1 s
theorem Dm(k1:TK1)(b:OK1 k1):(lE (Ac k1)).Ok X0.P X0.Γ:=
 eA (.l ⟨[(false,5,ao),(false,6,ao),(false,7,ao),(false,8,ao)],[]⟩ (.c (.c .o (.j ⟨[(false,5,ao)],[]⟩ .o (.j ⟨[(false,6,ao)],[]⟩ .o .o))) .o)) call85 func85 (aw b ax) ax ax λs=>(show _=pC lR eI k1 s from by kernel_rfl).trans ((congrArg (λa=>pC a eI k1 s) ed).trans ((congrArg (λd=>pC id d k1 s) fT).trans (by kernel_rfl)))
theorem vn:Ko yf:=(show yf=lE (aj (Ac) an) by kernel_rfl)▸ot (X:=X0) (E:=lE) ⟨call85,λ_ _ h=>nomatch h⟩ (Dm) an
def Gh:aA:=⟨85,[(.dat .ex [some 292])],(.cU [ao,ao,ao]),[],λs=>iS s⟩
def Cm(j:Ex->Ex)(G:Sh->(R:Type)->Option R->Option R)(e:Ex)(f:Hc->Option ln):Int×Int×Int×Int->Option ln:=λ⟨a,b,c,h⟩=> bif decide (h<(List.length e.l:Int)) then (idx e.l h).bind λk=> (dO (j k)).bind λd=> bif d.2.1 != 0 then some (0,d.2.1,d.2.2) else ai (λ(i:Int)=>uM b c h f d i) λg=> bif d.1==1 then g (i64.wrap (a+1)) else g a else ai (decide (e.op<=6)) λF=> ai (a==(List.length e.l:Int)) λE=> ai (F&&E) λD=> bif D then ( some (1,0,0)) else ( ai (decide (7<=e.op)) λC=> ai (decide (e.op<=12)) λB=> ai (C&&B) λA=> ai (a==(List.length e.l:Int)) λz=> ai (A&&z) λy=> ai (e.op==13) λx=> ai (y||x) λw=> ai (e.op==14) λv=> ai (w||v) λu=> bif u then ( some (2,0,0)) else ( ai (decide (15<=e.op)) λt=> ai (decide (e.op<=19)) λs=> ai (t&&s) λr=> ai (b==(List.length e.l:Int)) λq=> ai (r&&q) λp=> bif p then ( some (2,0,0)) else ( ai (decide (15<=e.op)) λo=> ai ((i64.wrap (b+c))==(List.length e.l:Int)) λn=> ai (o&&n) λm=> bif m then ( some (3,0,0)) else ( some (0,4,e.at_)))))
def nX(a:Ex->Ex)(b:Sh->(R:Type)->Option R->Option R)(e:Ex):Option ln:= aj (Cm a b e) an (0,0,0,0)
theorem Cv:Ko Gh:=
 eA (.l ⟨[(false,5,ao),(false,6,ao),(false,7,ao),(false,8,ao)],[]⟩ (.c (.c .o (.j ⟨[(false,5,ao)],[]⟩ .o (.j ⟨[(false,6,ao)],[]⟩ .o .o))) .o)) call85 func85 (aw vn ax) ax ax λs=>(show _=nX lR eI s from by kernel_rfl).trans ((congrArg (λa=>nX a eI s) ed).trans ((congrArg (λb=>nX id b s) fT).trans (by kernel_rfl)))
def xP:aA:=⟨79,[abI,ao],V8,[(true,0,ZL)],λs=>cH (d8 s).2 s.1 s.2.1 s.2.2.1 s.2.2.2.1 s.2.2.2.2.1 s.2.2.2.2.2.1 s.2.2.2.2.2.2.1 s.2.2.2.2.2.2.2.1 s.2.2.2.2.2.2.2.2.1⟩
def vM(b:Ex->Ex)(e:Sh->(R:Type)->Option R->Option R)(a:fJ)(d:Int)(c:Int):Option fJ:= some ((b a.1),a.2.1,d,c)
def jj(p:Ex->Ex)(q:Sh->(R:Type)->Option R->Option R)(j:Int)(l:Q7)(at_:Int)(c:br)(b:Q4)(h:Q1)(d:br)(aT:Q5)(f:Int)(a:Int):Option fJ:= bif f != 0 then some ((Ex.mk 0 0 0 []),at_,f,a) else (fE l at_ c).bind λe=> bif e.2.2.1 != 0 then (aJ e.2.2.1 e.2.2.2 l at_ c b h d aT f a).bind λo=> some ((Ex.mk 0 0 0 []),at_,o.1,o.2) else (iS (p e.1)).bind λi=> ai (λ(k:Int×Int)=>vM p q e k.1 k.2) λg=> bif i.2.1 != 0 then (aJ i.2.1 i.2.2 l at_ c b h d aT f a).bind λn=> g (n.1,n.2) else bif i.1 != j then (aJ 4 e.1.at_ l at_ c b h d aT f a).bind λm=> g (m.1,m.2) else g (f,a)
theorem vO:Ko xP:=
 eA (.c .o (.r [0,40000] (.c .o (.s (.j ⟨[(true,0,MS)],[]⟩ .o .o))))) call79 func79 (aw BJ (aw cN (aw Cv ax))) ax ax λs=>(show _=jj lR eI (d8 s).2 s.1 s.2.1 s.2.2.1 s.2.2.2.1 s.2.2.2.2.1 s.2.2.2.2.2.1 s.2.2.2.2.2.2.1 s.2.2.2.2.2.2.2.1 s.2.2.2.2.2.2.2.2.1 from by kernel_rfl).trans ((congrArg (λa=>jj a eI (d8 s).2 s.1 s.2.1 s.2.2.1 s.2.2.2.1 s.2.2.2.2.1 s.2.2.2.2.2.1 s.2.2.2.2.2.2.1 s.2.2.2.2.2.2.2.1 s.2.2.2.2.2.2.2.2.1) ed).trans ((congrArg (λb=>jj id b (d8 s).2 s.1 s.2.1 s.2.2.1 s.2.2.2.1 s.2.2.2.2.1 s.2.2.2.2.2.1 s.2.2.2.2.2.2.1 s.2.2.2.2.2.2.2.1 s.2.2.2.2.2.2.2.2.1) fT).trans (by kernel_rfl)))
def AU:aA:=⟨51,[(.bx 130 0 true [(.own vH 132 false),ao,SD,(.own lN 112 false),SM,SD,(.own CC 180 true),ao,ao])],iu,[(true,0,aqZ)],U9 iG⟩
def xY(k:Ex->Ex)(p:Sh->(R:Type)->Option R->Option R)(l:Q7)(e:br)(b:Q4)(f:Q1)(d:br)(aT:Q5)(j:Ul)(c:XC->Option vx)(i:Int)(o:Int)(n:Int)(m:Int):Option vx:= (bP [61] l m e b f d aT o n).bind λh=> (cH 1 l h.1 e b f d aT h.2.1 h.2.2).bind λa=> aN (aH (List.length j+List.length ([(i,(k a.1))]:List (Int×Ex))) 56)<| (bV 3 [44] l a.2.1 e b f d aT a.2.2.1 a.2.2.2).bind λg=> bif g then ( c ((i64.wrap (a.2.1+1)),a.2.2.1,a.2.2.2,(j++([(i,(k a.1))]:List (Int×Ex))),g)) else ( c (a.2.1,a.2.2.1,a.2.2.2,(j++([(i,(k a.1))]:List (Int×Ex))),g))
def xU(m:Ex->Ex)(o:Sh->(R:Type)->Option R->Option R)(l:Q7)(e:br)(b:Q4)(h:Q1)(d:br)(aT:Q5)(g:Int)(k:Ul)(a:XC->Option vx)(j:Int)(f:Int)(n:Int):Option vx:= ai (λ(i:Int)=>xY m o l e b h d aT k a j f n i) λc=> bif f==0 then c (i64.wrap (g+1)) else c g
def xT(v:Ex->Ex)(z:Sh->(R:Type)->Option R->Option R)(l:Q7)(d:br)(b:Q4)(h:Q1)(c:br)(aT:Q5)(r:Int)(q:Int)(p:Int)(m:Ul)(g:XC->Option vx)(o:uk)(k:Int)(f:E8->Option vx):Bool×Int->Option vx:=λ⟨a,n⟩=> bif decide (n<(m.length:Int)) then bn (!a) (0,(Ex.mk 0 0 0 [])) (idx m n) λw=> ai (w.1==k) λy=> ai (a||y) λx=> f (x,(i64.wrap (n+1))) else ai (λ(s:Int×Int)=>xU v z l d b h c aT r m g k s.1 s.2) λe=> bif o.1 != 1 then (aJ 2 o.2.2.2 l r d b h c aT q p).bind λj=> e (j.1,j.2) else ai (decide (k<0)) λu=> ai (u||a) λt=> bif t then ( (aJ 3 o.2.2.2 l r d b h c aT q p).bind λi=> e (i.1,i.2)) else ( e (q,p))
def xW(i:Ex->Ex)(s:Sh->(R:Type)->Option R->Option R)(l:Q7)(b:br)(c:Q4)(g:Q1)(a:br)(aT:Q5)(m:fJ)(e:XC->Option vx):Int×Int×Int×Ul×Bool->Option vx:=λ⟨k,j,o,h,f⟩=> ai (j==0) λr=> ai (f&&r) λq=> bif q then ( (idx l k).bind λn=> (cR b n.2.1).bind λp=> aj (xT i s l b c g a aT k j o h e n p) an (false,0)) else ( (bP [59] l k b c g a aT j o).bind λd=> aN (aH (List.length aT+List.length ([((i64.wrap ((a.length:Int)-1)),(i m.1),h)]:List Q55)) 80)<| some (d.1,(aT++([((i64.wrap ((a.length:Int)-1)),(i m.1),h)]:List Q55)),d.2.1,d.2.2))
def xZ(g:Ex->Ex)(j:Sh->(R:Type)->Option R->Option R)(l:Q7)(at_:Int)(c:br)(a:Q4)(d:Q1)(b:br)(aT:Q5)(i:Int)(h:Int):Option vx:= (cH 2 l at_ c a d b aT i h).bind λe=> (bP [58] l e.2.1 c a d b aT e.2.2.1 e.2.2.2).bind λf=> aj (xW g j l c a d b aT e) an (f.1,f.2.1,f.2.2,[],true)
def kx(k:Ex->Ex)(m:Sh->(R:Type)->Option R->Option R)(l:Q7)(at_:Int)(d:br)(a:Q4)(f:Q1)(c:br)(aT:Q5)(i:Int)(b:Int):Option vx:= ai (λ(g:Int×Int)=>xZ k m l at_ d a f c aT g.1 g.2) λe=> bif decide (256<=(aT.length:Int)) then (bw l at_ d a f c aT i b).bind λj=> (aJ 9 j l at_ d a f c aT i b).bind λh=> e (h.1,h.2) else e (i,b)
theorem xQ:Ko AU:=
 eA (.j ⟨[(true,0,MS)],[]⟩ .o (.l ⟨[(true,0,ZL),(true,2,(.bx 180 0 true [.same,.same,.same,.same,.same,(.own (.p bf .ex) 183 true)])),(false,3,.bool)],[]⟩ (.c (.r [] (.r [0] (.l ⟨[(false,6,.bool),(false,7,ao)],[]⟩ (.c .o (.j ⟨[(true,0,MS)],[4]⟩ .o (.j ⟨[(true,0,al7)],[]⟩ .o .o)))))) (.r [0,2] .o)))) call51 func51 (aw vO (aw kq (aw rT (aw iJ (aw cN (aw gL ax)))))) ax ax λs=>(show _=kx lR eI s.1 s.2.1 s.2.2.1 s.2.2.2.1 s.2.2.2.2.1 s.2.2.2.2.2.1 s.2.2.2.2.2.2.1 s.2.2.2.2.2.2.2.1 s.2.2.2.2.2.2.2.2 from by kernel_rfl).trans ((congrArg (λa=>kx a eI s.1 s.2.1 s.2.2.1 s.2.2.2.1 s.2.2.2.2.1 s.2.2.2.2.2.1 s.2.2.2.2.2.2.1 s.2.2.2.2.2.2.2.1 s.2.2.2.2.2.2.2.2) ed).trans ((congrArg (λb=>kx id b s.1 s.2.1 s.2.2.1 s.2.2.2.1 s.2.2.2.2.1 s.2.2.2.2.2.1 s.2.2.2.2.2.2.1 s.2.2.2.2.2.2.2.1 s.2.2.2.2.2.2.2.2) fT).trans (by kernel_rfl)))
def B8:aA:=⟨75,[abI],ao,[(true,0,ZL)],U9 dZ⟩
theorem x5:Ko B8:=
 aG (.s (.s (.j ⟨[(true,0,al7)],[]⟩ .o (.r [] (.j ⟨[(true,0,MS)],[]⟩ .o .o))))) call75 func75 (aw iJ (aw cN ax))
def Jg:aA:=⟨76,[jZ],.bool,[],λs=>nM s⟩
theorem El:Ko Jg:=
 aG (.c .o (.l ⟨[(false,3,ao)],[]⟩ .o)) call76 func76 ax
def Ai:aA:=⟨48,[(.bx 130 0 true [(.own vH 132 false),ao,(.own .s 9 true),(.own lN 112 true),kW,SD,(.own CC 180 false),ao,ao])],iu,[(true,0,arS)],U9 ij⟩
theorem wU:Ko Ai:=
 aG (.s (.s (.s (.s (.s (.s (.s (.s (.j ⟨[(true,0,MS)],[]⟩ .o (.r [0] .o)))))))))) call48 func48 (aw p6 (aw gL (aw x5 (aw kq (aw El (aw cN ax))))))
def Ji:aA:=⟨26,[.str],(.cU [amp,ao,ao]),[],λs=>fK s⟩
theorem E9:Ko Ji:=
 aG (.c .o (.l ⟨[(true,8,(.bx 130 0 true [.same,ao,(.own .s 9 true),(.own lN 112 true),kW,(.own .s 9 true),(.own CC 180 true),ao,ao]))],[]⟩ (.c (.s (.s (.j ⟨[(true,8,MS)],[]⟩ .o (.j ⟨[(true,8,al7)],[]⟩ .o (.j ⟨[(true,8,arS)],[]⟩ .o (.c (.l ⟨[(true,8,aqZ),(false,12,.bool)],[]⟩ .o) .o)))))) (.j ⟨[(true,8,MS)],[]⟩ .o (.c (.r [2] .o) .o))))) call26 func26 (aw DC (aw iJ (aw p6 (aw kq (aw xQ (aw wU (aw gL (aw cN ax))))))))
def NF:aA:=⟨12,[.str],(.cU [amp,.bool]),[],λs=>np s⟩
theorem xB:Ko NF:=
 aG .o call12 func12 (aw E9 ax)
def Pp:aA:=⟨62,[(.dat lN [])],.bool,[],λs=>tM s⟩
theorem Kc:Ko Pp:=
 aG .o call62 func62 ax
def MN:aA:=⟨61,[jZ,(.fn 62 [] [])],EP,[],λs=>sa s⟩
theorem IC:Ko MN:=
 aG (.l ⟨[(true,5,EP),(false,13,ao)],[]⟩ .o) call61 func61 (aw Kc ax)
def Fs:aA:=⟨86,[(.sli .bo),.bool],ao,[],U2 ph⟩
theorem Ce:Ko Fs:=
 aG (.l ⟨[(false,8,ao)],[]⟩ .o) call86 func86 ax
def BT:aA:=⟨60,[(.sli .bo),.bool],.bool,[],U2 je⟩
theorem yG:Ko BT:=
 aG .o call60 func60 (aw Ce ax)
def VG:aA:=⟨36,[jZ],.bool,[],λs=>uI s⟩
theorem CK:Ko VG:=
 aG .o call36 func36 (aw IC (aw yG ax))
def vQ:aA:=⟨37,[jZ],(.own lN 112 true),[],λs=>cQ s⟩
def vG(s:Q4):Option Q4:= A4 s ( some []) ( aN (aH (List.length ([]:List js)+List.length s) 16)<| some (([]:List js)++s))
theorem kA:Ko vQ:=
 eA .o call37 func37 ax ax ax λs=>(show _=vG s from by kernel_rfl).trans oJ
def YD:aA:=⟨22,[pW,nh],(.cU [(.own lN 112 true),ao]),[],U2 vZ⟩
theorem Sl:Ko YD:=
 aG (.c .o (.r [40000] .o)) call22 func22 (aw CK (aw kA ax))
def Yp:aA:=⟨38,[],(.sli .n),[],λ_=>cz⟩
theorem Fo:Ko Yp:=
 aG .o call38 func38 ax
def Qt:aA:=⟨166,[ao],(.cU [(.dat gQ [some 149,some 7]),ao]),[],λs=>oR s⟩
theorem AZ:Ko Qt:=
 aG .o call166 func166 ax
def agO:aA:=⟨161,[ao],(.cU [(.dat (.p gQ mo) [some 149,some 7,some 11]),ao]),[],λs=>Lt s⟩
theorem YE:Ko agO:=
 aG .o call161 func161 (aw AZ ax)
def L5:aA:=⟨155,[rC,pI,QY],(.cU [(.dat S5 [none,some 149,some 7,some 11,none,none,none,none,none,none,none,none,none,none,none,none,none,none,none]),ao]),[],U3 jN⟩
theorem HY:Ko L5:=
 aG .o call155 func155 (aw YE ax)
def KX:aA:=⟨201,[jZ,ao],(.cU [(.dat ZN [some 147,some 149,some 7,some 11]),ao]),[],U2 Kx⟩
def YR(f:Nat)(s:Q4)(most:Int)(e:(Q6×Int))(a:((List Q6)×Int)->Option (Aq×Int)):(List Q6)×Int->Option (Aq×Int):=λ⟨b,c⟩=> bif decide (c<(i64.wrap (Int.tdiv (i64.wrap ((i64.wrap ((s.length:Int)+2))-1)) 2))) then (oR most).bind λd=> aN (aH (List.length b+List.length ([d.1]:List Q6)) 56)<| a ((b++([d.1]:List Q6)),(i64.wrap (c+1))) else some ((b,e.1,[]),0)
def agS(fl:Nat)(s:Q4)(most:Int):Option (Aq×Int):= (oR most).bind λa=> bif a.2 != 0 then some (([],(0,[],[]),[]),a.2) else aj (YR fl s most a) fl ([],0)
theorem Vw(fl:Nat)(s:fQ (rZ KX.ps)):Zt { X0 with fl:=fl } [Qt] [] [] (.c .o (.l ⟨[(true,4,af0),(true,8,agl),(false,27,ao)],[]⟩ .o)) Tryz.f201 KX s=agS fl s.1 s.2:=by kernel_rfl
theorem YL:Ko KX:=
 eA (.c .o (.l ⟨[(true,4,af0),(true,8,agl),(false,27,ao)],[]⟩ .o)) call201 func201 (aw AZ ax) ax ax λs=>(Vw an s).trans (by kernel_rfl)
def KD:aA:=⟨195,[rC,pI,QY],(.cU [(.dat S5 [none,none,none,none,some 147,some 149,some 7,some 11,none,none,none,none,none,none,none,none,none,none,none]),ao]),[],U3 iY⟩
theorem FZ:Ko KD:=
 aG .o call195 func195 (aw YL ax)
def ado:aA:=⟨223,[ao],(.cU [(.dat gQ [some 149,some 7]),ao]),[],λs=>Oc s⟩
theorem Vn:Ko ado:=
 aG .o call223 func223 (aw AZ ax)
def PX:aA:=⟨224,[ao],ao,[],λs=>xn s⟩
def Qs:TK2->TK2:=λa s=>sR a s
theorem QE(a:TK2)(b:OK2 a):(x4 (Qs a)).Ok X0.P X0.Γ:=
 aG .o call224 func224 (aw b ax)
theorem Bk:Ko PX:=(show PX=x4 (aj (Qs) an) by kernel_rfl)▸ot (X:=X0) (E:=x4) ⟨call224,λ_ _ h=>nomatch h⟩ (QE) an
def afz:aA:=⟨219,[jZ,ao],(.cU [(.dat ab8 [some 541,some 11]),ao]),[],U2 JX⟩
theorem YI:Ko afz:=
 aG (.c .o (.r [30000,20006] (.l ⟨[(true,4,(.bx 82 0 true [.same,.same])),(true,8,(.bx 82 0 true [(.own gQ 270 true),.same])),(false,23,ao)],[]⟩ .o))) call219 func219 (aw Vn (aw Bk ax))
def KC:aA:=⟨213,[rC,pI,QY],(.cU [(.dat S5 [none,none,none,none,none,none,none,none,some 541,some 11,none,none,none,none,none,none,none,none,none]),ao]),[],U3 iU⟩
theorem Gc:Ko KC:=
 aG .o call213 func213 (aw YI ax)
def ac4:aA:=⟨185,[Dh],ao,[],λs=>BS s⟩
theorem Jh:Ko ac4:=
 aG (.l ⟨[(false,0,Dh),(false,3,ao)],[]⟩ .o) call185 func185 ax
def Ot:aA:=⟨177,[(.dat lN [])],ao,[],λs=>km s⟩
theorem Jv:Ko Ot:=
 aG .o call177 func177 (aw Jh ax)
def Pn:aA:=⟨176,[jZ,(.fn 177 [] [])],kW,[],λs=>oG s⟩
theorem yb:Ko Pn:=
 aG (.l ⟨[(true,5,kW),(false,13,ao)],[]⟩ .o) call176 func176 (aw Jv ax)
def YN:aA:=⟨188,[jZ],ao,[],λs=>Bv s⟩
theorem RV:Ko YN:=
 aG (.l ⟨[(false,3,ao),(false,9,ao)],[]⟩ .o) call188 func188 (aw yb ax)
def V5:aA:=⟨179,[jZ],ao,[],λs=>p7 s⟩
theorem CJ:Ko V5:=
 aG .o call179 func179 (aw RV ax)
def aiB:aA:=⟨246,[ao],(.cU [(.dat AG [some 547,some 7]),ao]),[],λs=>OS s⟩
theorem acB:Ko aiB:=
 aG .o call246 func246 ax
def Mk:aA:=⟨240,[rC,pI,QY],J0,[],U3 gX⟩
theorem HZ:Ko Mk:=
 aG (.c .o (.l ⟨[(true,4,(.bx 91 0 true [.same,.same,.same,.same,.same,.same,.same,.same,.same,.same,.same,.same,.same,.same,ao,(.sli uJ),ao,ao,aY,ao,(.sli uJ),ao,ao,aY,ao,(.sli uJ),ao,ao,aY,.same,.same,.same,.same,.same,.same])),(true,6,(.bx 91 0 true [.same,.same,.same,.same,.same,.same,.same,.same,.same,.same,.same,.same,.same,.same,.same,.same,.same,.same,.same,.same,.same,.same,.same,.same,.same,.same,.same,.same,.same,.same,.same,.same,.same,.same,.same])),(false,18,ao)],[]⟩ .o)) call240 func240 (aw CJ (aw acB ax))
def ahO:aA:=⟨280,[ao,ao,Dh],(.cU [(.dat HB [some 11,some 11,some 11]),ao]),[],U3 aaa⟩
theorem Ym:Ko ahO:=
 aG (.c .o (.l ⟨[(true,6,(.bx 89 0 true [.same,.same,.same,.same,.same,.same])),(true,8,(.bx 89 0 true [.same,.same,.same,jA,jA,jA])),(false,29,ao)],[]⟩ .o)) call280 func280 ax
def Mi:aA:=⟨274,[rC,pI,QY],J0,[],U3 pO⟩
theorem Ib:Ko Mi:=
 aG .o call274 func274 (aw Ym ax)
def adw:aA:=⟨23,[jZ,QY],J0,[],U2 jR⟩
theorem WK:Ko adw:=
 aG (.r [] (.c .o (.r [3,40000] .o))) call23 func23 (aw CK (aw Fo (aw kA (aw HY (aw FZ (aw Gc (aw HZ (aw Ib ax))))))))
def adH:aA:=⟨63,[nh,aY,aY],(.fn 87 [] [Y3,(.bx 26 0 true [(.sli (.l .ex)),(.sli wQ),aY,(.sli wQ)]),Y3]),[],U3 Ci⟩
theorem IS:Ko adH:=
 aG .o call63 func63 ax
def abB:aA:=⟨109,[.bool],ao,[],λs=>yN s⟩
theorem Sx:Ko abB:=
 aG .o call109 func109 ax
def P9:aA:=⟨102,[wW,aY],ao,[],U2 rS⟩
def Wm(s:Ex->Ex)(z:Sh->(R:Type)->Option R->Option R)(y:(Ex×Q1)->zc)(e:Ex)(q:Q1)(b:ln->zc):Int×Int×Int->zc:=λ⟨a,c,d⟩=> bif decide (d<(List.length (aV e.l 0 (min (List.length e.l:Int) 2)):Int)) then (idx (aV e.l 0 (min (List.length e.l:Int) 2)) d).bind λu=> (y ((s u),q)).bind λk=> bif d==0 then b (k,c,(i64.wrap (d+1))) else bif d==1 then b (a,k,(i64.wrap (d+1))) else none else ai (λ(j:Int×Int×Bool)=>Ec j.1 j.2.1 j.2.2) λp=> ai (λ(i:Int×Int×Bool)=>E3 i.1 i.2.1 i.2.2) λo=> ai (λ(h:Int×Int×Bool)=>FK h.1 h.2.1 h.2.2) λg=> bif e.op==1 then some e.n else bif e.op==2 then ai (decide (e.n<0)) λAx=> ai (decide ((q.length:Int)<=e.n)) λw=> ai (Ax||w) λv=> bif v then ( some 0) else ( (idx q e.n).bind λt=> some t) else bif e.op==3 then some (i64.wrap (a+c)) else bif e.op==5 then some (i64.wrap (a*c)) else bif e.op==6 then some (i64.wrap (0-a)) else bif e.op==4 then some (i64.wrap (a-c)) else bif e.op==8 then g (a,c,true) else ai (λ(x:Unit)=>Fb e a c p o) λm=> ai (λ(r:Bool)=>Fi a c g m r) λf=> bif e.op==7 then f (e.op==7) else f (e.op==19)
def Cr(a:Ex->Ex)(d:Sh->(R:Type)->Option R->Option R)(c:(Ex×Q1)->zc)(e:Ex)(b:Q1):zc:= aN (df 0 (min (List.length e.l:Int) 2) (List.length e.l))<| aj (Wm a d c e b) an (0,0,0)
def Qc:TK3->TK3:=λa s=>wo a s.1 s.2
theorem Rt(a:TK3)(d:OK3 a):(yE (Qc a)).Ok X0.P X0.Γ:=
 eA (.l ⟨[(true,5,(.bx 215 0 true [ao,ao])),(false,19,ao)],[]⟩ (.c .o (.r [] (.s (.s (.s (.s (.s (.s (.s (.s (.j ⟨[(false,8,ao),(false,9,ao),(false,10,.bool)],[2]⟩ (.s (.j ⟨[(false,8,ao),(false,9,ao),(false,10,.bool)],[2]⟩ (.s (.j ⟨[(false,8,ao),(false,9,ao),(false,10,.bool)],[2]⟩ (.c .o (.c .o (.c .o (.c .o (.c .o (.c .o (.c .o (.j ⟨[],[]⟩ (.j ⟨[(false,50,.bool)],[]⟩ .o .o) .o)))))))) .o)) .o)) .o)))))))))))) call102 func102 (aw d (aw Sx ax)) ax ax λs=>(show _=Cr lR eI a s.1 s.2 from by kernel_rfl).trans ((congrArg (λb=>Cr b eI a s.1 s.2) ed).trans ((congrArg (λe=>Cr id e a s.1 s.2) fT).trans (by kernel_rfl)))
theorem Bh:Ko P9:=(show P9=yE (aj (Qc) an) by kernel_rfl)▸ot (X:=X0) (E:=yE) ⟨call102,λ_ _ h=>nomatch h⟩ (Rt) an
def Yr:aA:=⟨101,[wW,aaV],.bool,[],U2 BE⟩
def CG(a:Ex->Ex)(c:Sh->(R:Type)->Option R->Option R)(e:Ex)(x:Q1):y2:= (rS (a e) x).bind λb=> some (b != 1)
theorem RQ:Ko Yr:=
 eA .o call101 func101 (aw Bh ax) ax ax λs=>(show _=CG lR eI s.1 s.2 from by kernel_rfl).trans ((congrArg (λa=>CG a eI s.1 s.2) ed).trans ((congrArg (λb=>CG id b s.1 s.2) fT).trans (by kernel_rfl)))
def ux:aA:=⟨108,[(.sli .ex),(.fn 101 [] [aaV])],ao,[],U2 gW⟩
def sF(e:Ex->Ex)(g:Sh->(R:Type)->Option R->Option R)(s:(List Ex))(c:Q1)(a:Int->zc)(b:Int):zc:= bif decide (b<(s.length:Int)) then (idx s b).bind λf=> (BE (e f) c).bind λd=> bif d then ( some b) else ( a (i64.wrap (b+1))) else some (-1)
def gB(a:Ex->Ex)(b:Sh->(R:Type)->Option R->Option R)(s:(List Ex))(c:Q1):zc:= aj (sF a b s c) an 0
theorem sE:Ko ux:=
 eA (.l ⟨[(false,8,ao)],[]⟩ .o) call108 func108 (aw RQ ax) ax ax λs=>(show _=gB lR eI s.1 s.2 from by kernel_rfl).trans ((congrArg (λa=>gB a eI s.1 s.2) ed).trans ((congrArg (λb=>gB id b s.1 s.2) fT).trans (by kernel_rfl)))
def sP:aA:=⟨100,[(.sli .ex),(.fn 101 [] [aaV])],.bool,[],U2 fZ⟩
theorem p8:Ko sP:=
 aG .o call100 func100 (aw sE ax)
def aga:aA:=⟨88,[nh,ao,aY],.bool,[],U3 Fz⟩
theorem LD:Ko aga:=
 aG .o call88 func88 (aw p8 ax)
def HV:aA:=⟨89,[aY],kW,[],λs=>bA s⟩
def H7(s:Q1):Option Q1:= A4 s ( some []) ( aN (aH (List.length ([]:zk)+List.length s) 8)<| some (([]:zk)++s))
theorem dW:Ko HV:=
 eA .o call89 func89 ax ax ax λs=>(show _=H7 s from by kernel_rfl).trans oJ
def xS:aA:=⟨103,[jA,ao,ao],jA,[],U3 j2⟩
theorem vL:Ko xS:=
 aG (.s (.s (.j ⟨[(false,0,jA),(false,7,Dh)],[]⟩ .o .o))) call103 func103 (aw ajb ax)
def Hr:aA:=⟨90,[jA,ao,ao],jA,[],U3 mF⟩
theorem DL:Ko Hr:=
 aG .o call90 func90 (aw vL ax)
def Wi:aA:=⟨64,[abN,aY],iu,[(true,0,abN)],λs=>ue s.2.2 s.1 s.2.1⟩
theorem CS:Ko Wi:=
 aG (.j ⟨[(true,0,(.bx 161 0 true [.same,(.mp .s .bo true)]))],[]⟩ .o (.l ⟨[(true,0,(.bx 161 0 true [.same,.same])),(false,4,jA),(false,18,ao)],[]⟩ (.c .o (.r [] (.c (.r [0] .o) .o))))) call64 func64 (aw DL ax)
def ady:aA:=⟨39,[pW,nh],uG,[],U2 BW⟩
theorem acs:(⟨87,Tryz.f87⟩:pL).Ok X0.P:=⟨call87,func87⟩
theorem Wd:Ko ady:=
 eA (.c (.c (.l ⟨[(false,9,ao),(true,10005,abN)],[]⟩ (.c (.n 4 (.c .o .o)) .o)) .o) (.r [70000,5] .o)) call39 func39 (aw IS (aw LD (aw dW (aw CS ax)))) ax (aw acs ax) λ_=>by kernel_rfl
def Ph:aA:=⟨104,[(.dat lN []),ao],.bool,[],U2 lI⟩
theorem yu:Ko Ph:=
 aG .o call104 func104 ax
def Ql:aA:=⟨91,[jZ,aY],ao,[],U2 fH⟩
theorem iW:Ko Ql:=
 aG (.c .o (.l ⟨[(false,14,ao)],[]⟩ .o)) call91 func91 (aw yu ax)
def ag8:aA:=⟨92,[pI],.ifn,[],λs=>dM s⟩
theorem CH:Ko ag8:=
 aG (.r [1] .o) call92 func92 (aw Fo ax)
def YQ:aA:=⟨181,[eO],jA,[],λs=>vY s⟩
def Ys(b:Q1):Option Q1:= A4 b ( some []) ( aN (aH (List.length ([]:zk)+List.length b) 1)<| some (([]:zk)++b))
theorem ED:Ko YQ:=
 eA .o call181 func181 ax ax ax λs=>(show _=Ys s from by kernel_rfl).trans oJ
def aiW:aA:=⟨186,[(.dat wX [none])],ahx,[],λs=>Vz s⟩
theorem abm:Ko aiW:=
 aG .o call186 func186 (aw ED ax)
def Ws:aA:=⟨187,[ahx,.bool],iu,[(true,0,ahx)],λs=>yL s.2.2 s.1 s.2.1⟩
theorem PC:Ko Ws:=
 aG (.j ⟨[(true,0,(.bx 317 0 true [jA,.same]))],[]⟩ .o (.j ⟨[(true,0,(.bx 317 0 true [jA,.same]))],[]⟩ (.c (.r [0] .o) .o) .o)) call187 func187 ax
def afR:aA:=⟨178,[(.dat wX [none]),Dh,ao],(.cU [(.dat wX [none]),ao]),[],U3 JV⟩
theorem YF:Ko afR:=
 aG (.c .o (.c .o (.l ⟨[(true,6,(.bx 296 0 true [.same,.same])),(true,8,ahx),(false,9,ao)],[]⟩ (.c (.r [8] .o) .o)))) call178 func178 (aw Jh (aw abm (aw PC ax)))
def Hh:aA:=⟨169,[jZ,aY],(.cU [jA,ao]),[],U2 lO⟩
theorem tY:Ko Hh:=
 aG (.c .o (.l ⟨[(true,7,(.bx 296 0 true [eO,ao])),(false,20,ao)],[]⟩ (.c (.r [7] .o) .o))) call169 func169 (aw iW (aw yb (aw YF (aw CJ ax))))
def adn:aA:=⟨163,[pI,aY],eO,[],U2 eR⟩
theorem fA:Ko adn:=
 aG .o call163 func163 (aw tY ax)
def YZ:aA:=⟨192,[QD],iu,[(true,0,QD)],λs=>Qi s⟩
theorem Qx:Ko YZ:=
 aG .o call192 func192 ax
def Yt:aA:=⟨193,[QD],iu,[(true,0,QD)],λs=>Qd s⟩
theorem Sf:Ko Yt:=
 aG .o call193 func193 ax
def Yv:aA:=⟨194,[QD],iu,[(true,0,QD)],λs=>Qh s⟩
theorem Rn:Ko Yv:=
 aG .o call194 func194 ax
def ag6:aA:=⟨190,[eO,Dh],Dh,[],U2 Eh⟩
theorem Cy:Ko ag6:=
 aG (.l ⟨[(true,5,QD),(false,15,ao)],[]⟩ (.c .o (.n 50 .o))) call190 func190 (aw Qx (aw Sf (aw Rn ax)))
def acX:aA:=⟨189,[Dh,ao],ao,[],U2 xz⟩
theorem A6:Ko acX:=
 aG .o call189 func189 ax
def YS:aA:=⟨191,[eO,eO],.bool,[],U2 vX⟩
theorem FU:Ko YS:=
 aG .o call191 func191 ax
def Py:aA:=⟨183,[H2,eO],ao,[],U2 fS⟩
theorem yg:Ko Py:=
 aG (.n 0 (.j ⟨[(false,5,ao)],[]⟩ .o .o)) call183 func183 (aw Cy (aw A6 (aw FU ax)))
def Pm:aA:=⟨184,[H2,eO],Qy,[],U2 yx⟩
theorem JY:Ko Pm:=
 aG .o call184 func184 (aw yg ax)
def Zk:aA:=⟨175,[H2,eO],Qy,[],U2 dQ⟩
theorem o7:Ko Zk:=
 aG .o call175 func175 (aw JY ax)
def Km:aA:=⟨183,[(.dat gQ [some 148,some 6]),eO],ao,[],U2 oN⟩
theorem F7:Ko Km:=
 aG (.n 0 (.j ⟨[(false,5,ao)],[]⟩ .o .o)) call183 func183 (aw Cy (aw A6 (aw FU ax)))
def Mm:aA:=⟨182,[(.bx 306 0 true [ao,(.own mo 74 true),aY]),ao],iu,[(true,0,(.bx 306 0 true [.same,(.own mo 74 true),aY]))],λs=>rX s.2.2.2 s.1 s.2.1 s.2.2.1⟩
theorem IN:Ko Mm:=
 aG (.l ⟨[(true,0,(.bx 306 0 true [.same,(.own mo 74 true),kW])),(false,18,(.slr 1)),(false,20,ao)],[]⟩ (.c (.r [0] .o) .o)) call182 func182 (aw F7 ax)
def Jt:aA:=⟨170,[H2,eO],(.cU [H2,ao,.bool,ao]),[],U2 ck⟩
theorem vJ:Ko Jt:=
 aG (.c .o (.c .o (.s (.s (.j ⟨[(true,11,(.bx 306 0 true [.same,(.own mo 74 true),aY]))],[2]⟩ (.c .o (.r [11] .o)) .o))))) call170 func170 (aw o7 (aw ED (aw IN (aw dW (aw yg ax)))))
def Yl:aA:=⟨164,[QX,eO],(.cU [QX,.bool,ao]),[],U2 Br⟩
theorem RY:Ko Yl:=
 aG (.c .o (.r [4,40000] .o)) call164 func164 (aw vJ ax)
def Ky:aA:=⟨157,[rC,pI,aY],Wn,[],U3 kT⟩
theorem Gp:Ko Ky:=
 aG (.r [40000] .o) call157 func157 (aw fA (aw RY ax))
def LW:aA:=⟨209,[jZ,aY],(.fn 212 [] [(.bx 32 0 true [jZ]),Y3]),[],U2 wu⟩
theorem FN:Ko LW:=
 aG .o call209 func209 ax
def LV:aA:=⟨210,[jA,aY],jA,[],U2 wa⟩
theorem FG:Ko LV:=
 aG (.l ⟨[(false,0,jA),(false,10,ao)],[]⟩ (.c (.l ⟨[(false,0,jA),(false,14,ao)],[]⟩ .o) .o)) call210 func210 ax
def PS:aA:=⟨206,[Ng,jZ,aY],ao,[],U3 ur⟩
theorem Xj:(⟨212,Tryz.f212⟩:pL).Ok X0.P:=⟨call212,func212⟩
theorem Ix:Ko PS:=
 eA (.c (.c (.l ⟨[(false,4,ao),(true,10006,(.bx 3 0 true [ao])),(true,10007,(.bx 74 0 true [jA]))],[]⟩ .o) .o) (.r [70000,6,7] .o)) call206 func206 (aw FN (aw tY (aw o7 (aw FG ax)))) ax (aw Xj ax) λ_=>by kernel_rfl
def acL:aA:=⟨211,[H2],ao,[],λs=>yA s⟩
theorem G5:Ko acL:=
 aG .o call211 func211 ax
def PW:aA:=⟨207,[Ng],ao,[],λs=>B6 s⟩
theorem VC:Ko PW:=
 aG .o call207 func207 (aw G5 ax)
def lT:aA:=⟨208,[(.sli gQ)],(.own gQ 73 true),[],λs=>dD s⟩
def vF(s:(List Q6)):Option (List Q6):= A4 s ( some []) ( aN (aH (List.length ([]:List Q6)+List.length s) 56)<| some (([]:List Q6)++s))
theorem tO:Ko lT:=
 eA .o call208 func208 ax ax ax λs=>(show _=vF s from by kernel_rfl).trans oJ
def CF:aA:=⟨203,[Ng,jZ,aY],(.cU [Ng,.bool,ao]),[],U3 Bs⟩
def Sb(n:Nat)(c:Aq)(o:Q4)(b:(Q4×Q1))(e:(Int×(List Q6)×Q1)->Option Q54):Int×(List Q6)×Q1->Option Q54:=λ⟨a,d,j⟩=> bif decide ((i64.wrap (a*2))<(b.1.length:Int)) then aN (df (i64.wrap (a*2)) (min (b.1.length:Int) (i64.wrap ((i64.wrap (a+1))*2))) (List.length b.1))<| aN (df (i64.wrap (a*2)) (min (b.1.length:Int) (i64.wrap ((i64.wrap (a+1))*2))) (List.length b.2))<| (lO (aV b.1 (i64.wrap (a*2)) (min (b.1.length:Int) (i64.wrap ((i64.wrap (a+1))*2)))) (aV b.2 (i64.wrap (a*2)) (min (b.1.length:Int) (i64.wrap ((i64.wrap (a+1))*2))))).bind λk=> (idx d a).bind λl=> (ck l k.1).bind λf=> (wa j ([f.2.1]:zk)).bind λg=> (idx d a).bind λm=> bif !true then (ck c.2.1 g).bind λi=> aN (kM 0 (c.2.2.length:Int) (c.2.2.length:Int) (List.length c.2.2)&&((c.2.2.length:Int)==(c.2.2.length:Int)))<| aN (aH (List.length (aV c.2.2 0 (c.2.2.length:Int))+List.length ([0]:zk)) 1)<| some (((List.set d (Int.toNat a) f.1),i.1,((aV c.2.2 0 (c.2.2.length:Int))++([0]:zk))),true,0) else e ((i64.wrap (a+1)),(List.set d (Int.toNat a) f.1),g) else (ck c.2.1 j).bind λh=> aN (kM 0 (c.2.2.length:Int) (c.2.2.length:Int) (List.length c.2.2)&&((c.2.2.length:Int)==(c.2.2.length:Int)))<| aN (aH (List.length (aV c.2.2 0 (c.2.2.length:Int))+List.length ([0]:zk)) 1)<| some ((d,h.1,((aV c.2.2 0 (c.2.2.length:Int))++([0]:zk))),true,0)
def YM(fl:Nat)(c:Aq)(s:Q4)(a:Q1):Option Q54:= (fH s a).bind λb=> bif b != 0 then some (c,false,b) else (ur c s a).bind λg=> bif decide (0<=g) then some (c,false,0) else (B6 c).bind λf=> bif decide (c.2.1.1<=f) then some (c,false,7) else (dD c.1).bind λe=> (wu s a).bind λd=> aj (Sb fl c s d) fl (0,e,[])
theorem Pu(fl:Nat)(s:fQ (rZ CF.ps)):Zt { X0 with fl:=fl } [Ql,PS,PW,lT,LW,Hh,Jt,LV] [] [⟨212,Tryz.f212⟩] (.c .o (.c .o (.r [] (.c .o (.c (.c (.l ⟨[(false,4,ao),(true,10003,agl),(true,10006,af0),(true,10010,(.bx 74 0 true [jA]))],[]⟩ .o) (.r [10,3] .o)) (.r [70000,3,6,10] .o)))))) Tryz.f203 CF s=YM fl s.1 s.2.1 s.2.2:=by kernel_rfl
theorem Rc:Ko CF:=
 eA (.c .o (.c .o (.r [] (.c .o (.c (.c (.l ⟨[(false,4,ao),(true,10003,agl),(true,10006,af0),(true,10010,(.bx 74 0 true [jA]))],[]⟩ .o) (.r [10,3] .o)) (.r [70000,3,6,10] .o)))))) call203 func203 (aw iW (aw Ix (aw VC (aw tO (aw FN (aw tY (aw vJ (aw FG ax)))))))) ax (aw Xj ax) λs=>(Pu an s).trans (by kernel_rfl)
def IF:aA:=⟨197,[rC,pI,aY],Wn,[],U3 kh⟩
theorem Ei:Ko IF:=
 aG .o call197 func197 (aw Rc ax)
def WX:aA:=⟨231,[jZ,aY],(.own (.i .u32) 237 true),[],U2 yZ⟩
theorem CO:Ko WX:=
 aG (.l ⟨[(false,5,(.own (.i .u32) 237 true)),(false,10,ao)],[]⟩ .o) call231 func231 ax
def af7:aA:=⟨238,[tq,tq],(.dat WE []),[],U2 Lv⟩
theorem LN:Ko af7:=
 aG (.l ⟨[(true,4,(.bx 365 0 true [.same,.same,.same,.same,.same,.same,.same,.same])),(true,5,(.bx 365 0 true [od,od,od,od,od,od,od,od])),(false,7,ao)],[]⟩ (.c (.r [5] .o) .o)) call238 func238 ax
def QP:aA:=⟨239,[(.dat WE [])],eO,[],λs=>uS s⟩
theorem Ay:Ko QP:=
 aG .o call239 func239 ax
def Z2:aA:=⟨237,[H2,tq,tq],Qy,[],U3 DI⟩
theorem UX:Ko Z2:=
 aG .o call237 func237 (aw LN (aw Ay (aw o7 ax)))
def Re:bZ:=⟨233,[ag9,ao,tq,tq],NN,none,false,false,tq,[],λs=>ru s.2.1 s.2.2.1 s.2.2.2 s.1⟩
theorem Aw:LZ Re:=
 ago .o call233 func233 (aw UX ax)
def FF:bZ:=⟨236,[ag9,ao,Vs],NN,none,false,false,tq,[],λs=>uT s.2.1 s.2.2 s.1⟩
def Ew:TK4->TK4:=λa s=>mY a s.1 s.2.1 s.2.2
theorem IY(a:TK4)(b:OK4 a):(pM (Ew a)).Ok X0.P X0.Γ:=
 NS (.c .o (.r [0] .o)) call236 func236 (aw Bk ax) (aw b (aw Aw ax)) ax λ_=>by kernel_rfl
theorem L0:LZ FF:=(show FF=pM (aj (Ew) an) by kernel_rfl)▸Zl (X:=X0) (E:=pM) ⟨call236,λ_ _ h=>nomatch h⟩ (IY) an
def Ps:bZ:=⟨230,[ag9,Vs],NN,none,false,false,tq,[],λs=>oH s.2 s.1⟩
theorem Kq:LZ Ps:=
 NS (.c (.r [0] .o) .o) call230 func230 ax (aw Aw (aw L0 ax)) ax λ_=>by kernel_rfl
def acY:aA:=⟨226,[Og,jZ,aY],Qy,[],U3 xw⟩
theorem ajo:(⟨232,Tryz.f232⟩:pL).Ok X0.P:=⟨call232,func232⟩
theorem IB:Ko acY:=
 eA .o call226 func226 (aw CO ax) (aw Kq ax) (aw ajo ax) λ_=>by kernel_rfl
def aaQ:aA:=⟨234,[H2],ao,[],λs=>Ll s⟩
theorem Ux:Ko aaQ:=
 aG .o call234 func234 (aw G5 ax)
def ads:aA:=⟨227,[Og],ao,[],λs=>GY s⟩
theorem VY:Ko ads:=
 aG .o call227 func227 (aw Ux ax)
def vI:aA:=⟨228,[(.sli gQ)],(.own gQ 270 true),[],λs=>fe s⟩
def vB(s:(List Q6)):Option (List Q6):= A4 s ( some []) ( aN (aH (List.length ([]:List Q6)+List.length s) 56)<| some (([]:List Q6)++s))
theorem tN:Ko vI:=
 eA .o call228 func228 ax ax ax λs=>(show _=vB s from by kernel_rfl).trans oJ
def WR:aA:=⟨235,[H2,tq,tq],(.cU [H2,ao,.bool,ao]),[],U3 yR⟩
theorem Pv:Ko WR:=
 aG (.r [40000] .o) call235 func235 (aw LN (aw Ay (aw vJ ax)))
def N5:aA:=⟨229,[agm,ao,tq,tq],tq,[(true,0,agY)],λs=>nz s.2.1 s.2.2.1 s.2.2.2 s.1⟩
theorem xI:Ko N5:=
 aG (.r [0] .o) call229 func229 (aw Pv ax)
def Al:aA:=⟨236,[agm,ao,Vs],tq,[(true,0,agY)],λs=>vK s.2.1 s.2.2 s.1⟩
def As:TK5->TK5:=λa s=>kf a s.1 s.2.1 s.2.2
theorem ER(a:TK5)(b:OK5 a):(mn (As a)).Ok X0.P X0.Γ:=
 aG (.c .o (.r [0] .o)) call236 func236 (aw b (aw Bk (aw xI ax)))
theorem Hz:Ko Al:=(show Al=mn (aj (As) an) by kernel_rfl)▸ot (X:=X0) (E:=mn) ⟨call236,λ_ _ h=>nomatch h⟩ (ER) an
def Li:aA:=⟨230,[agm,Vs],tq,[(true,0,agY)],λs=>oW s.2 s.1⟩
theorem Ge:Ko Li:=
 aG (.c (.r [0] .o) .o) call230 func230 (aw xI (aw Hz ax))
def Yx:aA:=⟨221,[Og,jZ,aY],(.cU [Og,.bool,ao]),[],U3 Bo⟩
theorem Rv:Ko Yx:=
 aG (.c .o (.c .o (.r [] (.c .o (.r [6,40000] .o))))) call221 func221 (aw iW (aw IB (aw VY (aw tN (aw CO (aw Ge ax))))))
def Jd:aA:=⟨215,[rC,pI,aY],Wn,[],U3 kc⟩
theorem FQ:Ko Jd:=
 aG .o call215 func215 (aw Rv ax)
def Rw:aA:=⟨263,[od],.bool,[],λs=>u7 s⟩
theorem Ma:Ko Rw:=
 aG .o call263 func263 ax
def M8:aA:=⟨257,[od,od],ao,[],U2 nc⟩
theorem xo:Ko M8:=
 aG .o call257 func257 (aw Ma ax)
def adL:aA:=⟨256,[(.dat n7 []),od],ao,[],U2 Cl⟩
theorem W3:Ko adL:=
 aG .o call256 func256 (aw xo ax)
def mU:aA:=⟨255,[(.sli n7),od,(.fn 256 [] [])],Qy,[],U2 bE⟩
theorem fG:Ko mU:=
 aG (.l ⟨[(false,9,ao),(false,10,ao)],[]⟩ .o) call255 func255 (aw W3 ax)
def alZ:aA:=⟨251,[abt,ao,od],ao,[],U3 Cc⟩
theorem adM:Ko alZ:=
 aG .o call251 func251 (aw fG ax)
def aip:aA:=⟨248,[abt,eO],.bool,[],U2 rq⟩
theorem yd:Ko aip:=
 aG (.l ⟨[(false,5,ao),(false,12,ao)],[]⟩ .o) call248 func248 (aw adM ax)
def ahu:aA:=⟨249,[abt],ao,[],λs=>K9 s⟩
theorem YP:Ko ahu:=
 aG .o call249 func249 ax
def w6:aA:=⟨252,[(.sli uJ)],(.own uJ 273 true),[],λs=>dS s⟩
def wL(s:cF):Option cF:= A4 s ( some []) ( aN (aH (List.length ([]:List (Q4×Int))+List.length s) 32)<| some (([]:List (Q4×Int))++s))
theorem vd:Ko w6:=
 eA .o call252 func252 ax ax ax λs=>(show _=wL s from by kernel_rfl).trans oJ
def wK:aA:=⟨269,[(.sli n7),(.sli n7)],.bool,[],U2 fY⟩
theorem uV:Ko wK:=
 aG (.c .o (.l ⟨[(false,13,ao)],[]⟩ .o)) call269 func269 ax
def U0:aA:=⟨264,[(.bx 379 0 false [ao,(.own uJ 273 false),ao,ao,SM,(.mp bf .bo false)]),(.sli n7)],Qy,[],λs=>Cp s.2.2.2.2.2.2 s.1 s.2.1 s.2.2.1 s.2.2.2.1 s.2.2.2.2.1 s.2.2.2.2.2.1⟩
theorem Ow:Ko U0:=
 aG (.l ⟨[(false,14,ao)],[]⟩ .o) call264 func264 (aw uV ax)
def JT:aA:=⟨296,[SM],ao,[],λs=>kR s⟩
theorem vm:Ko JT:=
 aG .o call296 func296 ax
def Jn:aA:=⟨298,[kW,ao,ao],iu,[(true,0,kW)],U3 ik⟩
theorem nr:Ko Jn:=
 aG (.r [0] .o) call298 func298 ax
def Jq:aA:=⟨297,[SM,ao,ao],.bool,[],U3 im⟩
theorem tZ:Ko Jq:=
 aG .o call297 func297 ax
def JK:aA:=⟨272,[H3,ao,ao],.bool,[(true,0,H3)],λs=>sY s.2.1 s.2.2 s.1⟩
theorem EZ:Ko JK:=
 aG (.l ⟨[(true,0,H3),(false,7,ao)],[]⟩ (.c .o (.s (.j ⟨[(false,9,ao)],[]⟩ .o .o)))) call272 func272 (aw tZ (aw nr ax))
def Pz:aA:=⟨299,[af3],NN,[(true,0,af3)],λs=>yU s⟩
theorem KM:Ko Pz:=
 aG .o call299 func299 ax
def Lo:aA:=⟨270,[H3],NN,[(true,0,H3)],λs=>pa s⟩
theorem F0:Ko Lo:=
 aG .o call270 func270 (aw vm (aw nr (aw EZ (aw KM ax))))
def QZ:aA:=⟨265,[amH],ao,[(true,0,acj)],U6 va⟩
theorem Me:Ko QZ:=
 aG .o call265 func265 (aw F0 ax)
def SQ:aA:=⟨258,[al9,(.sli n7)],ao,[(true,0,anv)],λs=>sK s.2.2.2.2.2.2 s.1 s.2.1 s.2.2.1 s.2.2.2.1 s.2.2.2.2.1 s.2.2.2.2.2.1⟩
theorem Mt:Ko SQ:=
 aG (.c .o (.l ⟨[(true,0,(.bx 379 0 true [.same,(.own uJ 273 true),.same,.same,.same,.same])),(false,35,ao)],[]⟩ (.c (.r [0] .o) .o))) call258 func258 (aw Ow (aw Me ax))
def adq:aA:=⟨251,[(.dat AG [some 546,some 6]),ao,od],ao,[],U3 NL⟩
theorem VE:Ko adq:=
 aG .o call251 func251 (aw fG ax)
def Pk:aA:=⟨260,[(.dat n7 []),od],ao,[],U2 y8⟩
theorem KS:Ko Pk:=
 aG .o call260 func260 (aw xo ax)
def lV:aA:=⟨255,[(.own n7 384 false),od,(.fn 260 [] [])],Qy,[],U2 cr⟩
theorem kX:Ko lV:=
 aG (.l ⟨[(false,9,ao),(false,10,ao)],[]⟩ .o) call255 func255 (aw KS ax)
def wP:aA:=⟨259,[(.sli n7)],(.own n7 384 true),[],λs=>fP s⟩
def wM(s:Q4):Option Q4:= A4 s ( some []) ( aN (aH (List.length ([]:List js)+List.length s) 16)<| some (([]:List js)++s))
theorem uX:Ko wP:=
 eA .o call259 func259 ax ax ax λs=>(show _=wM s from by kernel_rfl).trans oJ
def I8:aA:=⟨253,[al9,ao,eO],ao,[(true,0,anv)],λs=>y7 s.2.2.2.2.2.2.1 s.2.2.2.2.2.2.2 s.1 s.2.1 s.2.2.1 s.2.2.2.1 s.2.2.2.2.1 s.2.2.2.2.2.1⟩
def IM:TK6->TK6:=λa s=>mL a s.1 s.2.1 s.2.2.1 s.2.2.2.1 s.2.2.2.2.1 s.2.2.2.2.2.1 s.2.2.2.2.2.2.1 s.2.2.2.2.2.2.2
theorem L3(a:TK6)(b:OK6 a):(tL (IM a)).Ok X0.P X0.Γ:=
 aG (.c .o (.s (.j ⟨[(false,7,(.own n7 384 true))],[]⟩ .o (.r [0,40000] (.s (.j ⟨[(false,7,(.own n7 384 true))],[8]⟩ .o .o)))))) call253 func253 (aw Mt (aw VE (aw b (aw kX (aw adp (aw uX ax))))))
theorem PG:Ko I8:=(show I8=tL (aj (IM) an) by kernel_rfl)▸ot (X:=X0) (E:=tL) ⟨call253,λ_ _ h=>nomatch h⟩ (L3) an
def MI:aA:=⟨300,[af3,NN],iu,[(true,0,af3)],λs=>wH s.2 s.1⟩
theorem JJ:Ko MI:=
 aG (.r [0] .o) call300 func300 ax
def Hq:aA:=⟨268,[H3,ao],iu,[(true,0,H3)],λs=>sf s.2 s.1⟩
theorem Dz:Ko Hq:=
 aG (.l ⟨[(true,0,H3),(false,1,ao)],[]⟩ .o) call268 func268 (aw tZ (aw nr ax))
def Jc:aA:=⟨262,[H3,NN],iu,[(true,0,H3)],λs=>nO s.2 s.1⟩
theorem FX:Ko Jc:=
 aG .o call262 func262 (aw JJ (aw vm (aw Dz ax)))
def FC:aA:=⟨254,[amH,ao],iu,[(true,0,acj)],λs=>ve s.2.2.2.2.2.2 s.1 s.2.1 s.2.2.1 s.2.2.2.1 s.2.2.2.2.1 s.2.2.2.2.2.1⟩
def EC:TK7->TK7:=λa s=>sC a s.1 s.2.1 s.2.2.1 s.2.2.2.1 s.2.2.2.2.1 s.2.2.2.2.2.1 s.2.2.2.2.2.2
theorem IL(a:TK7)(b:OK7 a):(pR (EC a)).Ok X0.P X0.Γ:=
 aG (.c .o (.l ⟨[(true,0,acj),(false,42,ao)],[]⟩ .o)) call254 func254 (aw b (aw FX ax))
theorem Mc:Ko FC:=(show FC=pR (aj (EC) an) by kernel_rfl)▸ot (X:=X0) (E:=pR) ⟨call254,λ_ _ h=>nomatch h⟩ (IL) an
def acQ:aA:=⟨250,[abt,eO],(.cU [abt,.bool,ao]),[],U2 fU⟩
theorem G4:Ko acQ:=
 aG (.c .o (.c .o (.r [7] (.r [7] (.j ⟨[(true,7,acj)],[]⟩ .o .o))))) call250 func250 (aw yd (aw vd (aw dW (aw PG (aw Mc ax)))))
def Lq:aA:=⟨242,[rC,pI,aY],Wn,[],U3 kY⟩
theorem F6:Ko Lq:=
 aG .o call242 func242 (aw fA (aw yd (aw YP (aw G4 ax))))
def ab6:aA:=⟨291,[eO,Dh,ao,ao],kW,[],U4 o8⟩
theorem oZ:Ko ab6:=
 aG (.l ⟨[(false,9,kW),(false,13,ao)],[]⟩ .o) call291 func291 (aw Cy (aw A6 ax))
def acV:aA:=⟨288,[x8,eO,(.nT (.int .i64 0)),Wv],iu,[(true,3,Wv)],U3 ND⟩
theorem Wt:Ko acV:=
 aG (.l ⟨[(true,3,Wv),(false,19,ao)],[]⟩ (.c (.r [3] .o) .o)) call288 func288 (aw oZ ax)
def afW:aA:=⟨285,[x8,eO,(.nT (.int .i64 0))],.bool,[],U2 Ri⟩
theorem Yo:Ko afW:=
 aG .o call285 func285 (aw Wt ax)
def YK:aA:=⟨286,[x8,eO],.bool,[],U2 wc⟩
theorem E4:Ko YK:=
 aG .o call286 func286 (aw Yo ax)
def Fp:aA:=⟨173,[eO],jA,[],λs=>cw s⟩
def Ek(s:Q1):Option Q1:= A4 s ( some []) ( aN (aH (List.length ([]:zk)+List.length s) 1)<| some (([]:zk)++s))
theorem eV:Ko Fp:=
 eA .o call173 func173 ax ax ax λs=>(show _=Ek s from by kernel_rfl).trans oJ
def V9:aA:=⟨288,[(.dat HB [some 11,none,none]),eO,(.nT (.int .i64 0)),(.fn 290 [] [])],iu,[(true,0,(.agg [.same,.same,.same,jA,.same,.same]))],U2 yD⟩
theorem CR:Ko V9:=
 aG (.l ⟨[(true,0,(.agg [.same,.same,.same,jA,.same,.same])),(false,19,ao)],[]⟩ (.c (.r [4,0] .o) .o)) call288 func288 (aw oZ ax)
def ahc:aA:=⟨287,[x8,eO,(.nT (.int .i64 0))],(.dat HB [some 11,none,none]),[],U2 Qv⟩
theorem YW:Ko ahc:=
 aG .o call287 func287 (aw eV (aw CR ax))
def Yi:aA:=⟨282,[x8,eO],(.cU [x8,.bool]),[],U2 BD⟩
theorem QR:Ko Yi:=
 aG .o call282 func282 (aw E4 (aw YW ax))
def Lh:aA:=⟨276,[rC,pI,aY],Wn,[],U3 kV⟩
theorem Gk:Ko Lh:=
 aG (.r [40000] .o) call276 func276 (aw fA (aw QR ax))
def Wq:aA:=⟨65,[pI,aY],Wn,[],U2 dC⟩
theorem Px:Ko Wq:=
 aG (.c .o (.r [2,4] .o)) call65 func65 (aw iW (aw CH (aw Gp (aw Ei (aw FQ (aw F6 (aw Gk ax)))))))
def L6:bZ:=⟨40,[Vo,aY],QU,none,false,false,.bool,[(true,0,Lp)],λs=>jM (d8 (d8 (d8 (d8 (d8 s))))).2.2.2.2.2 s.1 s.2.1 s.2.2.1 s.2.2.2.1 s.2.2.2.2.1 s.2.2.2.2.2.1 s.2.2.2.2.2.2.1 s.2.2.2.2.2.2.2.1 s.2.2.2.2.2.2.2.2.1 (d8 s).2.1 (d8 s).2.2.1 (d8 s).2.2.2.1 (d8 s).2.2.2.2.1 (d8 s).2.2.2.2.2.1 (d8 s).2.2.2.2.2.2.1 (d8 s).2.2.2.2.2.2.2.1 (d8 (d8 s)).1 (d8 (d8 s)).2.1 (d8 (d8 s)).2.2.1 (d8 (d8 s)).2.2.2.1 (d8 (d8 s)).2.2.2.2.1 (d8 (d8 s)).2.2.2.2.2.1 (d8 (d8 s)).2.2.2.2.2.2.1 (d8 (d8 s)).2.2.2.2.2.2.2.1 (d8 (d8 (d8 s))).1 (d8 (d8 (d8 s))).2.1 (d8 (d8 (d8 s))).2.2.1 (d8 (d8 (d8 s))).2.2.2.1 (d8 (d8 (d8 s))).2.2.2.2.1 (d8 (d8 (d8 s))).2.2.2.2.2.1 (d8 (d8 (d8 s))).2.2.2.2.2.2.1 (d8 (d8 (d8 s))).2.2.2.2.2.2.2.1 (d8 (d8 (d8 (d8 s)))).1 (d8 (d8 (d8 (d8 s)))).2.1 (d8 (d8 (d8 (d8 s)))).2.2.1 (d8 (d8 (d8 (d8 s)))).2.2.2.1 (d8 (d8 (d8 (d8 s)))).2.2.2.2.1 (d8 (d8 (d8 (d8 s)))).2.2.2.2.2.1 (d8 (d8 (d8 (d8 s)))).2.2.2.2.2.2.1 (d8 (d8 (d8 (d8 s)))).2.2.2.2.2.2.2.1 (d8 (d8 (d8 (d8 (d8 s))))).1 (d8 (d8 (d8 (d8 (d8 s))))).2.1 (d8 (d8 (d8 (d8 (d8 s))))).2.2.1 (d8 (d8 (d8 (d8 (d8 s))))).2.2.2.1 (d8 (d8 (d8 (d8 (d8 s))))).2.2.2.2.1⟩
theorem pD:LZ L6:=
 ago (.s (.s (.j ⟨[],[]⟩ .o .o))) call40 func40 (aw Px ax)
def Zq:aA:=⟨94,[aY],(.cU [aY,ao]),[],λs=>yT s⟩
theorem GS:Ko Zq:=
 aG .o call94 func94 ax
def Zz:aA:=⟨111,[pW,aY],(.fn 121 [] [(.bx 35 0 true [(.sli .s),jZ,aY,(.sli .s),(.sli CC)]),Y3]),[],U2 J5⟩
theorem SE:Ko Zz:=
 aG .o call111 func111 ax
def Wx:aA:=⟨122,[pW,aY],kW,[],U2 Ee⟩
def Pq(f:Ex->Ex)(h:Sh->(R:Type)->Option R->Option R)(m:ic)(d:Q1)(a:fI->Option Q1):Q1×Int->Option Q1:=λ⟨b,c⟩=> bif decide (c<(m.2.2.2.2.length:Int)) then (idx m.2.2.2.2 c).bind λg=> (rS (f g.2.1) d).bind λe=> bif e==1 then aN (aH (List.length b+List.length ([c]:zk)) 8)<| a ((b++([c]:zk)),(i64.wrap (c+1))) else a (b,(i64.wrap (c+1))) else some b
def A9(b:Ex->Ex)(c:Sh->(R:Type)->Option R->Option R)(m:ic)(a:Q1):Option Q1:= aj (Pq b c m a) an ([],0)
theorem Po:Ko Wx:=
 eA (.l ⟨[(false,5,kW),(false,11,ao)],[]⟩ .o) call122 func122 (aw Bh ax) ax ax λs=>(show _=A9 lR eI s.1 s.2 from by kernel_rfl).trans ((congrArg (λa=>A9 a eI s.1 s.2) ed).trans ((congrArg (λb=>A9 id b s.1 s.2) fT).trans (by kernel_rfl)))
def VW:aA:=⟨91,[jZ,SM],ao,[],U2 uF⟩
theorem Pr:Ko VW:=
 aG (.c .o (.l ⟨[(false,14,ao)],[]⟩ .o)) call91 func91 (aw yu ax)
def ac3:aA:=⟨123,[pW,aY,ao],(.cU [kW,ao]),[],U3 GW⟩
def WG(i:Ex->Ex)(k:Sh->(R:Type)->Option R->Option R)(m:ic)(f:Q1)(e:Q55)(a:fI->Option fI):Q1×Int->Option fI:=λ⟨b,c⟩=> bif decide (c<(e.2.2.length:Int)) then (idx e.2.2 c).bind λd=> (rS (i d.2) f).bind λh=> (idx b d.1).bind λj=> a ((List.set b (Int.toNat d.1) h),(i64.wrap (c+1))) else (uF m.2.1 b).bind λg=> bif g != 0 then some ([],6) else some (b,0)
def HX(c:Ex->Ex)(g:Sh->(R:Type)->Option R->Option R)(m:ic)(a:Q1)(k:Int):Option fI:= ai (decide (k<0)) λh=> ai (decide ((m.2.2.2.2.length:Int)<=k)) λf=> ai (h||f) λe=> bif e then ( some ([],10)) else ( (bA a).bind λb=> (idx m.2.2.2.2 k).bind λd=> aj (WG c g m a d) an (b,0))
theorem VI:Ko ac3:=
 eA (.c .o (.l ⟨[(true,8,kW),(false,29,ao)],[]⟩ (.c (.r [8] .o) .o))) call123 func123 (aw dW (aw Bh (aw Pr ax))) ax ax λs=>(show _=HX lR eI s.1 s.2.1 s.2.2 from by kernel_rfl).trans ((congrArg (λa=>HX a eI s.1 s.2.1 s.2.2) ed).trans ((congrArg (λb=>HX id b s.1 s.2.1 s.2.2) fT).trans (by kernel_rfl)))
def BL:aA:=⟨136,[(.bx 243 0 true [.sfp,(.own aW 5 false)])],iu,[(true,0,(.bx 243 0 true [.sfp,.same]))],U2 jg⟩
theorem oI:Ko BL:=
 aG .o call136 func136 ax
def Ah:aA:=⟨130,[V7,.str],(.cU [ao,(.nT (.raw .nilIface))]),[(true,0,V7)],λs=>ig s.2.2 s.1 s.2.1⟩
theorem xf:Ko Ah:=
 aG .o call130 func130 (aw oI ax)
def Cf:aA:=⟨132,[V7,od],(.nT (.raw .nilIface)),[(true,0,V7)],λs=>ji s.2.2 s.1 s.2.1⟩
theorem yw:Ko Cf:=
 aG .o call132 func132 (aw oI ax)
def Fu:aA:=⟨133,[V7],.str,[],U2 kN⟩
theorem BM:Ko Fu:=
 aG (.r [0] .o) call133 func133 ax
def ac5:aA:=⟨124,[aY],.str,[],λs=>Nl s⟩
theorem VO:Ko ac5:=
 aG (.l ⟨[(true,3,V7),(false,8,ao)],[]⟩ .o) call124 func124 (aw aiQ (aw xf (aw yw (aw BM ax))))
def SH:aA:=⟨112,[alh,aY],iu,[(true,0,alh)],λs=>ov s.2.2 s.1 s.2.1⟩
theorem MM:Ko SH:=
 aG (.j ⟨[(true,0,(.bx 218 0 true [.same,(.mp .s .bo true)]))],[]⟩ .o .o) call112 func112 (aw VO ax)
def acT:aA:=⟨105,[pW,aY],S9,[],U2 GJ⟩
theorem ajq:(⟨121,Tryz.f121⟩:pL).Ok X0.P:=⟨call121,func121⟩
theorem Wu:Ko acT:=
 eA (.c (.c (.l ⟨[(false,10,ao),(true,10004,(.bx 23 0 true [.same])),(true,10005,(.bx 42 0 true [ao])),(true,10006,alh)],[]⟩ .o) .o) (.r [70000,4,5,6] .o)) call105 func105 (aw SE (aw Po (aw VI (aw MM (aw dW ax))))) ax (aw ajq ax) λ_=>by kernel_rfl
def adl:aA:=⟨93,[pW,nh,aY],S9,[],U3 xJ⟩
theorem VF:Ko adl:=
 eA (.c .o (.l ⟨[(true,12,abN),(false,32,ao)],[]⟩ (.c (.r [] (.c (.c (.l ⟨[(false,9,ao),(true,10012,abN)],[]⟩ (.c (.n 4 (.c .o .o)) .o)) .o) (.r [70000,12] .o))) .o))) call93 func93 (aw GS (aw Wu (aw IS (aw LD (aw dW (aw CS ax)))))) ax (aw acs ax) λ_=>by kernel_rfl
def IX:bZ:=⟨66,[(.bx 100 0 false QL4),(.own Ct 171 true),aY],QU,none,false,false,(.own Ct 171 true),[],λs=>fN (d8 (d8 (d8 (d8 (d8 s))))).2.2.2.2.2.1 (d8 (d8 (d8 (d8 (d8 s))))).2.2.2.2.2.2 s.1 s.2.1 s.2.2.1 s.2.2.2.1 s.2.2.2.2.1 s.2.2.2.2.2.1 s.2.2.2.2.2.2.1 s.2.2.2.2.2.2.2.1 s.2.2.2.2.2.2.2.2.1 (d8 s).2.1 (d8 s).2.2.1 (d8 s).2.2.2.1 (d8 s).2.2.2.2.1 (d8 s).2.2.2.2.2.1 (d8 s).2.2.2.2.2.2.1 (d8 s).2.2.2.2.2.2.2.1 (d8 (d8 s)).1 (d8 (d8 s)).2.1 (d8 (d8 s)).2.2.1 (d8 (d8 s)).2.2.2.1 (d8 (d8 s)).2.2.2.2.1 (d8 (d8 s)).2.2.2.2.2.1 (d8 (d8 s)).2.2.2.2.2.2.1 (d8 (d8 s)).2.2.2.2.2.2.2.1 (d8 (d8 (d8 s))).1 (d8 (d8 (d8 s))).2.1 (d8 (d8 (d8 s))).2.2.1 (d8 (d8 (d8 s))).2.2.2.1 (d8 (d8 (d8 s))).2.2.2.2.1 (d8 (d8 (d8 s))).2.2.2.2.2.1 (d8 (d8 (d8 s))).2.2.2.2.2.2.1 (d8 (d8 (d8 s))).2.2.2.2.2.2.2.1 (d8 (d8 (d8 (d8 s)))).1 (d8 (d8 (d8 (d8 s)))).2.1 (d8 (d8 (d8 (d8 s)))).2.2.1 (d8 (d8 (d8 (d8 s)))).2.2.2.1 (d8 (d8 (d8 (d8 s)))).2.2.2.2.1 (d8 (d8 (d8 (d8 s)))).2.2.2.2.2.1 (d8 (d8 (d8 (d8 s)))).2.2.2.2.2.2.1 (d8 (d8 (d8 (d8 s)))).2.2.2.2.2.2.2.1 (d8 (d8 (d8 (d8 (d8 s))))).1 (d8 (d8 (d8 (d8 (d8 s))))).2.1 (d8 (d8 (d8 (d8 (d8 s))))).2.2.1 (d8 (d8 (d8 (d8 (d8 s))))).2.2.2.1 (d8 (d8 (d8 (d8 (d8 s))))).2.2.2.2.1⟩
theorem tT:LZ IX:=
 ago (.s (.j ⟨[],[]⟩ .o (.r [] (.j ⟨[],[]⟩ .o .o)))) call66 func66 (aw VF ax)
def HD:aA:=⟨106,[aY,ao],ao,[],U2 sw⟩
theorem Dx:Ko HD:=
 aG (.l ⟨[(false,8,ao)],[]⟩ .o) call106 func106 ax
def Dk:aA:=⟨95,[aY,ao],.bool,[],U2 n5⟩
theorem A8:Ko Dk:=
 aG .o call95 func95 (aw Dx ax)
def ZH:aA:=⟨67,[nh,aY],.bool,[],U2 yn⟩
theorem UY:Ko ZH:=
 aG .o call67 func67 (aw GS (aw A8 ax))
def Dp:aA:=⟨72,[Vu],iu,[],λs=>vl s⟩
theorem AS:Ko Dp:=
 aG .o call72 func72 ax
def HQ:aA:=⟨69,[aY,aY],.bool,[],U2 mB⟩
theorem DE:Ko HQ:=
 aG (.c .o (.l ⟨[(false,13,ao)],[]⟩ .o)) call69 func69 ax
def Yk:aA:=⟨70,[(.sli Ct)],uG,[],λs=>Bp s⟩
theorem Rr:Ko Yk:=
 aG (.l ⟨[(false,3,uG),(false,8,ao)],[]⟩ .o) call70 func70 ax
def Dw:bZ:=⟨68,[Vu,aY,aaV,(.bx 123 0 false [Vu])],aaU,none,false,true,iu,[],U4 j7⟩
theorem Bm:LZ Dw:=
 ago (.c (.r [80000] .o) .o) call68 func68 (aw DE (aw Rr ax))
def afD:aA:=⟨174,[ao],od,[],λs=>EW s⟩
theorem LX:Ko afD:=
 aG .o call174 func174 ax
def Yh:aA:=⟨168,[ao,od,ahz,Zh],iu,[(true,3,Zh)],U7 Il⟩
theorem QT:Ko Yh:=
 aG .o call168 func168 ax
def ah2:aA:=⟨167,[QX,eO,ao,(.fn 168 [] [ahz,Zh])],ao,[(true,3,(.fn 168 [] [.same,Zh]))],U8 Wj⟩
theorem ZM:Ko ah2:=
 aG .o call167 func167 (aw LX (aw o7 (aw QT ax)))
def agA:aA:=⟨162,[QX,eO,ao],Hw,[],U3 KH⟩
theorem YV:Ko agA:=
 aG .o call162 func162 (aw ZM ax)
def PB:aA:=⟨156,[rC,pI,aY,ao],Hw,[],U4 oC⟩
theorem KZ:Ko PB:=
 aG (.r [5] .o) call156 func156 (aw fA (aw YV ax))
def ai5:aA:=⟨205,[Ng,jZ,aY,ao],(.cU [ao,ao]),[],U4 DW⟩
theorem Mz:Ko ai5:=
 aG .o call205 func205 (aw iW (aw Ix ax))
def afQ:aA:=⟨202,[Ng,jZ,aY,ao],Hw,[],U4 Lr⟩
theorem Yw:Ko afQ:=
 aG .o call202 func202 (aw Mz ax)
def Om:aA:=⟨196,[rC,pI,aY,ao],Hw,[],U4 nE⟩
theorem Iw:Ko Om:=
 aG .o call196 func196 (aw Yw ax)
def akt:aA:=⟨225,[Og,jZ,aY,ao],(.cU [ao,ao]),[],U4 DZ⟩
theorem Ms:Ko akt:=
 aG .o call225 func225 (aw iW (aw IB ax))
def af1:aA:=⟨220,[Og,jZ,aY,ao],Hw,[],U4 J2⟩
theorem Yg:Ko af1:=
 aG .o call220 func220 (aw Ms ax)
def NC:aA:=⟨214,[rC,pI,aY,ao],Hw,[],U4 mW⟩
theorem Jw:Ko NC:=
 aG .o call214 func214 (aw Yg ax)
def U1:aA:=⟨247,[pI,aY,ao],ao,[],U3 sJ⟩
theorem BZ:Ko U1:=
 aG (.c .o (.r [3] .o)) call247 func247 (aw fA (aw yd ax))
def PA:aA:=⟨241,[rC,pI,aY,ao],Hw,[],U4 oA⟩
theorem Ke:Ko PA:=
 aG (.c .o (.r [5] .o)) call241 func241 (aw BZ (aw fA (aw yd ax)))
def agN:aA:=⟨284,[x8,eO,ao],ao,[],U3 Fm⟩
theorem LO:Ko agN:=
 aG .o call284 func284 (aw E4 ax)
def VL:aA:=⟨288,[x8,eO,ao,Wv],iu,[(true,3,Wv)],U4 Fw⟩
theorem Pj:Ko VL:=
 aG (.l ⟨[(true,3,Wv),(false,19,ao)],[]⟩ (.c (.r [3] .o) .o)) call288 func288 (aw oZ ax)
def YO:aA:=⟨285,[x8,eO,ao],.bool,[],U3 BG⟩
theorem QA:Ko YO:=
 aG .o call285 func285 (aw Pj ax)
def agM:aA:=⟨281,[x8,eO,ao],Hw,[],U3 JW⟩
theorem YU:Ko agM:=
 aG .o call281 func281 (aw LO (aw QA ax))
def PF:aA:=⟨275,[rC,pI,aY,ao],Hw,[],U4 oL⟩
theorem Kt:Ko PF:=
 aG (.r [5] .o) call275 func275 (aw fA (aw YU ax))
def adm:aA:=⟨96,[pI,aY,ao],Hw,[],U3 dw⟩
theorem Wy:Ko adm:=
 aG (.c .o (.r [3] .o)) call96 func96 (aw iW (aw CH (aw KZ (aw Iw (aw Jw (aw Ke (aw Kt ax)))))))
def Yq:aA:=⟨172,[ao,od,ahz,amB],iu,[(true,3,(.bx 76 0 true [.same,.same,.same,eO]))],λs=>Iu s.1 s.2.1 s.2.2.1 s.2.2.2.1 s.2.2.2.2.1 s.2.2.2.2.2.1 s.2.2.2.2.2.2.1 s.2.2.2.2.2.2.2.1 s.2.2.2.2.2.2.2.2.1 (d8 s).2⟩
theorem QG:Ko Yq:=
 aG .o call172 func172 (aw eV ax)
def aby:aA:=⟨167,[QX,eO,ao,(.fn 172 [] [ahz,amB])],ao,[(true,3,(.fn 172 [] [.same,amB]))],λs=>J4 s.1 s.2.1 s.2.2.1 s.2.2.2.1 s.2.2.2.2.1 s.2.2.2.2.2.1 s.2.2.2.2.2.2.1 s.2.2.2.2.2.2.2.1 s.2.2.2.2.2.2.2.2.1 (d8 s).2.1 (d8 s).2.2⟩
theorem Va:Ko aby:=
 aG .o call167 func167 (aw LX (aw o7 (aw QG ax)))
def agy:aA:=⟨165,[QX,eO,ao],(.cU [QX,ao]),[],U3 JO⟩
theorem Yn:Ko agy:=
 aG .o call165 func165 (aw Va ax)
def PD:aA:=⟨160,[rC,pI,aY,ao],J0,[],U4 oP⟩
theorem KO:Ko PD:=
 aG (.r [40000] .o) call160 func160 (aw fA (aw Yn ax))
def agx:aA:=⟨204,[Ng,jZ,aY,ao],(.cU [Ng,ao]),[],U4 Lk⟩
theorem Yu:Ko agx:=
 aG (.c .o (.r [4] .o)) call204 func204 (aw Mz (aw eV ax))
def Nq:aA:=⟨200,[rC,pI,aY,ao],J0,[],U4 mS⟩
theorem II:Ko Nq:=
 aG .o call200 func200 (aw Yu ax)
def afE:aA:=⟨222,[Og,jZ,aY,ao],(.cU [Og,ao]),[],U4 KT⟩
theorem YH:Ko afE:=
 aG (.c .o (.r [4] .o)) call222 func222 (aw Ms (aw eV ax))
def Na:aA:=⟨218,[rC,pI,aY,ao],J0,[],U4 nt⟩
theorem IA:Ko Na:=
 aG .o call218 func218 (aw YH ax)
def Pw:aA:=⟨245,[rC,pI,aY,ao],J0,[],U4 oF⟩
theorem Kr:Ko Pw:=
 aG (.c .o (.r [5] .o)) call245 func245 (aw BZ (aw fA (aw G4 ax)))
def Wb:aA:=⟨288,[(.dat HB [none,some 11,none]),eO,(.nT (.int .i64 1)),(.fn 290 [] [])],iu,[(true,0,(.agg [.same,.same,.same,.same,jA,.same]))],U2 FA⟩
theorem PH:Ko Wb:=
 aG (.l ⟨[(true,0,(.agg [.same,.same,.same,.same,jA,.same])),(false,19,ao)],[]⟩ (.c (.r [4,0] .o) .o)) call288 func288 (aw oZ ax)
def VB:aA:=⟨288,[(.dat HB [none,none,some 11]),eO,(.nT (.int .i64 2)),(.fn 290 [] [])],iu,[(true,0,(.agg [.same,.same,.same,.same,.same,jA]))],U2 FJ⟩
theorem PJ:Ko VB:=
 aG (.l ⟨[(true,0,(.agg [.same,.same,.same,.same,.same,jA])),(false,19,ao)],[]⟩ (.c (.r [4,0] .o) .o)) call288 func288 (aw oZ ax)
def Ye:aA:=⟨287,[x8,eO,ao],x8,[],U3 Bn⟩
theorem RC:Ko Ye:=
 aG (.r [60000,2,0,0,1,2] (.c .o (.c .o (.c .o (.n 77777 .o))))) call287 func287 (aw eV (aw CR (aw PH (aw PJ ax))))
def ahp:aA:=⟨283,[x8,eO,ao],(.cU [x8,ao]),[],U3 JS⟩
theorem Yj:Ko ahp:=
 aG .o call283 func283 (aw LO (aw RC ax))
def PE:aA:=⟨279,[rC,pI,aY,ao],J0,[],U4 oO⟩
theorem Lj:Ko PE:=
 aG (.r [40000] .o) call279 func279 (aw fA (aw Yj ax))
def acW:aA:=⟨97,[pI,aY,ao],J0,[],U3 gq⟩
theorem VS:Ko acW:=
 aG (.c .o (.r [3,6] .o)) call97 func97 (aw iW (aw CH (aw KO (aw II (aw IA (aw Kr (aw Lj ax)))))))
def L8:bZ:=⟨71,[Vo,aY],QU,none,false,false,.bool,[(true,0,Lp)],λs=>pS (d8 (d8 (d8 (d8 (d8 s))))).2.2.2.2.2 s.1 s.2.1 s.2.2.1 s.2.2.2.1 s.2.2.2.2.1 s.2.2.2.2.2.1 s.2.2.2.2.2.2.1 s.2.2.2.2.2.2.2.1 s.2.2.2.2.2.2.2.2.1 (d8 s).2.1 (d8 s).2.2.1 (d8 s).2.2.2.1 (d8 s).2.2.2.2.1 (d8 s).2.2.2.2.2.1 (d8 s).2.2.2.2.2.2.1 (d8 s).2.2.2.2.2.2.2.1 (d8 (d8 s)).1 (d8 (d8 s)).2.1 (d8 (d8 s)).2.2.1 (d8 (d8 s)).2.2.2.1 (d8 (d8 s)).2.2.2.2.1 (d8 (d8 s)).2.2.2.2.2.1 (d8 (d8 s)).2.2.2.2.2.2.1 (d8 (d8 s)).2.2.2.2.2.2.2.1 (d8 (d8 (d8 s))).1 (d8 (d8 (d8 s))).2.1 (d8 (d8 (d8 s))).2.2.1 (d8 (d8 (d8 s))).2.2.2.1 (d8 (d8 (d8 s))).2.2.2.2.1 (d8 (d8 (d8 s))).2.2.2.2.2.1 (d8 (d8 (d8 s))).2.2.2.2.2.2.1 (d8 (d8 (d8 s))).2.2.2.2.2.2.2.1 (d8 (d8 (d8 (d8 s)))).1 (d8 (d8 (d8 (d8 s)))).2.1 (d8 (d8 (d8 (d8 s)))).2.2.1 (d8 (d8 (d8 (d8 s)))).2.2.2.1 (d8 (d8 (d8 (d8 s)))).2.2.2.2.1 (d8 (d8 (d8 (d8 s)))).2.2.2.2.2.1 (d8 (d8 (d8 (d8 s)))).2.2.2.2.2.2.1 (d8 (d8 (d8 (d8 s)))).2.2.2.2.2.2.2.1 (d8 (d8 (d8 (d8 (d8 s))))).1 (d8 (d8 (d8 (d8 (d8 s))))).2.1 (d8 (d8 (d8 (d8 (d8 s))))).2.2.1 (d8 (d8 (d8 (d8 (d8 s))))).2.2.2.1 (d8 (d8 (d8 (d8 (d8 s))))).2.2.2.2.1⟩
theorem Ia:LZ L8:=
 NS .o call71 func71 (aw Wy (aw VS ax)) (aw pD ax) ax λ_=>by kernel_rfl
def Jx:bZ:=⟨41,[Vo,aY,(.fn 71 [(.ptr 0 0)] []),(.fn 68 [] [aaV,(.bx 123 0 false [Vu])]),(.fn 72 [] [])],QU,some aaU,false,true,iu,[(true,0,Lp)],λs=>nR (d8 (d8 (d8 (d8 (d8 s))))).2.2.2.2.2.1 s.1 s.2.1 s.2.2.1 s.2.2.2.1 s.2.2.2.2.1 s.2.2.2.2.2.1 s.2.2.2.2.2.2.1 s.2.2.2.2.2.2.2.1 s.2.2.2.2.2.2.2.2.1 (d8 s).2.1 (d8 s).2.2.1 (d8 s).2.2.2.1 (d8 s).2.2.2.2.1 (d8 s).2.2.2.2.2.1 (d8 s).2.2.2.2.2.2.1 (d8 s).2.2.2.2.2.2.2.1 (d8 (d8 s)).1 (d8 (d8 s)).2.1 (d8 (d8 s)).2.2.1 (d8 (d8 s)).2.2.2.1 (d8 (d8 s)).2.2.2.2.1 (d8 (d8 s)).2.2.2.2.2.1 (d8 (d8 s)).2.2.2.2.2.2.1 (d8 (d8 s)).2.2.2.2.2.2.2.1 (d8 (d8 (d8 s))).1 (d8 (d8 (d8 s))).2.1 (d8 (d8 (d8 s))).2.2.1 (d8 (d8 (d8 s))).2.2.2.1 (d8 (d8 (d8 s))).2.2.2.2.1 (d8 (d8 (d8 s))).2.2.2.2.2.1 (d8 (d8 (d8 s))).2.2.2.2.2.2.1 (d8 (d8 (d8 s))).2.2.2.2.2.2.2.1 (d8 (d8 (d8 (d8 s)))).1 (d8 (d8 (d8 (d8 s)))).2.1 (d8 (d8 (d8 (d8 s)))).2.2.1 (d8 (d8 (d8 (d8 s)))).2.2.2.1 (d8 (d8 (d8 (d8 s)))).2.2.2.2.1 (d8 (d8 (d8 (d8 s)))).2.2.2.2.2.1 (d8 (d8 (d8 (d8 s)))).2.2.2.2.2.2.1 (d8 (d8 (d8 (d8 s)))).2.2.2.2.2.2.2.1 (d8 (d8 (d8 (d8 (d8 s))))).1 (d8 (d8 (d8 (d8 (d8 s))))).2.1 (d8 (d8 (d8 (d8 (d8 s))))).2.2.1 (d8 (d8 (d8 (d8 (d8 s))))).2.2.2.1 (d8 (d8 (d8 (d8 (d8 s))))).2.2.2.2.1 (d8 (d8 (d8 (d8 (d8 s))))).2.2.2.2.2.2.1 (d8 (d8 (d8 (d8 (d8 s))))).2.2.2.2.2.2.2⟩
theorem E5:LZ Jx:=
 NS (.l ⟨[(true,0,Lp),(false,11,(.own Ct 171 true))],[]⟩ .o) call41 func41 (aw AS ax) (aw tT (aw Bm (aw Ia ax))) ax λ_=>by kernel_rfl
def H9:bZ:=⟨43,[Vo,Vu],QU,some aaU,false,true,iu,[(true,0,Lp)],λs=>lX (d8 (d8 (d8 (d8 (d8 s))))).2.2.2.2.2 s.1 s.2.1 s.2.2.1 s.2.2.2.1 s.2.2.2.2.1 s.2.2.2.2.2.1 s.2.2.2.2.2.2.1 s.2.2.2.2.2.2.2.1 s.2.2.2.2.2.2.2.2.1 (d8 s).2.1 (d8 s).2.2.1 (d8 s).2.2.2.1 (d8 s).2.2.2.2.1 (d8 s).2.2.2.2.2.1 (d8 s).2.2.2.2.2.2.1 (d8 s).2.2.2.2.2.2.2.1 (d8 (d8 s)).1 (d8 (d8 s)).2.1 (d8 (d8 s)).2.2.1 (d8 (d8 s)).2.2.2.1 (d8 (d8 s)).2.2.2.2.1 (d8 (d8 s)).2.2.2.2.2.1 (d8 (d8 s)).2.2.2.2.2.2.1 (d8 (d8 s)).2.2.2.2.2.2.2.1 (d8 (d8 (d8 s))).1 (d8 (d8 (d8 s))).2.1 (d8 (d8 (d8 s))).2.2.1 (d8 (d8 (d8 s))).2.2.2.1 (d8 (d8 (d8 s))).2.2.2.2.1 (d8 (d8 (d8 s))).2.2.2.2.2.1 (d8 (d8 (d8 s))).2.2.2.2.2.2.1 (d8 (d8 (d8 s))).2.2.2.2.2.2.2.1 (d8 (d8 (d8 (d8 s)))).1 (d8 (d8 (d8 (d8 s)))).2.1 (d8 (d8 (d8 (d8 s)))).2.2.1 (d8 (d8 (d8 (d8 s)))).2.2.2.1 (d8 (d8 (d8 (d8 s)))).2.2.2.2.1 (d8 (d8 (d8 (d8 s)))).2.2.2.2.2.1 (d8 (d8 (d8 (d8 s)))).2.2.2.2.2.2.1 (d8 (d8 (d8 (d8 s)))).2.2.2.2.2.2.2.1 (d8 (d8 (d8 (d8 (d8 s))))).1 (d8 (d8 (d8 (d8 (d8 s))))).2.1 (d8 (d8 (d8 (d8 (d8 s))))).2.2.1 (d8 (d8 (d8 (d8 (d8 s))))).2.2.2.1 (d8 (d8 (d8 (d8 (d8 s))))).2.2.2.2.1⟩
theorem CW:LZ H9:=
 NS .o call43 func43 (aw UY ax) (aw E5 ax) ax λ_=>by kernel_rfl
def Du:aA:=⟨42,[Vu,aY],iu,[],U2 vw⟩
theorem AT:Ko Du:=
 aG .o call42 func42 ax
def MP:bZ:=⟨41,[Vo,aY,(.fn 40 [(.ptr 0 0)] []),(.fn 42 [] []),(.fn 43 [(.ptr 0 0)] [])],QU,some aaU,false,false,iu,[(true,0,Lp)],λs=>wI (d8 (d8 (d8 (d8 (d8 s))))).2.2.2.2.2 s.1 s.2.1 s.2.2.1 s.2.2.2.1 s.2.2.2.2.1 s.2.2.2.2.2.1 s.2.2.2.2.2.2.1 s.2.2.2.2.2.2.2.1 s.2.2.2.2.2.2.2.2.1 (d8 s).2.1 (d8 s).2.2.1 (d8 s).2.2.2.1 (d8 s).2.2.2.2.1 (d8 s).2.2.2.2.2.1 (d8 s).2.2.2.2.2.2.1 (d8 s).2.2.2.2.2.2.2.1 (d8 (d8 s)).1 (d8 (d8 s)).2.1 (d8 (d8 s)).2.2.1 (d8 (d8 s)).2.2.2.1 (d8 (d8 s)).2.2.2.2.1 (d8 (d8 s)).2.2.2.2.2.1 (d8 (d8 s)).2.2.2.2.2.2.1 (d8 (d8 s)).2.2.2.2.2.2.2.1 (d8 (d8 (d8 s))).1 (d8 (d8 (d8 s))).2.1 (d8 (d8 (d8 s))).2.2.1 (d8 (d8 (d8 s))).2.2.2.1 (d8 (d8 (d8 s))).2.2.2.2.1 (d8 (d8 (d8 s))).2.2.2.2.2.1 (d8 (d8 (d8 s))).2.2.2.2.2.2.1 (d8 (d8 (d8 s))).2.2.2.2.2.2.2.1 (d8 (d8 (d8 (d8 s)))).1 (d8 (d8 (d8 (d8 s)))).2.1 (d8 (d8 (d8 (d8 s)))).2.2.1 (d8 (d8 (d8 (d8 s)))).2.2.2.1 (d8 (d8 (d8 (d8 s)))).2.2.2.2.1 (d8 (d8 (d8 (d8 s)))).2.2.2.2.2.1 (d8 (d8 (d8 (d8 s)))).2.2.2.2.2.2.1 (d8 (d8 (d8 (d8 s)))).2.2.2.2.2.2.2.1 (d8 (d8 (d8 (d8 (d8 s))))).1 (d8 (d8 (d8 (d8 (d8 s))))).2.1 (d8 (d8 (d8 (d8 (d8 s))))).2.2.1 (d8 (d8 (d8 (d8 (d8 s))))).2.2.2.1 (d8 (d8 (d8 (d8 (d8 s))))).2.2.2.2.1⟩
theorem JE:LZ MP:=
 NS (.l ⟨[(true,0,Lp),(false,11,(.own Ct 171 true))],[]⟩ .o) call41 func41 (aw AT ax) (aw tT (aw CW (aw pD ax))) ax λ_=>by kernel_rfl
def L9:bZ:=⟨25,[Vo],QU,some aaU,false,false,iu,[(true,0,Lp)],λs=>pN s.1 s.2.1 s.2.2.1 s.2.2.2.1 s.2.2.2.2.1 s.2.2.2.2.2.1 s.2.2.2.2.2.2.1 s.2.2.2.2.2.2.2.1 s.2.2.2.2.2.2.2.2.1 (d8 s).2.1 (d8 s).2.2.1 (d8 s).2.2.2.1 (d8 s).2.2.2.2.1 (d8 s).2.2.2.2.2.1 (d8 s).2.2.2.2.2.2.1 (d8 s).2.2.2.2.2.2.2.1 (d8 (d8 s)).1 (d8 (d8 s)).2.1 (d8 (d8 s)).2.2.1 (d8 (d8 s)).2.2.2.1 (d8 (d8 s)).2.2.2.2.1 (d8 (d8 s)).2.2.2.2.2.1 (d8 (d8 s)).2.2.2.2.2.2.1 (d8 (d8 s)).2.2.2.2.2.2.2.1 (d8 (d8 (d8 s))).1 (d8 (d8 (d8 s))).2.1 (d8 (d8 (d8 s))).2.2.1 (d8 (d8 (d8 s))).2.2.2.1 (d8 (d8 (d8 s))).2.2.2.2.1 (d8 (d8 (d8 s))).2.2.2.2.2.1 (d8 (d8 (d8 s))).2.2.2.2.2.2.1 (d8 (d8 (d8 s))).2.2.2.2.2.2.2.1 (d8 (d8 (d8 (d8 s)))).1 (d8 (d8 (d8 (d8 s)))).2.1 (d8 (d8 (d8 (d8 s)))).2.2.1 (d8 (d8 (d8 (d8 s)))).2.2.2.1 (d8 (d8 (d8 (d8 s)))).2.2.2.2.1 (d8 (d8 (d8 (d8 s)))).2.2.2.2.2.1 (d8 (d8 (d8 (d8 s)))).2.2.2.2.2.2.1 (d8 (d8 (d8 (d8 s)))).2.2.2.2.2.2.2.1 (d8 (d8 (d8 (d8 (d8 s))))).1 (d8 (d8 (d8 (d8 (d8 s))))).2.1 (d8 (d8 (d8 (d8 (d8 s))))).2.2.1 (d8 (d8 (d8 (d8 (d8 s))))).2.2.2.1 (d8 (d8 (d8 (d8 (d8 s))))).2.2.2.2⟩
theorem HE:LZ L9:=
 NS (.r [] (.l ⟨[(true,0,Lp),(false,14,ao)],[]⟩ .o)) call25 func25 (aw Wd ax) (aw pD (aw JE ax)) ax λ_=>by kernel_rfl
def ac0:aA:=⟨10,[pW,nh,QY],(.cU [.bool,(.dat Hv [none,none]),ao,aY]),[],U3 ld⟩
theorem anm:(⟨24,Tryz.f24⟩:pL).Ok X0.P:=⟨call24,func24⟩
theorem JG:Ko ac0:=
 eA (.c (.r [6,7,8,9] .o) .o) call10 func10 (aw Sl (aw WK ax)) (aw HE ax) (aw anm ax) λ_=>by kernel_rfl
def MX:aA:=⟨81,[jZ,aY],ao,[],U2 D9⟩
theorem Jb:Ko MX:=
 aG (.c .o (.l ⟨[(false,5,ao)],[]⟩ .o)) call81 func81 ax
def NH:aA:=⟨54,[pW,aY],.bool,[],U2 Fk⟩
theorem Ju:Ko NH:=
 aG .o call54 func54 (aw Jb ax)
def Nc:aA:=⟨28,[pW,nh,aY],.bool,[],U3 Fh⟩
theorem Je:Ko Nc:=
 aG .o call28 func28 (aw Ju ax)
def Jk:aA:=⟨99,[.bool],ao,[],λs=>bd s⟩
theorem ES:Ko Jk:=
 aG .o call99 func99 ax
def yW:aA:=⟨80,[wW,aY],ao,[],U2 eU⟩
def Gb(d:Ex->Ex)(j:Sh->(R:Type)->Option R->Option R)(h:(Ex×Q1)->zc)(e:Ex)(g:Q1)(i:Int):zc:= ai (λ(b:Int)=>lK e g i b) λa=> bif decide (1<(List.length e.l:Int)) then (idx e.l 1).bind λf=> (h ((d f),g)).bind λc=> a c else a 0
def pE(d:Ex->Ex)(i:Sh->(R:Type)->Option R->Option R)(h:(Ex×Q1)->zc)(e:Ex)(g:Q1):zc:= ai (λ(b:Int)=>Gb d i h e g b) λa=> bif decide (0<(List.length e.l:Int)) then (idx e.l 0).bind λf=> (h ((d f),g)).bind λc=> a c else a 0
def yV:TK8->TK8:=λa s=>lY a s.1 s.2
theorem Db(a:TK8)(c:OK8 a):(lu (yV a)).Ok X0.P X0.Γ:=
 eA (.s (.s (.s (.j ⟨[(false,5,ao)],[]⟩ .o (.j ⟨[(false,6,ao)],[]⟩ .o .o))))) call80 func80 (aw ES (aw c ax)) ax ax λs=>(show _=pE lR eI a s.1 s.2 from by kernel_rfl).trans ((congrArg (λb=>pE b eI a s.1 s.2) ed).trans ((congrArg (λd=>pE id d a s.1 s.2) fT).trans (by kernel_rfl)))
theorem n8:Ko yW:=(show yW=lu (aj (yV) an) by kernel_rfl)▸ot (X:=X0) (E:=lu) ⟨call80,λ_ _ h=>nomatch h⟩ (Db) an
def J6:aA:=⟨82,[nh,ao,aY],.bool,[],U3 tU⟩
def Gl(e:Ex->Ex)(j:Sh->(R:Type)->Option R->Option R)(a:Q9)(q:Int)(h:Q1)(b:Int->y2)(d:Int):y2:= (idx a.1 q).bind λi=> bif decide (d<(i.length:Int)) then (idx a.1 q).bind λg=> (idx g d).bind λf=> (eU (e f) h).bind λc=> bif c != 1 then some false else b (i64.wrap (d+1)) else some true
def ss(b:Ex->Ex)(d:Sh->(R:Type)->Option R->Option R)(a:Q9)(q:Int)(c:Q1):y2:= aj (Gl b d a q c) an 0
theorem F4:Ko J6:=
 eA (.l ⟨[(false,7,ao)],[]⟩ .o) call82 func82 (aw n8 ax) ax ax λs=>(show _=ss lR eI s.1 s.2.1 s.2.2 from by kernel_rfl).trans ((congrArg (λa=>ss a eI s.1 s.2.1 s.2.2) ed).trans ((congrArg (λb=>ss id b s.1 s.2.1 s.2.2) fT).trans (by kernel_rfl)))
def Mf:aA:=⟨32,[aY,aY],.bool,[],U2 gY⟩
theorem vS:Ko Mf:=
 aG (.c .o (.l ⟨[(false,5,ao)],[]⟩ .o)) call32 func32 ax
def FL:aA:=⟨16,[(.own wQ 24 false),aY],ao,[],U2 fB⟩
theorem ie:Ko FL:=
 aG (.l ⟨[(false,5,ao)],[]⟩ .o) call16 func16 (aw vS ax)
def HM:aA:=⟨55,[uG,nh,aY,aY],uG,[],U4 mh⟩
theorem tD:Ko HM:=
 aG (.l ⟨[(false,0,uG),(false,9,ao)],[]⟩ (.c (.r [40000] .o) .o)) call55 func55 (aw F4 (aw ie ax))
def Kv:aA:=⟨29,[pW,nh],uG,[],U2 kU⟩
theorem vp:Ko Kv:=
 aG .o call29 func29 (aw tD ax)
def JF:aA:=⟨16,[(.sli wQ),aY],ao,[],U2 s9⟩
theorem ui:Ko JF:=
 aG (.l ⟨[(false,5,ao)],[]⟩ .o) call16 func16 (aw vS ax)
def Gi:aA:=⟨52,[pW,aY],kW,[],U2 p9⟩
def Cu(f:Ex->Ex)(h:Sh->(R:Type)->Option R->Option R)(m:ic)(d:Q1)(a:fI->Option Q1):Q1×Int->Option Q1:=λ⟨b,c⟩=> bif decide (c<(m.2.2.2.2.length:Int)) then (idx m.2.2.2.2 c).bind λg=> (eU (f g.2.1) d).bind λe=> bif e==1 then aN (aH (List.length b+List.length ([c]:zk)) 8)<| a ((b++([c]:zk)),(i64.wrap (c+1))) else a (b,(i64.wrap (c+1))) else some b
def nZ(b:Ex->Ex)(c:Sh->(R:Type)->Option R->Option R)(m:ic)(a:Q1):Option Q1:= aj (Cu b c m a) an ([],0)
theorem CE:Ko Gi:=
 eA (.l ⟨[(false,5,kW),(false,6,ao)],[]⟩ .o) call52 func52 (aw n8 ax) ax ax λs=>(show _=nZ lR eI s.1 s.2 from by kernel_rfl).trans ((congrArg (λa=>nZ a eI s.1 s.2) ed).trans ((congrArg (λb=>nZ id b s.1 s.2) fT).trans (by kernel_rfl)))
def Kj:aA:=⟨53,[pW,aY,ao],(.cU [kW,ao]),[],U3 oD⟩
def Gj(g:Ex->Ex)(l:Sh->(R:Type)->Option R->Option R)(m:ic)(e:Q1)(k:Int)(a:fI->Option fI):Q1×Int->Option fI:=λ⟨b,c⟩=> (idx m.2.2.2.2 k).bind λi=> bif decide (c<(i.2.2.length:Int)) then (idx m.2.2.2.2 k).bind λh=> (idx h.2.2 c).bind λd=> (eU (g d.2) e).bind λf=> (idx b d.1).bind λj=> a ((List.set b (Int.toNat d.1) f),(i64.wrap (c+1))) else aj (iX m b) an 0
def sB(b:Ex->Ex)(e:Sh->(R:Type)->Option R->Option R)(m:ic)(a:Q1)(k:Int):Option fI:= ai (decide (k<0)) λf=> ai (decide ((m.2.2.2.2.length:Int)<=k)) λd=> ai (f||d) λc=> bif c then ( some ([],10)) else ( aN (aH (List.length ([]:zk)+List.length a) 8)<| aj (Gj b e m a k) an ((([]:zk)++a),0))
theorem Ga:Ko Kj:=
 eA (.c .o (.l ⟨[(true,8,kW),(false,9,ao)],[]⟩ (.c (.r [8] .o) (.l ⟨[(false,11,ao)],[]⟩ .o)))) call53 func53 (aw n8 ax) ax ax λs=>(show _=sB lR eI s.1 s.2.1 s.2.2 from by kernel_rfl).trans ((congrArg (λa=>sB a eI s.1 s.2.1 s.2.2) ed).trans ((congrArg (λb=>sB id b s.1 s.2.1 s.2.2) fT).trans (by kernel_rfl)))
def JU:aA:=⟨27,[pW,aY],S9,[],U2 oT⟩
theorem Gn:Ko JU:=
 aG (.c .o (.l ⟨[(false,7,uG),(false,8,ao)],[]⟩ .o)) call27 func27 (aw CE (aw Ga (aw ie ax)))
def Ku:aA:=⟨31,[pW,nh,aY],S9,[],U3 jb⟩
theorem nV:Ko Ku:=
 aG (.r [] (.c .o (.l ⟨[(false,11,uG),(false,12,ao)],[]⟩ (.c (.r [11] .o) .o)))) call31 func31 (aw Gn (aw tD ax))
def L7:aA:=⟨30,[pW,nh,aY,aY],.bool,[],U4 vP⟩
theorem Hy:Ko L7:=
 aG .o call30 func30 (aw nV (aw ui ax))
def I0:aA:=⟨20,[nh,aY],.bool,[],U2 kb⟩
theorem uq:Ko I0:=
 aG (.l ⟨[(false,5,ao)],[]⟩ .o) call20 func20 ax
def Jl:aA:=⟨14,[pW,nh,(.dat Hv [none,none])],.bool,[],U3 An⟩
theorem D7:Ko Jl:=
 aG (.r [] (.c .o (.l ⟨[(false,8,ao)],[]⟩ (.c .o (.r [20007] (.c .o (.l ⟨[(false,10,ao)],[]⟩ (.c .o (.r [] (.l ⟨[(false,13,.bool),(false,14,ao)],[]⟩ .o)))))))))) call14 func14 (aw Je (aw vp (aw ui (aw Hy (aw uq ax)))))
def IG:aA:=⟨7,[],.bool,[],λ_=>s8⟩
theorem Ez:Ko IG:=
 aG .o call7 func7 (aw xB (aw JG (aw D7 ax)))
def yv:aA:=⟨83,[wW,ao],ao,[],U2 kS⟩
def Gm(d:Ex->Ex)(m:Sh->(R:Type)->Option R->Option R)(j:xk->zc)(e:Ex)(most:Int)(a:js->zc):Int×Int->zc:=λ⟨g,c⟩=> ai (decide (c<(List.length e.l:Int))) λk=> ai (decide (1<most)) λi=> ai (k&&i) λh=> bif h then ( (idx e.l c).bind λf=> (j ((d f),(i64.wrap (most-1)))).bind λb=> bif decide (g<(i64.wrap (1+b))) then a ((i64.wrap (1+b)),(i64.wrap (c+1))) else a (g,(i64.wrap (c+1)))) else ( some g)
def pj(a:Ex->Ex)(c:Sh->(R:Type)->Option R->Option R)(b:xk->zc)(e:Ex)(most:Int):zc:= aj (Gm a c b e most) an (1,0)
def yY:TK9->TK9:=λa s=>jy a s.1 s.2
theorem De(a:TK9)(c:OK9 a):(lG (yY a)).Ok X0.P X0.Γ:=
 eA (.l ⟨[(false,5,ao),(false,6,ao)],[]⟩ .o) call83 func83 (aw c ax) ax ax λs=>(show _=pj lR eI a s.1 s.2 from by kernel_rfl).trans ((congrArg (λb=>pj b eI a s.1 s.2) ed).trans ((congrArg (λd=>pj id d a s.1 s.2) fT).trans (by kernel_rfl)))
theorem FY:Ko yv:=(show yv=lG (aj (yY) an) by kernel_rfl)▸ot (X:=X0) (E:=lG) ⟨call83,λ_ _ h=>nomatch h⟩ (De) an
def yj:aA:=⟨84,[wW,ao],ao,[],U2 kZ⟩
def F3(f:Ex->Ex)(m:Sh->(R:Type)->Option R->Option R)(j:xk->zc)(e:Ex)(most:Int)(a:js->zc):Int×Int->zc:=λ⟨c,d⟩=> ai (decide (d<(List.length e.l:Int))) λk=> ai (decide (c<most)) λi=> ai (k&&i) λh=> bif h then ( (idx e.l d).bind λg=> (j ((f g),most)).bind λb=> a ((i64.wrap (c+b)),(i64.wrap (d+1)))) else ( some c)
def px(a:Ex->Ex)(c:Sh->(R:Type)->Option R->Option R)(b:xk->zc)(e:Ex)(most:Int):zc:= aj (F3 a c b e most) an (1,0)
def yF:ab2->ab2:=λa s=>jq a s.1 s.2
theorem Dr(a:ab2)(b:atM a):(lf (yF a)).Ok X0.P X0.Γ:=
 eA (.l ⟨[(false,5,ao),(false,6,ao)],[]⟩ .o) call84 func84 (aw b ax) ax ax λs=>(show _=px lR eI a s.1 s.2 from by kernel_rfl).trans ((congrArg (λc=>px c eI a s.1 s.2) ed).trans ((congrArg (λd=>px id d a s.1 s.2) fT).trans (by kernel_rfl)))
theorem Gg:Ko yj:=(show yj=lf (aj (yF) an) by kernel_rfl)▸ot (X:=X0) (E:=lf) ⟨call84,λ_ _ h=>nomatch h⟩ (Dr) an
def Mb:aA:=⟨56,[wW],.bool,[],λs=>cE s⟩
def tl(a:Ex->Ex)(h:Sh->(R:Type)->Option R->Option R)(e:Ex):y2:= (kS (a e) 45).bind λg=> (kZ (a e) 300).bind λf=> ai (decide (g<45)) λd=> ai (decide (f<300)) λc=> ai (d&&c) λb=> some b
theorem H8:Ko Mb:=
 eA .o call56 func56 (aw FY (aw Gg ax)) ax ax λs=>(show _=tl lR eI s from by kernel_rfl).trans ((congrArg (λa=>tl a eI s) ed).trans ((congrArg (λb=>tl id b s) fT).trans (by kernel_rfl)))
def Mj:aA:=⟨33,[nh,ao],.bool,[],U2 pT⟩
def H6(h:Ex->Ex)(m:Sh->(R:Type)->Option R->Option R)(a:Q9)(g:Int)(e:Int)(c:js->y2)(l:(List Ex))(b:Int->y2)(d:Int):y2:= (idx a.1 e).bind λk=> bif decide (d<(k.length:Int)) then (idx a.1 e).bind λj=> (idx j d).bind λi=> (cE (h i)).bind λf=> bif !f then some false else b (i64.wrap (d+1)) else c ((i64.wrap (g+(l.length:Int))),(i64.wrap (e+1)))
def Iq(e:Ex->Ex)(o:Sh->(R:Type)->Option R->Option R)(a:Q9)(most:Int)(b:js->y2):Int×Int->y2:=λ⟨c,d⟩=> ai (decide (d<(a.1.length:Int))) λn=> ai (decide (c<4000)) λm=> ai (n&&m) λl=> bif l then ( (idx a.1 d).bind λf=> aj (H6 e o a c d b f) an 0) else ( ai (decide (c<4000)) λk=> ai (decide ((a.1.length:Int)<=most)) λj=> ai (k&&j) λi=> ai (decide ((a.2.1.length:Int)<=most)) λh=> ai (i&&h) λg=> some g)
def HG(e:Ex->Ex)(j:Sh->(R:Type)->Option R->Option R)(a:Q9)(most:Int)(b:js->y2):Int×Int->y2:=λ⟨c,d⟩=> ai (decide (d<(a.2.2.2.length:Int))) λi=> ai (decide (c<4000)) λh=> ai (i&&h) λg=> bif g then ( (idx a.2.2.2 d).bind λf=> b ((i64.wrap (c+(f.length:Int))),(i64.wrap (d+1)))) else ( aj (Iq e j a most) an (c,0))
def HH(e:Ex->Ex)(i:Sh->(R:Type)->Option R->Option R)(a:Q9)(most:Int)(b:js->y2):Int×Int->y2:=λ⟨c,d⟩=> ai (decide (d<(a.2.1.length:Int))) λj=> ai (decide (c<4000)) λh=> ai (j&&h) λg=> bif g then ( (idx a.2.1 d).bind λf=> b ((i64.wrap (c+(f.length:Int))),(i64.wrap (d+1)))) else ( aj (HG e i a most) an (c,0))
def sZ(b:Ex->Ex)(c:Sh->(R:Type)->Option R->Option R)(a:Q9)(most:Int):y2:= aj (HH b c a most) an ((i64.wrap ((a.2.2.1.length:Int)+(a.2.2.2.length:Int))),0)
theorem Im:Ko Mj:=
 eA (.l ⟨[(false,5,ao),(false,6,ao)],[]⟩ (.c .o (.l ⟨[(false,5,ao),(false,7,ao)],[]⟩ (.c .o (.l ⟨[(false,5,ao),(false,8,ao)],[]⟩ (.c (.l ⟨[(false,9,ao)],[]⟩ .o) .o)))))) call33 func33 (aw H8 ax) ax ax λs=>(show _=sZ lR eI s.1 s.2 from by kernel_rfl).trans ((congrArg (λa=>sZ a eI s.1 s.2) ed).trans ((congrArg (λb=>sZ id b s.1 s.2) fT).trans (by kernel_rfl)))
def HK:aA:=⟨57,[aY,ao],.bool,[],U2 fg⟩
theorem Dc:Ko HK:=
 aG (.l ⟨[(false,5,ao)],[]⟩ .o) call57 func57 ax
def Mh:aA:=⟨58,[wW],.bool,[],λs=>lW s⟩
def sW(a:Ex->Ex)(f:Sh->(R:Type)->Option R->Option R)(e:Ex):y2:= (dO (a e)).bind λd=> ai (d.2.1==0) λb8=> ai (d.1==2) λc=> ai (b8&&c) λb=> some b
theorem Hp:Ko Mh:=
 eA .o call58 func58 (aw vn ax) ax ax λs=>(show _=sW lR eI s from by kernel_rfl).trans ((congrArg (λa=>sW a eI s) ed).trans ((congrArg (λb=>sW id b s) fT).trans (by kernel_rfl)))
def Ja:aA:=⟨34,[nh],.bool,[],λs=>nP s⟩
def Fv(g:Ex->Ex)(k:Sh->(R:Type)->Option R->Option R)(a:Q9)(d:Int)(c:Int->y2)(b:Int->y2)(e:Int):y2:= (idx a.1 d).bind λj=> bif decide (e<(j.length:Int)) then (idx a.1 d).bind λi=> (idx i e).bind λh=> (lW (g h)).bind λf=> bif !f then some false else b (i64.wrap (e+1)) else c (i64.wrap (d+1))
def FE(e:Ex->Ex)(g:Sh->(R:Type)->Option R->Option R)(a:Q9)(b:Int->y2)(c:Int):y2:= bif decide (c<(a.1.length:Int)) then (idx a.2.1 c).bind λf=> (fg f (a.1.length:Int)).bind λd=> bif !d then some false else aj (Fv e g a c b) an 0 else aj (iA a) an 0
def rM(b:Ex->Ex)(f:Sh->(R:Type)->Option R->Option R)(a:Q9):y2:= (fg a.2.2.1 (a.1.length:Int)).bind λe=> ai (!e) λb8=> ai ((a.2.1.length:Int) != (a.1.length:Int)) λd=> ai (b8||d) λc=> bif c then ( some false) else ( aj (FE b f a) an 0)
theorem Fg:Ko Ja:=
 eA (.c .o (.l ⟨[(false,5,ao)],[]⟩ (.c (.c .o (.l ⟨[(false,7,ao)],[]⟩ .o)) (.l ⟨[(false,9,ao)],[]⟩ .o)))) call34 func34 (aw Dc (aw Hp ax)) ax ax λs=>(show _=rM lR eI s from by kernel_rfl).trans ((congrArg (λa=>rM a eI s) ed).trans ((congrArg (λb=>rM id b s) fT).trans (by kernel_rfl)))
def AA:aA:=⟨59,[wW,ao],.bool,[],U2 pV⟩
def HL(g:Ex->Ex)(j:Sh->(R:Type)->Option R->Option R)(i:xk->y2)(e:Ex)(d:Int)(b:Int)(a:Int->y2)(c:Int):y2:= bif decide (c<b) then (idx e.l c).bind λh=> (i ((g h),d)).bind λf=> bif !f then some false else a (i64.wrap (c+1)) else some true
def Hk(c:Ex->Ex)(y:Sh->(R:Type)->Option R->Option R)(z:xk->y2)(e:Ex)(b:Int)(a:Int):y2:= ai (decide (e.op<1)) λB=> ai (decide (24<e.op)) λA=> ai (B||A) λx=> ai ((List.length e.l:Int) != a) λw=> ai (x||w) λv=> bif v then ( some false) else ( ai (e.op==1) λu=> ai (decide (e.n<0)) λt=> ai (decide (1073741824<e.n)) λs=> ai (t||s) λr=> ai (u&&r) λq=> ai (e.op==2) λp=> ai (decide (e.n<0)) λo=> ai (decide (b<=e.n)) λm=> ai (o||m) λk=> ai (p&&k) λj=> ai (q||j) λi=> ai (decide (2<e.op)) λh=> ai (e.n != 0) λg=> ai (h&&g) λf=> ai (i||f) λd=> bif d then ( some false) else ( aj (HL c y z e b a) an 0))
def rH(g:Ex->Ex)(h:Sh->(R:Type)->Option R->Option R)(i:xk->y2)(e:Ex)(b:Int):y2:= ai (λ(f:Int)=>Hk g h i e b f) λc=> ai (λ(d:Bool)=>sA e c d) λa=> bif e.op==1 then a (e.op==1) else bif e.op==2 then a (e.op==2) else bif e.op==13 then a (e.op==13) else a (e.op==14)
def AB:Z8->Z8:=λa s=>il a s.1 s.2
theorem Eb(a:Z8)(b:atJ a):(l8 (AB a)).Ok X0.P X0.Γ:=
 eA (.s (.s (.j ⟨[(false,5,ao)],[]⟩ (.s (.j ⟨[(false,10,.bool)],[]⟩ .o (.c .o (.j ⟨[(false,15,.bool)],[]⟩ .o .o)))) (.c .o (.c .o (.l ⟨[(false,6,ao)],[]⟩ .o)))))) call59 func59 (aw b ax) ax ax λs=>(show _=rH lR eI a s.1 s.2 from by kernel_rfl).trans ((congrArg (λd=>rH d eI a s.1 s.2) ed).trans ((congrArg (λe=>rH id e a s.1 s.2) fT).trans (by kernel_rfl)))
theorem Is:Ko AA:=(show AA=l8 (aj (AB) an) by kernel_rfl)▸ot (X:=X0) (E:=l8) ⟨call59,λ_ _ h=>nomatch h⟩ (Eb) an
def Mg:aA:=⟨35,[nh,ao],.bool,[],U2 vA⟩
def Ie(h:Ex->Ex)(l:Sh->(R:Type)->Option R->Option R)(a:Q9)(e:Int)(g:Int)(c:Int->y2)(b:Int->y2)(d:Int):y2:= (idx a.1 g).bind λk=> bif decide (d<(k.length:Int)) then (idx a.1 g).bind λj=> (idx j d).bind λi=> (pV (h i) e).bind λf=> bif !f then some false else b (i64.wrap (d+1)) else c (i64.wrap (g+1))
def HR(d:Ex->Ex)(f:Sh->(R:Type)->Option R->Option R)(a:Q9)(c:Int)(b:Int->y2)(e:Int):y2:= bif decide (e<(a.1.length:Int)) then aj (Ie d f a c e b) an 0 else some true
def ta(c:Ex->Ex)(d:Sh->(R:Type)->Option R->Option R)(a:Q9)(b:Int):y2:= aj (HR c d a b) an 0
theorem HC:Ko Mg:=
 eA (.l ⟨[(false,5,ao)],[]⟩ (.c (.l ⟨[(false,6,ao)],[]⟩ .o) .o)) call35 func35 (aw Is ax) ax ax λs=>(show _=ta lR eI s.1 s.2 from by kernel_rfl).trans ((congrArg (λa=>ta a eI s.1 s.2) ed).trans ((congrArg (λb=>ta id b s.1 s.2) fT).trans (by kernel_rfl)))
def Iv:aA:=⟨17,[an2,nh],.bool,[],U2 mw⟩
theorem DK:Ko Iv:=
 aG .o call17 func17 (aw Im (aw Fg (aw HC ax)))
def Ea:aA:=⟨18,[an2,ao],.bool,[],U2 fD⟩
theorem Cg:Ko Ea:=
 aG (.l ⟨[(false,5,ao),(false,6,ao)],[]⟩ .o) call18 func18 ax
def Hj:aA:=⟨8,[.str,nh],(.cU [amp,.bool]),[],U2 gJ⟩
theorem CZ:Ko Hj:=
 aG (.r [4] .o) call8 func8 (aw xB (aw DK (aw Cg ax)))
def Jm:aA:=⟨15,[pW,nh,ao],S9,[],U3 nF⟩
theorem Ey:Ko Jm:=
 aG (.l ⟨[(false,8,uG),(false,9,ao)],[]⟩ (.c (.c .o (.r [] (.c .o (.l ⟨[(false,8,uG),(false,12,ao)],[]⟩ .o)))) .o)) call15 func15 (aw vp (aw nV (aw ie ax)))
def Iy:aA:=⟨19,[pW,nh,ao],(.cU [uG,uG,ao]),[],U3 nL⟩
theorem EJ:Ko Iy:=
 aG (.c .o (.l ⟨[(false,11,uG),(false,12,ao)],[]⟩ (.c (.r [] (.l ⟨[(false,15,kW),(false,16,ao)],[]⟩ .o)) .o))) call19 func19 (aw Ey (aw nV (aw ie ax)))
def J3:aA:=⟨21,[(.sli wQ),(.sli .bo),(.sli (.l .bo))],EP,[],U3 oK⟩
theorem F5:Ko J3:=
 aG (.l ⟨[(true,7,EP),(false,8,.bool)],[]⟩ (.c (.l ⟨[(true,7,EP),(false,8,.bool),(false,9,ao)],[]⟩ (.c (.l ⟨[(true,10,EP),(false,11,.bool)],[]⟩ (.c (.l ⟨[(true,10,EP),(false,11,.bool),(false,12,ao)],[]⟩ (.c (.l ⟨[(true,10,EP),(false,11,.bool),(false,13,ao)],[]⟩ .o) .o)) (.l ⟨[(true,7,EP),(false,8,.bool),(false,15,ao)],[]⟩ .o))) .o)) .o)) call21 func21 ax
def Ip:aA:=⟨9,[pW,nh,ao],(.cU [.bool,ao,ao]),[],U3 mC⟩
theorem Dy:Ko Ip:=
 aG (.c .o (.l ⟨[(false,12,EP),(true,13,EP),(false,14,ao)],[]⟩ (.c .o (.l ⟨[(false,17,ao)],[]⟩ .o)))) call9 func9 (aw EJ (aw uq (aw F5 ax)))
end
end Go.Proofs.YtcgihjbfppkcfaaGreatDoor
