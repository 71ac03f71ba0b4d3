/- Own texts for NestAlwaysQ, cut and joined by a program. -/
import Derived.Test.YtcgihjbfppkcfaaGreatDoorNestAlwaysQG
set_option linter.all false
namespace Go.Proofs.YtcgihjbfppkcfaaGreatDoor
open IntKind (i64)
open Go.Proofs
noncomputable section
set_option maxRecDepth 100000
abbrev QE:Ty:=(.p (.i .i64) (.p (.l (.p (.i .i64) (.i .i64))) (.p (.i .i64) (.p (.p (.p (.i .i64) (.p (.l (.l (.i .u8))) (.l (.i .i64)))) (.l (.i .u8))) (.p (.p (.l (.p (.i .i64) (.p (.l (.l (.i .u8))) (.l (.i .i64))))) (.p (.p (.i .i64) (.p (.l (.l (.i .u8))) (.l (.i .i64)))) (.l (.i .u8)))) (.p (.p (.l (.p (.i .i64) (.p (.l (.l (.i .u8))) (.l (.i .i64))))) (.l (.i .u8))) (.p (.p (.p (.i .i64) (.p (.l (.p (.l (.p (.i .u8) (.i .i64))) (.i .i64))) (.p (.i .i64) (.p (.i .i64) (.l (.i .i64)))))) (.p (.p (.i .i64) (.p (.l (.p (.l (.p (.i .u8) (.i .i64))) (.i .i64))) (.p (.i .i64) (.p (.i .i64) (.l (.i .i64)))))) (.p (.i .i64) (.p (.l (.p (.l (.p (.i .u8) (.i .i64))) (.i .i64))) (.p (.i .i64) (.p (.i .i64) (.l (.i .i64)))))))) (.p (.i .i64) (.p (.i .i64) (.p (.i .u64) (.p (.l (.i .u8)) (.p (.l (.i .u8)) (.l (.i .u8))))))))))))))
abbrev bf:Ty:=(.i .i64)
abbrev QL3:List Pt:=(.same:: .same:: .same:: .same:: .same:: .same:: .same:: .same:: .same::(.int .i64)::(.sli (.p bf bf))::(.int .i64)::(.int .i64)::(.sli (.l (.i .u8)))::(.sli bf)::(.sli (.i .u8))::(.sli (.p bf (.p (.l (.l (.i .u8))) (.l bf))))::(.int .i64)::(.sli (.l (.i .u8)))::(.sli bf)::(.sli (.i .u8))::(.sli (.p bf (.p (.l (.l (.i .u8))) (.l bf))))::(.sli (.i .u8))::(.int .i64)::(.sli (.p (.l (.p (.i .u8) bf)) bf))::(.int .i64)::(.int .i64)::(.sli bf)::(.int .i64)::(.sli (.p (.l (.p (.i .u8) bf)) bf))::(.int .i64)::(.int .i64)::(.sli bf)::(.int .i64)::(.sli (.p (.l (.p (.i .u8) bf)) bf))::(.int .i64)::(.int .i64)::(.sli bf)::(.int .i64)::(.int .i64)::(.int .u64)::(.sli (.i .u8))::(.sli (.i .u8))::(.sli (.i .u8)):: .same::[])
abbrev QL4:List Pt:=((.sli .s)::(.sli (.p bf bf))::(.sli bf)::(.sli .s)::(.sli (.p bf (.p .ex (.l (.p bf .ex)))))::(.sli (.l .ex))::(.sli (.l bf))::(.sli bf)::(.sli (.l bf))::(.int .i64)::(.sli (.p bf bf))::(.int .i64)::(.int .i64)::(.sli (.l (.i .u8)))::(.sli bf)::(.sli (.i .u8))::(.sli (.p bf (.p (.l (.l (.i .u8))) (.l bf))))::(.int .i64)::(.sli (.l (.i .u8)))::(.sli bf)::(.sli (.i .u8))::(.sli (.p bf (.p (.l (.l (.i .u8))) (.l bf))))::(.sli (.i .u8))::(.int .i64)::(.sli (.p (.l (.p (.i .u8) bf)) bf))::(.int .i64)::(.int .i64)::(.sli bf)::(.int .i64)::(.sli (.p (.l (.p (.i .u8) bf)) bf))::(.int .i64)::(.int .i64)::(.sli bf)::(.int .i64)::(.sli (.p (.l (.p (.i .u8) bf)) bf))::(.int .i64)::(.int .i64)::(.sli bf)::(.int .i64)::(.int .i64)::(.int .u64)::(.sli (.i .u8))::(.sli (.i .u8))::(.sli (.i .u8))::(.int .i64)::[])
abbrev ou:Pt:=(.dat QE [none,none,none,none,none,none,none,none,none,none,none,none,none,none,none,none,none,none,none])
abbrev gq:Ty:=(.p bf (.p (.l (.l (.i .u8))) (.l bf)))
abbrev ar:Pt:=(.int .i64)
abbrev UL:Ty:=(.p (.l .s) (.p (.l (.p bf bf)) (.p (.l bf) (.p (.l .s) (.l (.p bf (.p .ex (.l (.p bf .ex)))))))))
abbrev aW:Ty:=(.i .u8)
abbrev LW:Ty:=(.p (.l (.l .ex)) (.p (.l (.l bf)) (.p (.l bf) (.l (.l bf)))))
abbrev adF:Ty:=(.p aW (.p aW (.p aW (.p aW (.p aW (.p aW (.p aW (.p aW (.p aW (.p aW (.p aW (.p aW (.p aW (.p aW (.p aW (.p aW (.p aW (.p aW (.p aW (.p aW (.p aW (.p aW (.p aW (.p aW (.p aW (.p aW (.p aW (.p aW (.p aW (.p aW (.p aW (.p aW (.p aW (.p aW (.p aW (.p aW (.p aW (.p aW (.p aW (.p aW (.p aW (.p aW (.p aW (.p aW (.p aW (.p aW (.p aW (.p aW (.p aW (.p aW (.p aW (.p aW (.p aW (.p aW (.p aW (.p aW (.p aW (.p aW (.p aW (.p aW (.p aW (.p aW (.p aW aW)))))))))))))))))))))))))))))))))))))))))))))))))))))))))))))))
abbrev FG:Ty:=(.p bf (.p bf (.p (.i .u64) (.p (.l aW) (.p (.l aW) (.l aW))))))
abbrev yf:Ty:=(.p bf (.p (.l (.p (.l (.p aW bf)) bf)) (.p bf (.p bf (.l bf)))))
abbrev WB:Pt:=(.bx 130 0 true [(.own (.p bf (.p .s (.p bf bf))) 132 false),ar,(.own .s 9 false),(.own (.p bf bf) 112 false),(.own bf 3 false),(.own .s 9 false),(.own (.p bf (.p .ex (.l (.p bf .ex)))) 180 false),ar,ar])
abbrev kW:Ty:=(.p bf bf)
abbrev aY:Pt:=(.sli bf)
abbrev rB:Pt:=(.dat UL [none,none,none,none,none])
abbrev aiU:Ty:=(.p aW (.p aW (.p aW (.p aW (.p aW (.p aW (.p aW (.p aW (.p aW (.p aW (.p aW (.p aW (.p aW (.p aW (.p aW (.p aW (.p aW (.p aW (.p aW (.p aW (.p aW (.p aW (.p aW aW)))))))))))))))))))))))
abbrev kZ:Pt:=(.own bf 3 true)
abbrev tf:Ty:=(.p (.l (.p aW bf)) bf)
abbrev Kw:Pt:=(.bx 130 0 true [.same,.same,.same,.same,.same,.same,.same,ar,ar])
abbrev jd:Pt:=(.own aW 5 true)
abbrev ve:Pt:=(.dat LW [none,none,none,none])
abbrev rz:Pt:=(.own (.l bf) 24 true)
abbrev uj:Ty:=(.p bf (.p .s kW))
abbrev Xk:Ty:=(.p bf (.p bf (.p bf (.p (.i .u64) kW))))
abbrev K9:Pt:=(.dat (.p (.l gq) (.p gq (.l aW))) [none,none,none,none])
abbrev A5:Ty:=(.p bf (.p .ex (.l (.p bf .ex))))
abbrev AQ:Ty:=(.p (.l bf) (.l (.l bf)))
abbrev w9:Pt:=(.dat FG [none,none,none])
abbrev SU:Ty:=(.p aW (.p aW (.p aW (.p aW (.p aW (.p aW (.p aW aW)))))))
abbrev aoX:Ty:=(.p (.i .u64) (.p (.i .u64) (.p (.i .u64) (.p (.i .u64) (.p (.i .u64) (.p (.i .u64) (.p (.i .u64) (.p (.i .u64) (.p (.i .u64) (.p (.i .u64) (.p (.i .u64) (.p (.i .u64) (.p (.i .u64) (.p (.i .u64) (.p (.i .u64) (.p (.i .u64) (.p (.i .u64) (.p (.i .u64) (.p (.i .u64) (.i .u64))))))))))))))))))))
abbrev WX:Pt:=(.bx 130 0 true [.same,ar,.same,.same,.same,.same,.same,ar,ar])
abbrev XF:Pt:=(.bx 379 0 true [.same,(.own tf 273 true),.same,.same,kZ,.same])
abbrev Fe:Pt:=(.ifc 392 (.bx 390 0 true [kZ]))
abbrev LS:Pt:=(.dat (.p (.l gq) (.l aW)) [none,none])
abbrev ez:Pt:=(.sli aW)
abbrev FL:Ty:=(.p (.l (.l bf)) (.l (.l bf)))
abbrev Oz:Pt:=(.dat (.p gq (.l aW)) [none,none,none])
abbrev afv:Pt:=(.bx 212 0 true [(.own uj 132 false),ar,(.own .s 9 false),ar,ar])
abbrev lA:Ty:=(.l aW)
abbrev jz:Pt:=(.sli kW)
abbrev XY:Pt:=(.ifc 97 (.agg [(.sli (.l bf)),(.sli (.l bf))]))
abbrev aeI:Pt:=(.bx 355 0 true [(.own gq 270 true),(.fn 229 [(.ptr 0 0)] [])])
abbrev adK:Pt:=(.bx 79 0 true [(.own gq 73 true),.same,.same,.same,.same])
abbrev oH:Pt:=(.dat .un [])
abbrev Fb:Pt:=(.dat gq [none,none])
abbrev mV:Ty:=(.p aW bf)
abbrev RA:Pt:=(.fn 289 [] [(.bx 4 0 true [.bool])])
abbrev ajd:Pt:=(.bx 379 0 true [.same,(.own tf 273 true),.same,.same,kZ,(.mp bf .bo true)])
abbrev afm:Pt:=(.bx 355 0 false [(.sli gq),(.fn 233 [(.ptr 0 0)] [])])
abbrev apI:Pt:=(.bx 130 0 false [(.own uj 132 false),ar,(.own .s 9 false),(.own kW 112 false),(.own bf 3 false),(.own .s 9 false),(.own A5 180 false),ar,ar])
abbrev gU:Pt:=(.cQ [])
abbrev ajF:Pt:=(.bx 379 0 true [ar,(.own tf 273 true),ar,ar,kZ,(.mp bf .bo false)])
abbrev ajE:Pt:=(.bx 379 0 true [ar,(.own tf 273 true),ar,ar,kZ,(.mp bf .bo true)])
abbrev Yb:Pt:=(.bx 161 0 true [rz,(.mp .s .bo true)])
abbrev Pg:Pt:=(.bx 27 0 true [(.int .u64)])
abbrev akQ:Pt:=(.bx 130 0 true [.same,ar,.same,.same,.same,.same,.same,.same,.same])
abbrev OL:Pt:=(.ifc 95 (.agg [ar,aY]))
abbrev ady:Pt:=(.bx 79 0 true [.same,.same,.same,.same,.same])
abbrev FO:Pt:=(.cQ [.bool,ar])
abbrev ad7:Ty:=(.p .s (.p LW (.p aW (.p aW (.p aW aW)))))
abbrev me:Pt:=(.int .u8)
abbrev ad6:Pt:=(.bx 76 0 false [ar,(.sli lA),aY,ez])
abbrev Iu:Pt:=(.bx 100 0 true QL3)
abbrev u6:Ty:=(.p lA bf)
abbrev acZ:Pt:=(.bx 212 0 true [.same,ar,.same,ar,ar])
abbrev S7:Pt:=(.bx 243 0 true [.sfp,jd])
abbrev aeO:Pt:=(.bx 355 0 true [(.own gq 270 true),.same])
abbrev rG:Pt:=(.int .u32)
abbrev afp:Ty:=(.p (.l uj) (.p bf (.p (.l .s) kW)))
abbrev HK:Pt:=(.cQ [ou,ar])
abbrev Sg:Pt:=(.cQ [ou,.bool,ar])
abbrev aeX:Ty:=(.p (.l uj) (.p bf (.p UL kW)))
abbrev ae4:Ty:=(.p .s (.p LW (.p aW (.i .u64))))
abbrev api:Pt:=(.bx 130 0 true [.same,ar,(.own .s 9 true),(.own kW 112 true),kZ,.same,.same,ar,ar])
abbrev aaf:Ty:=(.p (.l gq) (.p gq lA))
abbrev Pf:Pt:=(.cQ [ar,.bool])
abbrev RF:Pt:=(.dat .ex [some 293])
abbrev apm:Pt:=(.bx 130 0 true [.same,ar,.same,.same,.same,.same,(.own A5 180 true),ar,ar])
abbrev S6:Pt:=(.own AQ 171 false)
abbrev aiM:Pt:=(.bx 76 0 true [ar,(.sli lA),aY,ez])
abbrev ac6:Ty:=(.p UL (.p LW (.p QE bf)))
abbrev Yc:Pt:=(.dat yf [none,none])
abbrev S4:Pt:=(.bx 100 0 true QL4)
abbrev ac3:Ty:=(.p bf (.p bf (.p .bo aW)))
abbrev Og:Pt:=(.dat .ex [none])
abbrev X8:Pt:=(.bx 24 0 false [aY])
abbrev aiW:Pt:=(.bx 218 0 true [rz,(.mp .s .bo true)])
abbrev aox:Ty:=(.p aW (.p aW (.p aW (.p aW (.p aW (.p aW (.p aW (.p aW aiU))))))))
abbrev adm:Pt:=(.bx 317 0 true [jd,ar])
abbrev Um:Pt:=(.sli (.i .u32))
abbrev Oe:Pt:=(.dat Xk [])
abbrev adH:Pt:=(.bx 390 0 true [kZ])
abbrev Z9:Ty:=(.p (.l gq) lA)
abbrev Kj:Pt:=(.ifc 3 ar)
abbrev aaa:Pt:=(.own bf 3 false)
abbrev Hq:Pt:=(.int .u64)
abbrev ads:Pt:=(.bx 24 0 true [aY])
abbrev Wj:Pt:=(.bx 4 0 true [.bool])
abbrev alE:Pt:=(.dat UL [some 19,some 225,some 7,some 19,some 361])
abbrev rQ:Ty:=(.l bf)
abbrev Qd:Pt:=(.own .s 9 false)
open Tryz
theorem ace:aim Tryz.prog 138:=λv w=>by rw [run_callFunc_extern func138 (by kernel_rfl) (by kernel_rfl) (by kernel_rfl) (e:=Extern.AbiNoEscape.same) (by kernel_rfl)];rfl
noncomputable def UN:Cx:=⟨Tryz.prog,[(2,bf),(3,bf),(4,.bo),(5,aW),(6,aW),(7,ac3),(8,ac3),(9,.s),(10,.s),(11,.s),(12,(.i .u64)),(13,(.p .s (.i .u64))),(14,(.p .s (.i .u64))),(21,(.i .i32)),(22,(.l (.l .ex))),(23,(.l rQ)),(24,rQ),(25,LW),(26,LW),(27,(.i .u64)),(28,Xk),(29,Xk),(31,(.l .s)),(32,(.l kW)),(33,(.l A5)),(34,UL),(35,UL),(40,FL),(41,FL),(42,bf),(47,ad7),(48,ad7),(55,ae4),(56,ae4),(65,(.l .bo)),(68,(.l (.l .bo))),(71,(.l lA)),(72,gq),(73,gq),(74,lA),(75,(.p gq lA)),(76,(.p gq lA)),(77,(.l gq)),(78,aaf),(79,aaf),(80,(.l gq)),(81,Z9),(82,Z9),(83,(.l tf)),(84,yf),(85,yf),(86,(.p yf (.p yf yf))),(87,(.p lA (.p lA lA))),(88,FG),(89,FG),(90,QE),(91,QE),(94,(.p bf rQ)),(95,(.p bf rQ)),(96,FL),(97,FL),(99,ac6),(100,ac6),(111,kW),(112,kW),(115,(.l .n)),(120,.n),(123,(.l AQ)),(126,(.l uj)),(129,aeX),(130,aeX),(131,uj),(132,uj),(143,(.l .ex)),(145,(.p bf (.p bf (.p bf (.l .ex))))),(146,.ex),(152,kW),(153,.un),(154,.un),(155,.un),(156,.un),(157,.un),(158,.un),(170,AQ),(171,AQ),(178,(.l (.p bf .ex))),(179,A5),(180,A5),(182,(.p bf .ex)),(183,(.p bf .ex)),(211,afp),(212,afp),(215,kW),(225,aiU),(236,aoX),(237,(.i .u32)),(238,(.p aW adF)),(239,(.i .u64)),(252,aox),(253,adF),(259,.un),(260,.un),(261,.un),(262,aW),(263,aW),(265,(.i .i32)),(266,(.i .i32)),(269,gq),(270,gq),(271,(.l mV)),(272,tf),(273,tf),(295,u6),(296,u6),(303,gq),(304,gq),(305,gq),(306,gq),(314,u6),(315,u6),(316,u6),(317,u6),(357,(.l (.i .u32))),(364,SU),(365,SU),(383,mV),(384,mV),(390,rQ)],[],[138],(List.forall_mem_cons.2 ⟨ace,(λ_ h=>nomatch h)⟩),ax,[154,155,156,157,158],[],(λ_ h=>nomatch h),[(25,21),(66,40)]⟩
noncomputable def X0:Cx:=⟨Tryz.prog,[(2,bf),(3,bf),(4,.bo),(5,aW),(6,aW),(7,ac3),(8,ac3),(9,.s),(10,.s),(11,.s),(12,(.i .u64)),(13,(.p .s (.i .u64))),(14,(.p .s (.i .u64))),(21,(.i .i32)),(22,(.l (.l .ex))),(23,(.l rQ)),(24,rQ),(25,LW),(26,LW),(27,(.i .u64)),(28,Xk),(29,Xk),(31,(.l .s)),(32,(.l kW)),(33,(.l A5)),(34,UL),(35,UL),(40,FL),(41,FL),(42,bf),(47,ad7),(48,ad7),(55,ae4),(56,ae4),(65,(.l .bo)),(68,(.l (.l .bo))),(71,(.l lA)),(72,gq),(73,gq),(74,lA),(75,(.p gq lA)),(76,(.p gq lA)),(77,(.l gq)),(78,aaf),(79,aaf),(80,(.l gq)),(81,Z9),(82,Z9),(83,(.l tf)),(84,yf),(85,yf),(86,(.p yf (.p yf yf))),(87,(.p lA (.p lA lA))),(88,FG),(89,FG),(90,QE),(91,QE),(94,(.p bf rQ)),(95,(.p bf rQ)),(96,FL),(97,FL),(99,ac6),(100,ac6),(111,kW),(112,kW),(115,(.l .n)),(120,.n),(123,(.l AQ)),(126,(.l uj)),(129,aeX),(130,aeX),(131,uj),(132,uj),(143,(.l .ex)),(145,(.p bf (.p bf (.p bf (.l .ex))))),(146,.ex),(152,kW),(153,.un),(154,.un),(155,.un),(156,.un),(157,.un),(158,.un),(170,AQ),(171,AQ),(178,(.l (.p bf .ex))),(179,A5),(180,A5),(182,(.p bf .ex)),(183,(.p bf .ex)),(211,afp),(212,afp),(215,kW),(225,aiU),(236,aoX),(237,(.i .u32)),(238,(.p aW adF)),(239,(.i .u64)),(252,aox),(253,adF),(259,.un),(260,.un),(261,.un),(262,aW),(263,aW),(265,(.i .i32)),(266,(.i .i32)),(269,gq),(270,gq),(271,(.l mV)),(272,tf),(273,tf),(295,u6),(296,u6),(303,gq),(304,gq),(305,gq),(306,gq),(314,u6),(315,u6),(316,u6),(317,u6),(357,(.l (.i .u32))),(364,SU),(365,SU),(383,mV),(384,mV),(390,rQ)],[(0,0,⟨.l (.i .u64),uR⟩)],[138],(List.forall_mem_cons.2 ⟨ace,(λ_ h=>nomatch h)⟩),ax,[154,155,156,157,158],[⟨180,λargs H st K=>O2 UN Tryz.f180 args H st K⟩,⟨171,λargs H st K=>O2 UN Tryz.f171 args H st K⟩,⟨289,λargs H st K=>O2 UN Tryz.f289 args H st K⟩,⟨290,λargs H st K=>O2 UN Tryz.f290 args H st K⟩],(List.forall_mem_cons.2 ⟨PO (X:=UN) call180 func180 rfl,(List.forall_mem_cons.2 ⟨PO (X:=UN) call171 func171 rfl,(List.forall_mem_cons.2 ⟨PO (X:=UN) call289 func289 rfl,(List.forall_mem_cons.2 ⟨PO (X:=UN) call290 func290 rfl,(λ_ h=>nomatch h)⟩)⟩)⟩)⟩),[(25,21),(66,40)]⟩
abbrev Ko(e:aC):=e.Ok X0.P X0.Γ
abbrev Jr(e:bX):=e.Ok X0.P X0.Γ
theorem aG{X:Cx}{tb:List aC}{fn:Func}{e:aC}(h:HT)(c:Enters X.P e.f)(b:X.P.funcs[e.f]? =some fn)(a:∀e∈tb,e.Ok X.P X.Γ)(eq:∀s,Zp X tb [] [] h fn e s=e.m s:=by intro _;kernel_rfl):e.Ok X.P X.Γ:=gE h c b a az az eq
theorem afb{X:Cx}{tb:List aC}{fn:Func}{e:bX}(h:HT)(c:Enters X.P e.f)(b:X.P.funcs[e.f]? =some fn)(a:∀e∈tb,e.Ok X.P X.Γ)(eq:∀s,ai2 X tb [] [] h fn e s=e.m s:=by intro _;kernel_rfl):e.Ok X.P X.Γ:=Lh h c b a az az eq
abbrev U2{a z r:Type}(F:a->z->r)(s:a×z):r:=F s.1 s.2
abbrev U3{a b z r:Type}(F:a->b->z->r)(s:a×b×z):r:=F s.1 s.2.1 s.2.2
abbrev U4{a b c z r:Type}(F:a->b->c->z->r)(s:a×b×c×z):r:=F s.1 s.2.1 s.2.2.1 s.2.2.2
abbrev U6{a b c d e z r:Type}(F:a->b->c->d->e->z->r)(s:a×b×c×d×e×z):r:=F s.1 s.2.1 s.2.2.1 s.2.2.2.1 s.2.2.2.2.1 s.2.2.2.2.2
abbrev U7{a b c d e f z r:Type}(F:a->b->c->d->e->f->z->r)(s:a×b×c×d×e×f×z):r:=F s.1 s.2.1 s.2.2.1 s.2.2.2.1 s.2.2.2.2.1 s.2.2.2.2.2.1 s.2.2.2.2.2.2
abbrev U8{a b c d e f g z r:Type}(F:a->b->c->d->e->f->g->z->r)(s:a×b×c×d×e×f×g×z):r:=F s.1 s.2.1 s.2.2.1 s.2.2.2.1 s.2.2.2.2.1 s.2.2.2.2.2.1 s.2.2.2.2.2.2.1 s.2.2.2.2.2.2.2
abbrev U9{a b c d e f g h z r:Type}(F:a->b->c->d->e->f->g->h->z->r)(s:a×b×c×d×e×f×g×h×z):r:=F s.1 s.2.1 s.2.2.1 s.2.2.2.1 s.2.2.2.2.1 s.2.2.2.2.2.1 s.2.2.2.2.2.2.1 s.2.2.2.2.2.2.2.1 s.2.2.2.2.2.2.2.2
def sR(x:Ex):Ex:=Ex.mk x.op x.n x.at_ x.l
theorem jk:sR=id:=funext λx=>by cases x;rfl
def apk:aC:=⟨131,[.int .i64],.str,[],λs=>Ww s⟩
theorem ahR:Ko apk:=akk (ρ:=Tryz.LP) Tryz.ai9 call131 (G:=0) (tab:=uR) (by kernel_rfl) (show gl 0 (uR.map (Value.int .u64))∈X0.Γ by first|exact cx ..|exact (.tail _ (cx ..))|exact (.tail _ (.tail _ (cx ..)))|exact (.tail _ (.tail _ (.tail _ (cx ..))))|exact (.tail _ (.tail _ (.tail _ (.tail _ (cx ..)))))|exact (.tail _ (.tail _ (.tail _ (.tail _ (.tail _ (cx ..))))))) (by decide+kernel) Ww λn r h=>by obtain ⟨b,a⟩:=iS h;cases a;exact ⟨b,rfl⟩
def apn:aC:=⟨110,[.own aW 5 true,.int .u64,.int .i64],.own aW 5 true,[],U3 Rm⟩
theorem ago:Ko apn:=akS (ρ:=Tryz.Na) Tryz.anr call110 (G:=0) (tab:=uR) (by kernel_rfl) (show gl 0 (uR.map (Value.int .u64))∈X0.Γ by first|exact cx ..|exact (.tail _ (cx ..))|exact (.tail _ (.tail _ (cx ..)))|exact (.tail _ (.tail _ (.tail _ (cx ..))))|exact (.tail _ (.tail _ (.tail _ (.tail _ (cx ..)))))|exact (.tail _ (.tail _ (.tail _ (.tail _ (.tail _ (cx ..))))))) (by decide+kernel) Rm λl u b r h=>by obtain ⟨a,c⟩:=iS h;simp only [an,n4,gj] at a;cases c;exact ⟨a.1.1,a.1.2.1,a.1.2.2,a.2,rfl⟩
theorem ahS{α:Type}{b:Nat}{s y r:List α}{k:Int}(h:SQ b s k y=some r):y≠[]/\A4 k s.length=true/\aH (s.length+y.length) b=true/\r=lT s k y:=by
 unfold SQ at h;split at h
 .cases h
 .obtain ⟨a,c⟩:=iS h;simp only [an] at a;cases c;exact ⟨by simp,a.1,a.2,rfl⟩
def ajZ:aC:=⟨261,[.own mV 384 true,.int .i64,.own mV 384 true],.own mV 384 true,[],λs=>SQ 16 s.1 s.2.1 s.2.2⟩
theorem aaJ:Ko ajZ:=amY (t:=mV) (bytes:=16) call261 (λa d c b=>I261.WZ a d c b) (SQ 16) (λ_ _ _ _ h=>ahS h)
abbrev YG:=ya->Option fc
def fK(k:YG):aC:=⟨107,[afv,ar,ar],RF,[(true,0,acZ)],λs=>k (s.2.2.2.2.2.1,s.2.2.2.2.2.2,s.1,s.2.1,s.2.2.1,s.2.2.2.1,s.2.2.2.2.1)⟩
abbrev OK0(k:YG):Prop:=Ko (fK k)
abbrev TK1:=Ex->Option kP
def kL(k:TK1):aC:=⟨85,[Og],(.cQ [ar,ar,ar]),[],λs=>k s⟩
abbrev OK1(k:TK1):Prop:=Ko (kL k)
abbrev TK2:=Int->zf
def wZ(k:TK2):aC:=⟨224,[ar],ar,[],λs=>k s⟩
abbrev OK2(k:TK2):Prop:=Ko (wZ k)
abbrev TK3:=(Ex×Q1)->zf
def xL(k:TK3):aC:=⟨102,[Og,aY],ar,[],λs=>k (s.1,s.2)⟩
abbrev OK3(k:TK3):Prop:=Ko (xL k)
abbrev TK4:=Q46->Option y2
def oD(k:TK4):bX:=⟨236,[afm,ar,Um],Kj,none,false,false,rG,[],λs=>k (s.2.1,s.2.2,s.1)⟩
abbrev OK4(k:TK4):Prop:=Jr (oD k)
abbrev TK5:=Q46->Option Q53
def lr(k:TK5):aC:=⟨236,[aeI,ar,Um],rG,[(true,0,aeO)],λs=>k (s.2.1,s.2.2,s.1)⟩
abbrev OK5(k:TK5):Prop:=Ko (lr k)
abbrev TK6:=Q40->Option Jj
def rX(k:TK6):aC:=⟨253,[ajE,ar,ez],ar,[(true,0,ajd)],λs=>k (s.2.2.2.2.2.2.1,s.2.2.2.2.2.2.2,s.1,s.2.1,s.2.2.1,s.2.2.2.1,s.2.2.2.2.1,s.2.2.2.2.2.1)⟩
abbrev OK6(k:TK6):Prop:=Ko (rX k)
abbrev TK7:=Q44->Option (cB×Q1)
def oE(k:TK7):aC:=⟨254,[ajF,ar],gU,[(true,0,XF)],λs=>k (s.2.2.2.2.2.2,s.1,s.2.1,s.2.2.1,s.2.2.2.1,s.2.2.2.2.1,s.2.2.2.2.2.1)⟩
abbrev OK7(k:TK7):Prop:=Ko (oE k)
abbrev TK8:=(Ex×Q1)->zf
def kS(k:TK8):aC:=⟨80,[Og,aY],ar,[],λs=>k (s.1,s.2)⟩
abbrev OK8(k:TK8):Prop:=Ko (kS k)
def IW:aC:=⟨73,[me],ar,[],λs=>fT s⟩
theorem DL:Ko IW:=
 aG .o call73 func73 az
def G3:aC:=⟨74,[],(.own .s 9 true),[],λ_=>ry⟩
theorem Cs:Ko G3:=
 aG .o call74 func74 az
def FP:aC:=⟨44,[.str],(.cQ [(.own uj 132 true),ar,ar]),[],λs=>gh s⟩
theorem BH:Ko FP:=
 aG (.c .o (.l ⟨[(false,5,(.own uj 132 true)),(false,6,ar)],[]⟩ (.c (.c .o (.c (.l ⟨[(false,6,ar)],[]⟩ .o) (.c (.l ⟨[(false,6,ar)],[]⟩ .o) (.c (.l ⟨[(false,6,ar),(false,9,ar)],[]⟩ .o) (.l ⟨[(false,11,.str),(false,12,ar)],[]⟩ .o))))) .o))) call44 func44 (aq DL (aq Cs az))
def DM:aC:=⟨45,[apI,ar,.str],.bool,[],λs=>bU (d8 s).2.1 (d8 s).2.2 s.1 s.2.1 s.2.2.1 s.2.2.2.1 s.2.2.2.2.1 s.2.2.2.2.2.1 s.2.2.2.2.2.2.1 s.2.2.2.2.2.2.2.1 s.2.2.2.2.2.2.2.2.1⟩
theorem gZ:Ko DM:=
 aG .o call45 func45 az
def JH:aC:=⟨77,[.str],.bool,[],λs=>jm s⟩
theorem uJ:Ko JH:=
 aG (.s (.s (.s (.j ⟨[(false,4,.bool)],[]⟩ .o .o)))) call77 func77 az
def BZ:aC:=⟨46,[WB,ar,ar],gU,[(true,0,Kw)],λs=>aJ (d8 s).2.1 (d8 s).2.2 s.1 s.2.1 s.2.2.1 s.2.2.2.1 s.2.2.2.2.1 s.2.2.2.2.2.1 s.2.2.2.2.2.2.1 s.2.2.2.2.2.2.2.1 s.2.2.2.2.2.2.2.2.1⟩
theorem cK:Ko BZ:=
 aG .o call46 func46 az
def DK:aC:=⟨78,[Qd,.str],ar,[],U2 cN⟩
theorem px:Ko DK:=
 aG (.l ⟨[(false,5,ar)],[]⟩ .o) call78 func78 az
def Bw:aC:=⟨49,[WB,.bool],.str,[(true,0,WX)],λs=>gz (d8 s).2 s.1 s.2.1 s.2.2.1 s.2.2.2.1 s.2.2.2.2.1 s.2.2.2.2.2.1 s.2.2.2.2.2.2.1 s.2.2.2.2.2.2.2.1 s.2.2.2.2.2.2.2.2.1⟩
theorem ph:Ko Bw:=
 aG .o call49 func49 (aq uJ (aq cK (aq px az)))
def BT:aC:=⟨47,[apI],ar,[],U9 br⟩
theorem fY:Ko BT:=
 aG .o call47 func47 az
def BJ:aC:=⟨50,[WB,.str],gU,[(true,0,WX)],λs=>bM (d8 s).2 s.1 s.2.1 s.2.2.1 s.2.2.2.1 s.2.2.2.2.1 s.2.2.2.2.2.1 s.2.2.2.2.2.2.1 s.2.2.2.2.2.2.2.1 s.2.2.2.2.2.2.2.2.1⟩
theorem jQ:Ko BJ:=
 aG .o call50 func50 (aq gZ (aq fY (aq cK az)))
def FF:aC:=⟨113,[ar],.bool,[],λs=>lx s⟩
theorem B6:Ko FF:=
 aG .o call113 func113 az
def yl:aC:=⟨114,[afv,ar],RF,[(true,0,(.bx 212 0 true [.same,.same,.same,ar,ar]))],λs=>bE s.2.2.2.2.2 s.1 s.2.1 s.2.2.1 s.2.2.2.1 s.2.2.2.2.1⟩
theorem mR:Ko yl:=
 aG (.c (.r [0] .o) .o) call114 func114 az
def AK(a:YG):aC:=⟨115,[afv,ar],RF,[(true,0,acZ)],λs=>dO a s.2.2.2.2.2 s.1 s.2.1 s.2.2.1 s.2.2.2.1 s.2.2.2.2.1⟩
def xO(g:Ex->Ex)(i:Sh->(R:Type)->Option R->Option R)(l:Q7)(at_:Int)(names:bq)(f:Int)(a:Int)(e:sO)(b:Int->Option fc)(c:Int):Option fc:= bif decide (c<(names.length:Int)) then (idx names c).bind λh=> bif h==e.2.1 then some ((Ex.mk 2 c e.2.2.2 []),(i64.wrap (at_+1)),f,a) else b (i64.wrap (c+1)) else (bE 3 l at_ names f a).bind λd=> some ((g d.1),at_,d.2.1,d.2.2)
def ku(f:Ex->Ex)(B:Sh->(R:Type)->Option R->Option R)(C:ya->Option fc)(h:Int)(l:Q7)(at_:Int)(names:bq)(d:Int)(c:Int):Option fc:= (idx l at_).bind λb=> bif b.1==2 then some ((Ex.mk 1 b.2.2.1 b.2.2.2 []),(i64.wrap (at_+1)),d,c) else ai (b.1==1) λA=> ai (b.2.1==[116,114,117,101]) λz=> ai (A&&z) λy=> bif y then ( some ((Ex.mk 13 0 b.2.2.2 []),(i64.wrap (at_+1)),d,c)) else ( ai (b.1==1) λx=> ai (b.2.1==[102,97,108,115,101]) λw=> ai (x&&w) λv=> bif v then ( some ((Ex.mk 14 0 b.2.2.2 []),(i64.wrap (at_+1)),d,c)) else ( (jm b.2.1).bind λj=> ai (b.1==1) λu=> ai (!j) λt=> ai (u&&t) λs=> bif s then ( ao (xO f B l at_ names d c b) ax 0) else ( ai (b.1 != 3) λr=> ai (b.2.1 != [40]) λq=> ai (r||q) λp=> bif p then ( (bE 2 l at_ names d c).bind λg=> some ((f g.1),at_,g.2.1,g.2.2)) else ( (C (1,h,l,(i64.wrap (at_+1)),names,d,c)).bind λa=> bif a.2.2.1 != 0 then some ((Ex.mk 0 0 0 []),a.2.1,a.2.2.1,a.2.2.2) else (idx l a.2.1).bind λm=> ai (m.1 != 3) λi=> bF (!i) (0,[],0,0) (idx l a.2.1) λk=> ai (k.2.1 != [41]) λo=> ai (i||o) λn=> bif n then ( (bE 2 l a.2.1 names a.2.2.1 a.2.2.2).bind λe=> some ((f e.1),a.2.1,e.2.1,e.2.2)) else ( some ((f a.1),(i64.wrap (a.2.1+1)),a.2.2.1,a.2.2.2))))))
theorem wX(a:YG)(d:OK0 a):Ko (AK a):=
 gE (.r [] (.c .o (.c .o (.c .o (.c (.l ⟨[(true,0,(.bx 212 0 true [.same,.same,.same,.same,.same])),(true,4,(.bx 146 0 true [.same,.same,.same,.same])),(false,7,ar)],[]⟩ .o) .o))))) call115 func115 (aq uJ (aq mR (aq d az))) az az λs=>(show _=ku sR jr a s.2.2.2.2.2 s.1 s.2.1 s.2.2.1 s.2.2.2.1 s.2.2.2.2.1 from by kernel_rfl).trans ((congrArg (λb=>ku b jr a s.2.2.2.2.2 s.1 s.2.1 s.2.2.1 s.2.2.2.1 s.2.2.2.2.1) jk).trans ((congrArg (λe=>ku id e a s.2.2.2.2.2 s.1 s.2.1 s.2.2.1 s.2.2.2.1 s.2.2.2.2.1) lg).trans (by kernel_rfl)))
def K7:aC:=⟨116,[(.dat uj []),ar],ar,[],U2 cU⟩
theorem Hi:Ko K7:=
 aG (.c (.c .o (.c .o (.c .o (.c .o (.c .o (.c (.l ⟨[(false,7,ar)],[]⟩ .o) .o)))))) .o) call116 func116 az
def oM:aC:=⟨107,[afv,ar,ar],RF,[(true,0,acZ)],λs=>gY s.2.2.2.2.2.1 s.2.2.2.2.2.2 s.1 s.2.1 s.2.2.1 s.2.2.2.1 s.2.2.2.2.1⟩
def wv(f:Ex->Ex)(j:Sh->(R:Type)->Option R->Option R)(i:ya->Option fc)(l:Q7)(at_:Int)(names:bq)(g:Int)(b:Int)(a:Int)(h:sO)(e:Int):Option fc:= bif e==0 then (i (7,a,l,at_,names,g,b)).bind λd=> some ((f d.1),d.2.1,d.2.2.1,d.2.2.2) else (i (6,a,l,(i64.wrap (at_+1)),names,g,b)).bind λc=> some ((Ex.mk e 0 h.2.2.2 ([(f c.1)]:List Ex)),c.2.1,c.2.2.1,c.2.2.2)
def wE(g:Ex->Ex)(m:Sh->(R:Type)->Option R->Option R)(n:ya->Option fc)(l:Q7)(at_:Int)(names:bq)(h:Int)(c:Int)(a:Int)(d:sO)(f:Int):Option fc:= ai (λ(e:Int)=>wv g m n l at_ names h c a d e) λb=> ai (d.1==1) λk=> ai (d.2.1==[71]) λj=> ai (k&&j) λi=> bif i then ( b 22) else ( b f)
def wj(g:Ex->Ex)(m:Sh->(R:Type)->Option R->Option R)(n:ya->Option fc)(l:Q7)(at_:Int)(names:bq)(h:Int)(c:Int)(a:Int)(d:sO)(f:Int):Option fc:= ai (λ(e:Int)=>wE g m n l at_ names h c a d e) λb=> ai (d.1==1) λk=> ai (d.2.1==[70]) λj=> ai (k&&j) λi=> bif i then ( b 21) else ( b f)
def wD(g:Ex->Ex)(m:Sh->(R:Type)->Option R->Option R)(n:ya->Option fc)(l:Q7)(at_:Int)(names:bq)(h:Int)(c:Int)(a:Int)(d:sO)(f:Int):Option fc:= ai (λ(e:Int)=>wj g m n l at_ names h c a d e) λb=> ai (d.1==1) λk=> ai (d.2.1==[88]) λj=> ai (k&&j) λi=> bif i then ( b 20) else ( b f)
def wx(p:Ex->Ex)(w:Sh->(R:Type)->Option R->Option R)(v:ya->Option fc)(a:Int)(l:Q7)(names:bq)(m:Int)(o:(Int×Int×Int×Int×Int×Int×(List Ex))->Option fc):Int×Int×Int×Int×Int×Int×(List Ex)->Option fc:=λ⟨h,g,n,f,e,d,c⟩=> bif g==0 then (idx l h).bind λk=> (cU k a).bind λj=> bif j==0 then some ((Ex.mk f e d c),h,g,n) else ai (a==1) λu=> ai (a==2) λt=> ai (u||t) λs=> ai (a==5) λr=> ai (s||r) λq=> bif q then ( (v (a,m,l,(i64.wrap (h+1)),names,g,n)).bind λi=> some ((Ex.mk j 0 k.2.2.2 ([(Ex.mk f e d c),(p i.1)]:List Ex)),i.2.1,i.2.2.1,i.2.2.2)) else ( (v ((i64.wrap (a+1)),m,l,(i64.wrap (h+1)),names,g,n)).bind λb=> bif a==7 then some ((Ex.mk j 0 k.2.2.2 ([(Ex.mk f e d c),(p b.1)]:List Ex)),b.2.1,b.2.2.1,b.2.2.2) else o (b.2.1,b.2.2.1,b.2.2.2,j,0,k.2.2.2,([(Ex.mk f e d c),(p b.1)]:List Ex))) else some ((Ex.mk f e d c),h,g,n)
def wo(h:Ex->Ex)(y:Sh->(R:Type)->Option R->Option R)(q:ya->Option fc)(a:Int)(l:Q7)(at_:Int)(names:bq)(i:Int)(d:Int)(s:Bool)(b:Int):Option fc:= ai (decide (320<b)) λx=> ai (s&&x) λw=> bif w then ( (bE 9 l at_ names i d).bind λk=> some ((h k.1),at_,k.2.1,k.2.2)) else ( (idx l at_).bind λg=> bif a==6 then ai (λ(r:Int)=>wD h y q l at_ names i d b g r) λj=> ai (g.1==3) λv=> ai (g.2.1==[33]) λu=> ai (v&&u) λt=> bif t then ( j 15) else ( j 0) else bif a==10 then ai (g.1 != 3) λp=> ai (g.2.1 != [45]) λo=> ai (p||o) λm=> bif m then ( (dO q b l at_ names i d).bind λf=> some ((h f.1),f.2.1,f.2.2.1,f.2.2.2)) else ( (q (10,b,l,(i64.wrap (at_+1)),names,i,d)).bind λe=> some ((Ex.mk 6 0 g.2.2.2 ([(h e.1)]:List Ex)),e.2.1,e.2.2.1,e.2.2.2)) else (q ((i64.wrap (a+1)),b,l,at_,names,i,d)).bind λc=> ao (wx h y q a l names b) ax (c.2.1,c.2.2.1,c.2.2.2,c.1.op,c.1.n,c.1.at_,c.1.l))
def je(h:Ex->Ex)(i:Sh->(R:Type)->Option R->Option R)(j:ya->Option fc)(a:Int)(d:Int)(l:Q7)(at_:Int)(names:bq)(e:Int)(b:Int):Option fc:= bif e != 0 then some ((Ex.mk 0 0 0 []),at_,e,b) else (lx a).bind λg=> ai (λ(f:Int)=>wo h i j a l at_ names e b g f) λc=> bif g then ( c (i64.wrap (d+1))) else ( c d)
def o7:YG->YG:=λa s=>dj a s.1 s.2.1 s.2.2.1 s.2.2.2.1 s.2.2.2.2.1 s.2.2.2.2.2.1 s.2.2.2.2.2.2
theorem uK(a:YG)(d:OK0 a):(fK (o7 a)).Ok X0.P X0.Γ:=
 gE (.c .o (.s (.j ⟨[(false,2,ar)],[]⟩ .o (.c .o (.r [] (.c (.s (.j ⟨[(false,9,ar)],[]⟩ .o (.j ⟨[(false,9,ar)],[]⟩ .o (.j ⟨[(false,9,ar)],[]⟩ .o (.j ⟨[(false,9,ar)],[]⟩ .o .o))))) (.c .o (.l ⟨[(true,0,acZ),(true,6,(.bx 146 0 true [.same,.same,.same,.same])),(true,12,(.bx 146 0 true [ar,ar,ar,(.own .ex 146 true)]))],[]⟩ .o)))))))) call107 func107 (aq B6 (aq mR (aq d (aq (wX a d) (aq Hi az))))) az az λs=>(show _=je sR jr a s.2.2.2.2.2.1 s.2.2.2.2.2.2 s.1 s.2.1 s.2.2.1 s.2.2.2.1 s.2.2.2.2.1 from by kernel_rfl).trans ((congrArg (λb=>je b jr a s.2.2.2.2.2.1 s.2.2.2.2.2.2 s.1 s.2.1 s.2.2.1 s.2.2.2.1 s.2.2.2.2.1) jk).trans ((congrArg (λe=>je id e a s.2.2.2.2.2.1 s.2.2.2.2.2.2 s.1 s.2.1 s.2.2.1 s.2.2.2.1 s.2.2.2.2.1) lg).trans (by kernel_rfl)))
theorem wC:Ko oM:=(show oM=fK (ao (o7) ax) by kernel_rfl)▸tK (X:=X0) (E:=fK) ⟨call107,λ_ _ h=>nomatch h⟩ (uK) ax
def CU:aC:=⟨98,[(.own uj 132 false),ar,Qd],(.cQ [RF,ar,ar,ar]),[],U3 eY⟩
def mg(b:Ex->Ex)(c:Sh->(R:Type)->Option R->Option R)(l:Q7)(at_:Int)(names:bq):Option fc:= (gY 1 0 l at_ names 0 0).bind λa=> bif a.2.2.1 != 0 then some ((Ex.mk 0 0 0 []),0,a.2.2.1,a.2.2.2) else some ((b a.1),a.2.1,0,0)
theorem Am:Ko CU:=
 gE (.c (.r [6] .o) (.r [6] .o)) call98 func98 (aq wC az) az az λs=>(show _=mg sR jr s.1 s.2.1 s.2.2 from by kernel_rfl).trans ((congrArg (λa=>mg a jr s.1 s.2.1 s.2.2) jk).trans ((congrArg (λb=>mg id b s.1 s.2.1 s.2.2) lg).trans (by kernel_rfl)))
def xK:aC:=⟨85,[Og],(.cQ [ar,ar,ar]),[],λs=>iw s⟩
def D9(j:Ex->Ex)(H:Sh->(R:Type)->Option R->Option R)(G:Ex->Option kP)(e:Ex)(f:EP->Option kP):Int×Int×Int×Int->Option kP:=λ⟨a,b,c,h⟩=> bif decide (h<(List.length e.l:Int)) then (idx e.l h).bind λk=> (G (j k)).bind λd=> bif d.2.1 != 0 then some (0,d.2.1,d.2.2) else ai (λ(i:Int)=>oT b c h f d i) λg=> bif d.1==1 then g (i64.wrap (a+1)) else g a else ai (decide (e.op<=6)) λF=> ai (a==(List.length e.l:Int)) λE=> ai (F&&E) λD=> bif D then ( some (1,0,0)) else ( ai (decide (7<=e.op)) λC=> ai (decide (e.op<=12)) λB=> ai (C&&B) λA=> ai (a==(List.length e.l:Int)) λz=> ai (A&&z) λy=> ai (e.op==13) λx=> ai (y||x) λw=> ai (e.op==14) λv=> ai (w||v) λu=> bif u then ( some (2,0,0)) else ( ai (decide (15<=e.op)) λt=> ai (decide (e.op<=19)) λs=> ai (t&&s) λr=> ai (b==(List.length e.l:Int)) λq=> ai (r&&q) λp=> bif p then ( some (2,0,0)) else ( ai (decide (15<=e.op)) λo=> ai ((i64.wrap (b+c))==(List.length e.l:Int)) λn=> ai (o&&n) λm=> bif m then ( some (3,0,0)) else ( some (0,4,e.at_)))))
def oh(a:Ex->Ex)(c:Sh->(R:Type)->Option R->Option R)(b:Ex->Option kP)(e:Ex):Option kP:= ao (D9 a c b e) ax (0,0,0,0)
def xS:TK1->TK1:=λk1 s=>iT k1 s
theorem BQ(k1:TK1)(b:OK1 k1):(kL (xS k1)).Ok X0.P X0.Γ:=
 gE (.l ⟨[(false,5,ar),(false,6,ar),(false,7,ar),(false,8,ar)],[]⟩ (.c (.c .o (.j ⟨[(false,5,ar)],[]⟩ .o (.j ⟨[(false,6,ar)],[]⟩ .o .o))) .o)) call85 func85 (aq b az) az az λs=>(show _=oh sR jr k1 s from by kernel_rfl).trans ((congrArg (λa=>oh a jr k1 s) jk).trans ((congrArg (λd=>oh id d k1 s) lg).trans (by kernel_rfl)))
theorem DP:Ko xK:=(show xK=kL (ao (xS) ax) by kernel_rfl)▸tK (X:=X0) (E:=kL) ⟨call85,λ_ _ h=>nomatch h⟩ (BQ) ax
def Ee:aC:=⟨85,[(.dat .ex [some 292])],(.cQ [ar,ar,ar]),[],λs=>iu s⟩
def A6(j:Ex->Ex)(G:Sh->(R:Type)->Option R->Option R)(e:Ex)(f:EP->Option kP):Int×Int×Int×Int->Option kP:=λ⟨a,b,c,h⟩=> bif decide (h<(List.length e.l:Int)) then (idx e.l h).bind λk=> (iw (j k)).bind λd=> bif d.2.1 != 0 then some (0,d.2.1,d.2.2) else ai (λ(i:Int)=>sq b c h f d i) λg=> bif d.1==1 then g (i64.wrap (a+1)) else g a else ai (decide (e.op<=6)) λF=> ai (a==(List.length e.l:Int)) λE=> ai (F&&E) λD=> bif D then ( some (1,0,0)) else ( ai (decide (7<=e.op)) λC=> ai (decide (e.op<=12)) λB=> ai (C&&B) λA=> ai (a==(List.length e.l:Int)) λz=> ai (A&&z) λy=> ai (e.op==13) λx=> ai (y||x) λw=> ai (e.op==14) λv=> ai (w||v) λu=> bif u then ( some (2,0,0)) else ( ai (decide (15<=e.op)) λt=> ai (decide (e.op<=19)) λs=> ai (t&&s) λr=> ai (b==(List.length e.l:Int)) λq=> ai (r&&q) λp=> bif p then ( some (2,0,0)) else ( ai (decide (15<=e.op)) λo=> ai ((i64.wrap (b+c))==(List.length e.l:Int)) λn=> ai (o&&n) λm=> bif m then ( some (3,0,0)) else ( some (0,4,e.at_)))))
def mU(a:Ex->Ex)(b:Sh->(R:Type)->Option R->Option R)(e:Ex):Option kP:= ao (A6 a b e) ax (0,0,0,0)
theorem AM:Ko Ee:=
 gE (.l ⟨[(false,5,ar),(false,6,ar),(false,7,ar),(false,8,ar)],[]⟩ (.c (.c .o (.j ⟨[(false,5,ar)],[]⟩ .o (.j ⟨[(false,6,ar)],[]⟩ .o .o))) .o)) call85 func85 (aq DP az) az az λs=>(show _=mU sR jr s from by kernel_rfl).trans ((congrArg (λa=>mU a jr s) jk).trans ((congrArg (λb=>mU id b s) lg).trans (by kernel_rfl)))
def wm:aC:=⟨79,[WB,ar],RF,[(true,0,WX)],λs=>cD (d8 s).2 s.1 s.2.1 s.2.2.1 s.2.2.2.1 s.2.2.2.2.1 s.2.2.2.2.2.1 s.2.2.2.2.2.2.1 s.2.2.2.2.2.2.2.1 s.2.2.2.2.2.2.2.2.1⟩
def um(b:Ex->Ex)(e:Sh->(R:Type)->Option R->Option R)(a:fc)(d:Int)(c:Int):Option fc:= some ((b a.1),a.2.1,d,c)
def iO(p:Ex->Ex)(q:Sh->(R:Type)->Option R->Option R)(j:Int)(l:Q7)(at_:Int)(c:bq)(b:Q4)(h:Q1)(d:bq)(aS:Q5)(f:Int)(a:Int):Option fc:= bif f != 0 then some ((Ex.mk 0 0 0 []),at_,f,a) else (eY l at_ c).bind λe=> bif e.2.2.1 != 0 then (aJ e.2.2.1 e.2.2.2 l at_ c b h d aS f a).bind λo=> some ((Ex.mk 0 0 0 []),at_,o.1,o.2) else (iu (p e.1)).bind λi=> ai (λ(k:Int×Int)=>um p q e k.1 k.2) λg=> bif i.2.1 != 0 then (aJ i.2.1 i.2.2 l at_ c b h d aS f a).bind λn=> g (n.1,n.2) else bif i.1 != j then (aJ 4 e.1.at_ l at_ c b h d aS f a).bind λm=> g (m.1,m.2) else g (f,a)
theorem ui:Ko wm:=
 gE (.c .o (.r [0,40000] (.c .o (.s (.j ⟨[(true,0,Kw)],[]⟩ .o .o))))) call79 func79 (aq Am (aq cK (aq AM az))) az az λs=>(show _=iO sR jr (d8 s).2 s.1 s.2.1 s.2.2.1 s.2.2.2.1 s.2.2.2.2.1 s.2.2.2.2.2.1 s.2.2.2.2.2.2.1 s.2.2.2.2.2.2.2.1 s.2.2.2.2.2.2.2.2.1 from by kernel_rfl).trans ((congrArg (λa=>iO a jr (d8 s).2 s.1 s.2.1 s.2.2.1 s.2.2.2.1 s.2.2.2.2.1 s.2.2.2.2.2.1 s.2.2.2.2.2.2.1 s.2.2.2.2.2.2.2.1 s.2.2.2.2.2.2.2.2.1) jk).trans ((congrArg (λb=>iO id b (d8 s).2 s.1 s.2.1 s.2.2.1 s.2.2.2.1 s.2.2.2.2.1 s.2.2.2.2.2.1 s.2.2.2.2.2.2.1 s.2.2.2.2.2.2.2.1 s.2.2.2.2.2.2.2.2.1) lg).trans (by kernel_rfl)))
def yG:aC:=⟨51,[(.bx 130 0 true [(.own uj 132 false),ar,Qd,(.own kW 112 false),aaa,Qd,(.own A5 180 true),ar,ar])],gU,[(true,0,apm)],U9 ie⟩
def wh(k:Ex->Ex)(p:Sh->(R:Type)->Option R->Option R)(l:Q7)(e:bq)(b:Q4)(f:Q1)(d:bq)(aS:Q5)(j:QD)(c:Vp->Option tZ)(i:Int)(o:Int)(n:Int)(m:Int):Option tZ:= (bM [61] l m e b f d aS o n).bind λh=> (cD 1 l h.1 e b f d aS h.2.1 h.2.2).bind λa=> aM (aH (List.length j+List.length ([(i,(k a.1))]:List (Int×Ex))) 56)<| (bU 3 [44] l a.2.1 e b f d aS a.2.2.1 a.2.2.2).bind λg=> bif g then ( c ((i64.wrap (a.2.1+1)),a.2.2.1,a.2.2.2,(j++([(i,(k a.1))]:List (Int×Ex))),g)) else ( c (a.2.1,a.2.2.1,a.2.2.2,(j++([(i,(k a.1))]:List (Int×Ex))),g))
def wu(m:Ex->Ex)(o:Sh->(R:Type)->Option R->Option R)(l:Q7)(e:bq)(b:Q4)(h:Q1)(d:bq)(aS:Q5)(g:Int)(k:QD)(a:Vp->Option tZ)(j:Int)(f:Int)(n:Int):Option tZ:= ai (λ(i:Int)=>wh m o l e b h d aS k a j f n i) λc=> bif f==0 then c (i64.wrap (g+1)) else c g
def wq(v:Ex->Ex)(z:Sh->(R:Type)->Option R->Option R)(l:Q7)(d:bq)(b:Q4)(h:Q1)(c:bq)(aS:Q5)(r:Int)(q:Int)(p:Int)(m:QD)(g:Vp->Option tZ)(o:sO)(k:Int)(f:DI->Option tZ):Bool×Int->Option tZ:=λ⟨a,n⟩=> bif decide (n<(m.length:Int)) then bF (!a) (0,(Ex.mk 0 0 0 [])) (idx m n) λw=> ai (w.1==k) λy=> ai (a||y) λx=> f (x,(i64.wrap (n+1))) else ai (λ(s:Int×Int)=>wu v z l d b h c aS r m g k s.1 s.2) λe=> bif o.1 != 1 then (aJ 2 o.2.2.2 l r d b h c aS q p).bind λj=> e (j.1,j.2) else ai (decide (k<0)) λu=> ai (u||a) λt=> bif t then ( (aJ 3 o.2.2.2 l r d b h c aS q p).bind λi=> e (i.1,i.2)) else ( e (q,p))
def wy(i:Ex->Ex)(s:Sh->(R:Type)->Option R->Option R)(l:Q7)(b:bq)(c:Q4)(g:Q1)(a:bq)(aS:Q5)(m:fc)(e:Vp->Option tZ):Int×Int×Int×QD×Bool->Option tZ:=λ⟨k,j,o,h,f⟩=> ai (j==0) λr=> ai (f&&r) λq=> bif q then ( (idx l k).bind λn=> (cN b n.2.1).bind λp=> ao (wq i s l b c g a aS k j o h e n p) ax (false,0)) else ( (bM [59] l k b c g a aS j o).bind λd=> aM (aH (List.length aS+List.length ([((i64.wrap ((a.length:Int)-1)),(i m.1),h)]:List Q52)) 80)<| some (d.1,(aS++([((i64.wrap ((a.length:Int)-1)),(i m.1),h)]:List Q52)),d.2.1,d.2.2))
def wz(g:Ex->Ex)(j:Sh->(R:Type)->Option R->Option R)(l:Q7)(at_:Int)(c:bq)(a:Q4)(d:Q1)(b:bq)(aS:Q5)(i:Int)(h:Int):Option tZ:= (cD 2 l at_ c a d b aS i h).bind λe=> (bM [58] l e.2.1 c a d b aS e.2.2.1 e.2.2.2).bind λf=> ao (wy g j l c a d b aS e) ax (f.1,f.2.1,f.2.2,[],true)
def jS(k:Ex->Ex)(m:Sh->(R:Type)->Option R->Option R)(l:Q7)(at_:Int)(d:bq)(a:Q4)(f:Q1)(c:bq)(aS:Q5)(i:Int)(b:Int):Option tZ:= ai (λ(g:Int×Int)=>wz k m l at_ d a f c aS g.1 g.2) λe=> bif decide (256<=(aS.length:Int)) then (br l at_ d a f c aS i b).bind λj=> (aJ 9 j l at_ d a f c aS i b).bind λh=> e (h.1,h.2) else e (i,b)
theorem wA:Ko yG:=
 gE (.j ⟨[(true,0,Kw)],[]⟩ .o (.l ⟨[(true,0,WX),(true,2,(.bx 180 0 true [.same,.same,.same,.same,.same,(.own (.p bf .ex) 183 true)])),(false,3,.bool)],[]⟩ (.c (.r [] (.r [0] (.l ⟨[(false,6,.bool),(false,7,ar)],[]⟩ (.c .o (.j ⟨[(true,0,Kw)],[4]⟩ .o (.j ⟨[(true,0,akQ)],[]⟩ .o .o)))))) (.r [0,2] .o)))) call51 func51 (aq ui (aq jQ (aq px (aq gZ (aq cK (aq fY az)))))) az az λs=>(show _=jS sR jr s.1 s.2.1 s.2.2.1 s.2.2.2.1 s.2.2.2.2.1 s.2.2.2.2.2.1 s.2.2.2.2.2.2.1 s.2.2.2.2.2.2.2.1 s.2.2.2.2.2.2.2.2 from by kernel_rfl).trans ((congrArg (λa=>jS a jr s.1 s.2.1 s.2.2.1 s.2.2.2.1 s.2.2.2.2.1 s.2.2.2.2.2.1 s.2.2.2.2.2.2.1 s.2.2.2.2.2.2.2.1 s.2.2.2.2.2.2.2.2) jk).trans ((congrArg (λb=>jS id b s.1 s.2.1 s.2.2.1 s.2.2.2.1 s.2.2.2.2.1 s.2.2.2.2.2.1 s.2.2.2.2.2.2.1 s.2.2.2.2.2.2.2.1 s.2.2.2.2.2.2.2.2) lg).trans (by kernel_rfl)))
def AF:aC:=⟨75,[WB],ar,[(true,0,WX)],U9 dN⟩
theorem xn:Ko AF:=
 aG (.s (.s (.j ⟨[(true,0,akQ)],[]⟩ .o (.r [] (.j ⟨[(true,0,Kw)],[]⟩ .o .o))))) call75 func75 (aq gZ (aq cK az))
def GF:aC:=⟨76,[jz],.bool,[],λs=>mK s⟩
theorem Dl:Ko GF:=
 aG (.c .o (.l ⟨[(false,3,ar)],[]⟩ .o)) call76 func76 az
def xV:aC:=⟨48,[(.bx 130 0 true [(.own uj 132 false),ar,(.own .s 9 true),(.own kW 112 true),kZ,Qd,(.own A5 180 false),ar,ar])],gU,[(true,0,api)],U9 gJ⟩
theorem vd:Ko xV:=
 aG (.s (.s (.s (.s (.s (.s (.s (.s (.j ⟨[(true,0,Kw)],[]⟩ .o (.r [0] .o)))))))))) call48 func48 (aq ph (aq fY (aq xn (aq jQ (aq Dl (aq cK az))))))
def GO:aC:=⟨26,[.str],(.cQ [alE,ar,ar]),[],λs=>fk s⟩
theorem CN:Ko GO:=
 aG (.c .o (.l ⟨[(true,8,(.bx 130 0 true [.same,ar,(.own .s 9 true),(.own kW 112 true),kZ,(.own .s 9 true),(.own A5 180 true),ar,ar]))],[]⟩ (.c (.s (.s (.j ⟨[(true,8,Kw)],[]⟩ .o (.j ⟨[(true,8,akQ)],[]⟩ .o (.j ⟨[(true,8,api)],[]⟩ .o (.c (.l ⟨[(true,8,apm),(false,12,.bool)],[]⟩ .o) .o)))))) (.j ⟨[(true,8,Kw)],[]⟩ .o (.c (.r [2] .o) .o))))) call26 func26 (aq BH (aq gZ (aq ph (aq jQ (aq wA (aq vd (aq fY (aq cK az))))))))
def JZ:aC:=⟨12,[.str],(.cQ [alE,.bool]),[],λs=>lZ s⟩
theorem wa:Ko JZ:=
 aG .o call12 func12 (aq CN az)
def MM:aC:=⟨62,[(.dat kW [])],.bool,[],λs=>rR s⟩
theorem Ie:Ko MM:=
 aG .o call62 func62 az
def Lp:aC:=⟨61,[jz,(.fn 62 [] [])],(.own .bo 4 true),[],λs=>pR s⟩
theorem GX:Ko Lp:=
 aG (.l ⟨[(true,5,(.own .bo 4 true)),(false,13,ar)],[]⟩ .o) call61 func61 (aq Ie az)
def Du:aC:=⟨86,[(.sli .bo),.bool],ar,[],U2 n3⟩
theorem Aj:Ko Du:=
 aG (.l ⟨[(false,8,ar)],[]⟩ .o) call86 func86 az
def AH:aC:=⟨60,[(.sli .bo),.bool],.bool,[],U2 iI⟩
theorem xr:Ko AH:=
 aG .o call60 func60 (aq Aj az)
def SV:aC:=⟨36,[jz],.bool,[],λs=>ss s⟩
theorem Bj:Ko SV:=
 aG .o call36 func36 (aq GX (aq xr az))
def uz:aC:=⟨37,[jz],(.own kW 112 true),[],λs=>cG s⟩
def uq(s:Q4):Option Q4:= yk s ( some []) ( aM (aH (List.length ([]:List pw)+List.length s) 16)<| some (([]:List pw)++s))
theorem jW:Ko uz:=
 gE .o call37 func37 az az az λs=>(show _=uq s from by kernel_rfl).trans ny
def VT:aC:=⟨22,[rB,ve],(.cQ [(.own kW 112 true),ar]),[],U2 uG⟩
theorem Oo:Ko VT:=
 aG (.c .o (.r [40000] .o)) call22 func22 (aq Bj (aq jW az))
def VU:aC:=⟨38,[],(.sli .n),[],λ_=>ct⟩
theorem DE:Ko VU:=
 aG .o call38 func38 az
def Nu:aC:=⟨166,[ar],(.cQ [(.dat gq [some 149,some 7]),ar]),[],λs=>nr s⟩
theorem yD:Ko Nu:=
 aG .o call166 func166 az
def aee:aC:=⟨161,[ar],(.cQ [(.dat (.p gq lA) [some 149,some 7,some 11]),ar]),[],λs=>IS s⟩
theorem VK:Ko aee:=
 aG .o call161 func161 (aq yD az)
def JD:aC:=⟨155,[oH,ou,Oe],(.cQ [(.dat QE [none,some 149,some 7,some 11,none,none,none,none,none,none,none,none,none,none,none,none,none,none,none]),ar]),[],U3 jj⟩
theorem Ft:Ko JD:=
 aG .o call155 func155 (aq VK az)
def IT:aC:=⟨201,[jz,ar],(.cQ [(.dat aaf [some 147,some 149,some 7,some 11]),ar]),[],U2 HV⟩
def VA(f:Nat)(s:Q4)(most:Int)(e:(Q6×Int))(a:((List Q6)×Int)->Option (xZ×Int)):(List Q6)×Int->Option (xZ×Int):=λ⟨b,c⟩=> bif decide (c<(i64.wrap (Int.tdiv (i64.wrap ((i64.wrap ((s.length:Int)+2))-1)) 2))) then (nr most).bind λd=> aM (aH (List.length b+List.length ([d.1]:List Q6)) 56)<| a ((b++([d.1]:List Q6)),(i64.wrap (c+1))) else some ((b,e.1,[]),0)
def aeu(fl:Nat)(s:Q4)(most:Int):Option (xZ×Int):= (nr most).bind λa=> bif a.2 != 0 then some (([],(0,[],[]),[]),a.2) else ao (VA fl s most a) fl ([],0)
theorem RX(fl:Nat)(s:fy (pJ IT.ps)):Zp { X0 with fl:=fl } [Nu] [] [] (.c .o (.l ⟨[(true,4,ady),(true,8,adK),(false,27,ar)],[]⟩ .o)) Tryz.f201 IT s=aeu fl s.1 s.2:=by kernel_rfl
theorem V3:Ko IT:=
 gE (.c .o (.l ⟨[(true,4,ady),(true,8,adK),(false,27,ar)],[]⟩ .o)) call201 func201 (aq yD az) az az λs=>(RX ax s).trans (by kernel_rfl)
def HX:aC:=⟨195,[oH,ou,Oe],(.cQ [(.dat QE [none,none,none,none,some 147,some 149,some 7,some 11,none,none,none,none,none,none,none,none,none,none,none]),ar]),[],U3 iB⟩
theorem DV:Ko HX:=
 aG .o call195 func195 (aq V3 az)
def aa2:aC:=⟨223,[ar],(.cQ [(.dat gq [some 149,some 7]),ar]),[],λs=>JY s⟩
theorem RW:Ko aa2:=
 aG .o call223 func223 (aq yD az)
def M9:aC:=⟨224,[ar],ar,[],λs=>vP s⟩
def NO:TK2->TK2:=λa s=>rn a s
theorem Ox(a:TK2)(b:OK2 a):(wZ (NO a)).Ok X0.P X0.Γ:=
 aG .o call224 func224 (aq b az)
theorem yR:Ko M9:=(show M9=wZ (ao (NO) ax) by kernel_rfl)▸tK (X:=X0) (E:=wZ) ⟨call224,λ_ _ h=>nomatch h⟩ (Ox) ax
def adE:aC:=⟨219,[jz,ar],(.cQ [(.dat Z9 [some 541,some 11]),ar]),[],U2 IN⟩
theorem VY:Ko adE:=
 aG (.c .o (.r [30000,20006] (.l ⟨[(true,4,(.bx 82 0 true [.same,.same])),(true,8,(.bx 82 0 true [(.own gq 270 true),.same])),(false,23,ar)],[]⟩ .o))) call219 func219 (aq RW (aq yR az))
def HB:aC:=⟨213,[oH,ou,Oe],(.cQ [(.dat QE [none,none,none,none,none,none,none,none,some 541,some 11,none,none,none,none,none,none,none,none,none]),ar]),[],U3 ir⟩
theorem DX:Ko HB:=
 aG .o call213 func213 (aq VY az)
def aa6:aC:=⟨185,[Hq],ar,[],λs=>Af s⟩
theorem Gz:Ko aa6:=
 aG (.l ⟨[(false,0,Hq),(false,3,ar)],[]⟩ .o) call185 func185 az
def Le:aC:=⟨177,[(.dat kW [])],ar,[],λs=>jT s⟩
theorem Gi:Ko Le:=
 aG .o call177 func177 (aq Gz az)
def M3:aC:=⟨176,[jz,(.fn 177 [] [])],kZ,[],λs=>nT s⟩
theorem wR:Ko M3:=
 aG (.l ⟨[(true,5,kZ),(false,13,ar)],[]⟩ .o) call176 func176 (aq Gi az)
def VI:aC:=⟨188,[jz],ar,[],λs=>Aa s⟩
theorem Pe:Ko VI:=
 aG (.l ⟨[(false,3,ar),(false,9,ar)],[]⟩ .o) call188 func188 (aq wR az)
def Ui:aC:=⟨179,[jz],ar,[],λs=>oU s⟩
theorem Bo:Ko Ui:=
 aG .o call179 func179 (aq Pe az)
def ahW:aC:=⟨246,[ar],(.cQ [(.dat yf [some 547,some 7]),ar]),[],λs=>Mw s⟩
theorem WK:Ko ahW:=
 aG .o call246 func246 az
def JE:aC:=⟨240,[oH,ou,Oe],HK,[],U3 gF⟩
theorem FH:Ko JE:=
 aG (.c .o (.l ⟨[(true,4,(.bx 91 0 true [.same,.same,.same,.same,.same,.same,.same,.same,.same,.same,.same,.same,.same,.same,ar,(.sli tf),ar,ar,aY,ar,(.sli tf),ar,ar,aY,ar,(.sli tf),ar,ar,aY,.same,.same,.same,.same,.same,.same])),(true,6,(.bx 91 0 true [.same,.same,.same,.same,.same,.same,.same,.same,.same,.same,.same,.same,.same,.same,.same,.same,.same,.same,.same,.same,.same,.same,.same,.same,.same,.same,.same,.same,.same,.same,.same,.same,.same,.same,.same])),(false,18,ar)],[]⟩ .o)) call240 func240 (aq Bo (aq WK az))
def aft:aC:=⟨280,[ar,ar,Hq],(.cQ [(.dat FG [some 11,some 11,some 11]),ar]),[],U3 XJ⟩
theorem VL:Ko aft:=
 aG (.c .o (.l ⟨[(true,6,(.bx 89 0 true [.same,.same,.same,.same,.same,.same])),(true,8,(.bx 89 0 true [.same,.same,.same,jd,jd,jd])),(false,29,ar)],[]⟩ .o)) call280 func280 az
def JI:aC:=⟨274,[oH,ou,Oe],HK,[],U3 oG⟩
theorem Fw:Ko JI:=
 aG .o call274 func274 (aq VL az)
def aau:aC:=⟨23,[jz,Oe],HK,[],U2 jn⟩
theorem RT:Ko aau:=
 aG (.r [] (.c .o (.r [3,40000] .o))) call23 func23 (aq Bj (aq DE (aq jW (aq Ft (aq DV (aq DX (aq FH (aq Fw az))))))))
def aaW:aC:=⟨63,[ve,aY,aY],(.fn 87 [] [ads,(.bx 26 0 true [(.sli (.l .ex)),(.sli rQ),aY,(.sli rQ)]),ads]),[],U3 Ax⟩
theorem GS:Ko aaW:=
 aG .o call63 func63 az
def Xd:aC:=⟨109,[.bool],ar,[],λs=>wJ s⟩
theorem PV:Ko Xd:=
 aG .o call109 func109 az
def Nh:aC:=⟨102,[Og,aY],ar,[],U2 pn⟩
def R7(s:Ex->Ex)(z:Sh->(R:Type)->Option R->Option R)(y:(Ex×Q1)->zf)(e:Ex)(q:Q1)(b:kP->zf):Int×Int×Int->zf:=λ⟨a,c,d⟩=> bif decide (d<(List.length (aT e.l 0 (min (List.length e.l:Int) 2)):Int)) then (idx (aT e.l 0 (min (List.length e.l:Int) 2)) d).bind λu=> (y ((s u),q)).bind λk=> bif d==0 then b (k,c,(i64.wrap (d+1))) else bif d==1 then b (a,k,(i64.wrap (d+1))) else none else ai (λ(j:Int×Int×Bool)=>Dg j.1 j.2.1 j.2.2) λp=> ai (λ(i:Int×Int×Bool)=>CR i.1 i.2.1 i.2.2) λo=> ai (λ(h:Int×Int×Bool)=>DC h.1 h.2.1 h.2.2) λg=> bif e.op==1 then some e.n else bif e.op==2 then ai (decide (e.n<0)) λBf=> ai (decide ((q.length:Int)<=e.n)) λw=> ai (Bf||w) λv=> bif v then ( some 0) else ( (idx q e.n).bind λt=> some t) else bif e.op==3 then some (i64.wrap (a+c)) else bif e.op==5 then some (i64.wrap (a*c)) else bif e.op==6 then some (i64.wrap (0-a)) else bif e.op==4 then some (i64.wrap (a-c)) else bif e.op==8 then g (a,c,true) else ai (λ(x:Unit)=>Dv e a c p o) λm=> ai (λ(r:Bool)=>CG a c g m r) λf=> bif e.op==7 then f (e.op==7) else f (e.op==19)
def AS(a:Ex->Ex)(d:Sh->(R:Type)->Option R->Option R)(c:(Ex×Q1)->zf)(e:Ex)(b:Q1):zf:= aM (cR 0 (min (List.length e.l:Int) 2) (List.length e.l))<| ao (R7 a d c e b) ax (0,0,0)
def M6:TK3->TK3:=λa s=>uP a s.1 s.2
theorem N9(a:TK3)(d:OK3 a):(xL (M6 a)).Ok X0.P X0.Γ:=
 gE (.l ⟨[(true,5,(.bx 215 0 true [ar,ar])),(false,19,ar)],[]⟩ (.c .o (.r [] (.s (.s (.s (.s (.s (.s (.s (.s (.j ⟨[(false,8,ar),(false,9,ar),(false,10,.bool)],[2]⟩ (.s (.j ⟨[(false,8,ar),(false,9,ar),(false,10,.bool)],[2]⟩ (.s (.j ⟨[(false,8,ar),(false,9,ar),(false,10,.bool)],[2]⟩ (.c .o (.c .o (.c .o (.c .o (.c .o (.c .o (.c .o (.j ⟨[],[]⟩ (.j ⟨[(false,50,.bool)],[]⟩ .o .o) .o)))))))) .o)) .o)) .o)))))))))))) call102 func102 (aq d (aq PV az)) az az λs=>(show _=AS sR jr a s.1 s.2 from by kernel_rfl).trans ((congrArg (λb=>AS b jr a s.1 s.2) jk).trans ((congrArg (λe=>AS id e a s.1 s.2) lg).trans (by kernel_rfl)))
theorem yQ:Ko Nh:=(show Nh=xL (ao (M6) ax) by kernel_rfl)▸tK (X:=X0) (E:=xL) ⟨call102,λ_ _ h=>nomatch h⟩ (N9) ax
def VP:aC:=⟨101,[Og,X8],.bool,[],U2 y4⟩
def AY(a:Ex->Ex)(c:Sh->(R:Type)->Option R->Option R)(e:Ex)(x:Q1):zc:= (pn (a e) x).bind λb=> some (b != 1)
theorem OD:Ko VP:=
 gE .o call101 func101 (aq yQ az) az az λs=>(show _=AY sR jr s.1 s.2 from by kernel_rfl).trans ((congrArg (λa=>AY a jr s.1 s.2) jk).trans ((congrArg (λb=>AY id b s.1 s.2) lg).trans (by kernel_rfl)))
def sJ:aC:=⟨108,[(.sli .ex),(.fn 101 [] [X8])],ar,[],U2 gI⟩
def p9(e:Ex->Ex)(g:Sh->(R:Type)->Option R->Option R)(s:(List Ex))(c:Q1)(a:Int->zf)(b:Int):zf:= bif decide (b<(s.length:Int)) then (idx s b).bind λf=> (y4 (e f) c).bind λd=> bif d then ( some b) else ( a (i64.wrap (b+1))) else some (-1)
def fU(a:Ex->Ex)(b:Sh->(R:Type)->Option R->Option R)(s:(List Ex))(c:Q1):zf:= ao (p9 a b s c) ax 0
theorem ra:Ko sJ:=
 gE (.l ⟨[(false,8,ar)],[]⟩ .o) call108 func108 (aq OD az) az az λs=>(show _=fU sR jr s.1 s.2 from by kernel_rfl).trans ((congrArg (λa=>fU a jr s.1 s.2) jk).trans ((congrArg (λb=>fU id b s.1 s.2) lg).trans (by kernel_rfl)))
def rh:aC:=⟨100,[(.sli .ex),(.fn 101 [] [X8])],.bool,[],U2 fG⟩
theorem oK:Ko rh:=
 aG .o call100 func100 (aq ra az)
def afd:aC:=⟨88,[ve,ar,aY],.bool,[],U3 Dx⟩
theorem Jt:Ko afd:=
 aG .o call88 func88 (aq oK az)
def FN:aC:=⟨89,[aY],kZ,[],λs=>bw s⟩
def Ff(s:Q1):Option Q1:= yk s ( some []) ( aM (aH (List.length ([]:zn)+List.length s) 8)<| some (([]:zn)++s))
theorem dP:Ko FN:=
 gE .o call89 func89 az az az λs=>(show _=Ff s from by kernel_rfl).trans ny
def wB:aC:=⟨103,[jd,ar,ar],jd,[],U3 jx⟩
theorem uy:Ko wB:=
 aG (.s (.s (.j ⟨[(false,0,jd),(false,7,Hq)],[]⟩ .o .o))) call103 func103 (aq ago az)
def F5:aC:=⟨90,[jd,ar,ar],jd,[],U3 lC⟩
theorem BV:Ko F5:=
 aG .o call90 func90 (aq uy az)
def Uf:aC:=⟨64,[Yb,aY],gU,[(true,0,Yb)],λs=>sa s.2.2 s.1 s.2.1⟩
theorem Bi:Ko Uf:=
 aG (.j ⟨[(true,0,(.bx 161 0 true [.same,(.mp .s .bo true)]))],[]⟩ .o (.l ⟨[(true,0,(.bx 161 0 true [.same,.same])),(false,4,jd),(false,18,ar)],[]⟩ (.c .o (.r [] (.c (.r [0] .o) .o))))) call64 func64 (aq BV az)
def aaQ:aC:=⟨39,[rB,ve],rz,[],U2 Az⟩
theorem Zc:(⟨87,Tryz.f87⟩:ov).Ok X0.P:=⟨call87,func87⟩
theorem Sv:Ko aaQ:=
 gE (.c (.c (.l ⟨[(false,9,ar),(true,10005,Yb)],[]⟩ (.c (.n 4 (.c .o .o)) .o)) .o) (.r [70000,5] .o)) call39 func39 (aq GS (aq Jt (aq dP (aq Bi az)))) az (aq Zc az) λ_=>by kernel_rfl
def MT:aC:=⟨104,[(.dat kW []),ar],.bool,[],U2 kF⟩
theorem xQ:Ko MT:=
 aG .o call104 func104 az
def Ng:aC:=⟨91,[jz,aY],ar,[],U2 fj⟩
theorem iE:Ko Ng:=
 aG (.c .o (.l ⟨[(false,14,ar)],[]⟩ .o)) call91 func91 (aq xQ az)
def acY:aC:=⟨92,[ou],.ifn,[],λs=>dF s⟩
theorem Ba:Ko acY:=
 aG (.r [1] .o) call92 func92 (aq DE az)
def VO:aC:=⟨181,[ez],jd,[],λs=>uM s⟩
def VV(b:Q1):Option Q1:= yk b ( some []) ( aM (aH (List.length ([]:zn)+List.length b) 1)<| some (([]:zn)++b))
theorem CB:Ko VO:=
 gE .o call181 func181 az az az λs=>(show _=VV s from by kernel_rfl).trans ny
def afx:aC:=⟨186,[(.dat u6 [none])],adm,[],λs=>SJ s⟩
theorem YD:Ko afx:=
 aG .o call186 func186 (aq CB az)
def Sb:aC:=⟨187,[adm,.bool],gU,[(true,0,adm)],λs=>xp s.2.2 s.1 s.2.1⟩
theorem M4:Ko Sb:=
 aG (.j ⟨[(true,0,(.bx 317 0 true [jd,.same]))],[]⟩ .o (.j ⟨[(true,0,(.bx 317 0 true [jd,.same]))],[]⟩ (.c (.r [0] .o) .o) .o)) call187 func187 az
def aeT:aC:=⟨178,[(.dat u6 [none]),Hq,ar],(.cQ [(.dat u6 [none]),ar]),[],U3 IB⟩
theorem VJ:Ko aeT:=
 aG (.c .o (.c .o (.l ⟨[(true,6,(.bx 296 0 true [.same,.same])),(true,8,adm),(false,9,ar)],[]⟩ (.c (.r [8] .o) .o)))) call178 func178 (aq Gz (aq YD (aq M4 az)))
def Em:aC:=⟨169,[jz,aY],(.cQ [jd,ar]),[],U2 kU⟩
theorem sH:Ko Em:=
 aG (.c .o (.l ⟨[(true,7,(.bx 296 0 true [ez,ar])),(false,20,ar)],[]⟩ (.c (.r [7] .o) .o))) call169 func169 (aq iE (aq wR (aq VJ (aq Bo az))))
def aaO:aC:=⟨163,[ou,aY],ez,[],U2 eC⟩
theorem eZ:Ko aaO:=
 aG .o call163 func163 (aq sH az)
def V7:aC:=⟨192,[Pg],gU,[(true,0,Pg)],λs=>M7 s⟩
theorem OP:Ko V7:=
 aG .o call192 func192 az
def V0:aC:=⟨193,[Pg],gU,[(true,0,Pg)],λs=>Nl s⟩
theorem OV:Ko V0:=
 aG .o call193 func193 az
def VB:aC:=⟨194,[Pg],gU,[(true,0,Pg)],λs=>NF s⟩
theorem Pj:Ko VB:=
 aG .o call194 func194 az
def aec:aC:=⟨190,[ez,Hq],Hq,[],U2 Dz⟩
theorem AN:Ko aec:=
 aG (.l ⟨[(true,5,Pg),(false,15,ar)],[]⟩ (.c .o (.n 50 .o))) call190 func190 (aq OP (aq OV (aq Pj az)))
def aa5:aC:=⟨189,[Hq,ar],ar,[],U2 vO⟩
theorem yr:Ko aa5:=
 aG .o call189 func189 az
def VF:aC:=⟨191,[ez,ez],.bool,[],U2 uS⟩
theorem C5:Ko VF:=
 aG .o call191 func191 az
def MP:aC:=⟨183,[Fb,ez],ar,[],U2 fD⟩
theorem wW:Ko MP:=
 aG (.n 0 (.j ⟨[(false,5,ar)],[]⟩ .o .o)) call183 func183 (aq AN (aq yr (aq C5 az)))
def ML:aC:=⟨184,[Fb,ez],Pf,[],U2 xP⟩
theorem H8:Ko ML:=
 aG .o call184 func184 (aq wW az)
def Y1:aC:=⟨175,[Fb,ez],Pf,[],U2 dK⟩
theorem nL:Ko Y1:=
 aG .o call175 func175 (aq H8 az)
def Im:aC:=⟨183,[(.dat gq [some 148,some 6]),ez],ar,[],U2 nu⟩
theorem DN:Ko Im:=
 aG (.n 0 (.j ⟨[(false,5,ar)],[]⟩ .o .o)) call183 func183 (aq AN (aq yr (aq C5 az)))
def Ks:aC:=⟨182,[(.bx 306 0 true [ar,(.own lA 74 true),aY]),ar],gU,[(true,0,(.bx 306 0 true [.same,(.own lA 74 true),aY]))],λs=>pT s.2.2.2 s.1 s.2.1 s.2.2.1⟩
theorem GL:Ko Ks:=
 aG (.l ⟨[(true,0,(.bx 306 0 true [.same,(.own lA 74 true),kZ])),(false,18,(.slr 1)),(false,20,ar)],[]⟩ (.c (.r [0] .o) .o)) call182 func182 (aq DN az)
def Gq:aC:=⟨170,[Fb,ez],(.cQ [Fb,ar,.bool,ar]),[],U2 cg⟩
theorem uh:Ko Gq:=
 aG (.c .o (.c .o (.s (.s (.j ⟨[(true,11,(.bx 306 0 true [.same,(.own lA 74 true),aY]))],[2]⟩ (.c .o (.r [11] .o)) .o))))) call170 func170 (aq nL (aq CB (aq GL (aq dP (aq wW az)))))
def Wb:aC:=⟨164,[Oz,ez],(.cQ [Oz,.bool,ar]),[],U2 yU⟩
theorem N5:Ko Wb:=
 aG (.c .o (.r [4,40000] .o)) call164 func164 (aq uh az)
def Hx:aC:=⟨157,[oH,ou,aY],Sg,[],U3 kx⟩
theorem DY:Ko Hx:=
 aG (.r [40000] .o) call157 func157 (aq eZ (aq N5 az))
def Jq:aC:=⟨209,[jz,aY],(.fn 212 [] [(.bx 32 0 true [jz]),ads]),[],U2 uH⟩
theorem Cl:Ko Jq:=
 aG .o call209 func209 az
def Jv:aC:=⟨210,[jd,aY],jd,[],U2 uI⟩
theorem Cp:Ko Jv:=
 aG (.l ⟨[(false,0,jd),(false,10,ar)],[]⟩ (.c (.l ⟨[(false,0,jd),(false,14,ar)],[]⟩ .o) .o)) call210 func210 az
def ND:aC:=⟨206,[K9,jz,aY],ar,[],U3 sU⟩
theorem UY:(⟨212,Tryz.f212⟩:ov).Ok X0.P:=⟨call212,func212⟩
theorem He:Ko ND:=
 gE (.c (.c (.l ⟨[(false,4,ar),(true,10006,(.bx 3 0 true [ar])),(true,10007,(.bx 74 0 true [jd]))],[]⟩ .o) .o) (.r [70000,6,7] .o)) call206 func206 (aq Cl (aq sH (aq nL (aq Cp az)))) az (aq UY az) λ_=>by kernel_rfl
def W2:aC:=⟨211,[Fb],ar,[],λs=>xy s⟩
theorem ED:Ko W2:=
 aG .o call211 func211 az
def Ny:aC:=⟨207,[K9],ar,[],λs=>AE s⟩
theorem Sz:Ko Ny:=
 aG .o call207 func207 (aq ED az)
def lj:aC:=⟨208,[(.sli gq)],(.own gq 73 true),[],λs=>dv s⟩
def uv(s:(List Q6)):Option (List Q6):= yk s ( some []) ( aM (aH (List.length ([]:List Q6)+List.length s) 56)<| some (([]:List Q6)++s))
theorem rY:Ko lj:=
 gE .o call208 func208 az az az λs=>(show _=uv s from by kernel_rfl).trans ny
def A7:aC:=⟨203,[K9,jz,aY],(.cQ [K9,.bool,ar]),[],U3 yX⟩
def O1(n:Nat)(c:xZ)(o:Q4)(b:(Q4×Q1))(e:(Int×(List Q6)×Q1)->Option Q51):Int×(List Q6)×Q1->Option Q51:=λ⟨a,d,j⟩=> bif decide ((i64.wrap (a*2))<(b.1.length:Int)) then aM (cR (i64.wrap (a*2)) (min (b.1.length:Int) (i64.wrap ((i64.wrap (a+1))*2))) (List.length b.1))<| aM (cR (i64.wrap (a*2)) (min (b.1.length:Int) (i64.wrap ((i64.wrap (a+1))*2))) (List.length b.2))<| (kU (aT b.1 (i64.wrap (a*2)) (min (b.1.length:Int) (i64.wrap ((i64.wrap (a+1))*2)))) (aT b.2 (i64.wrap (a*2)) (min (b.1.length:Int) (i64.wrap ((i64.wrap (a+1))*2))))).bind λk=> (idx d a).bind λl=> (cg l k.1).bind λf=> (uI j ([f.2.1]:zn)).bind λg=> (idx d a).bind λm=> bif !true then (cg c.2.1 g).bind λi=> aM (kg 0 (c.2.2.length:Int) (c.2.2.length:Int) (List.length c.2.2)&&((c.2.2.length:Int)==(c.2.2.length:Int)))<| aM (aH (List.length (aT c.2.2 0 (c.2.2.length:Int))+List.length ([0]:zn)) 1)<| some (((List.set d (Int.toNat a) f.1),i.1,((aT c.2.2 0 (c.2.2.length:Int))++([0]:zn))),true,0) else e ((i64.wrap (a+1)),(List.set d (Int.toNat a) f.1),g) else (cg c.2.1 j).bind λh=> aM (kg 0 (c.2.2.length:Int) (c.2.2.length:Int) (List.length c.2.2)&&((c.2.2.length:Int)==(c.2.2.length:Int)))<| aM (aH (List.length (aT c.2.2 0 (c.2.2.length:Int))+List.length ([0]:zn)) 1)<| some ((d,h.1,((aT c.2.2 0 (c.2.2.length:Int))++([0]:zn))),true,0)
def VS(fl:Nat)(c:xZ)(s:Q4)(a:Q1):Option Q51:= (fj s a).bind λb=> bif b != 0 then some (c,false,b) else (sU c s a).bind λg=> bif decide (0<=g) then some (c,false,0) else (AE c).bind λf=> bif decide (c.2.1.1<=f) then some (c,false,7) else (dv c.1).bind λe=> (uH s a).bind λd=> ao (O1 fl c s d) fl (0,e,[])
theorem MZ(fl:Nat)(s:fy (pJ A7.ps)):Zp { X0 with fl:=fl } [Ng,ND,Ny,lj,Jq,Em,Gq,Jv] [] [⟨212,Tryz.f212⟩] (.c .o (.c .o (.r [] (.c .o (.c (.c (.l ⟨[(false,4,ar),(true,10003,adK),(true,10006,ady),(true,10010,(.bx 74 0 true [jd]))],[]⟩ .o) (.r [10,3] .o)) (.r [70000,3,6,10] .o)))))) Tryz.f203 A7 s=VS fl s.1 s.2.1 s.2.2:=by kernel_rfl
theorem NY:Ko A7:=
 gE (.c .o (.c .o (.r [] (.c .o (.c (.c (.l ⟨[(false,4,ar),(true,10003,adK),(true,10006,ady),(true,10010,(.bx 74 0 true [jd]))],[]⟩ .o) (.r [10,3] .o)) (.r [70000,3,6,10] .o)))))) call203 func203 (aq iE (aq He (aq Sz (aq rY (aq Cl (aq sH (aq uh (aq Cp az)))))))) az (aq UY az) λs=>(MZ ax s).trans (by kernel_rfl)
def GC:aC:=⟨197,[oH,ou,aY],Sg,[],U3 jK⟩
theorem CS:Ko GC:=
 aG .o call197 func197 (aq NY az)
def Uk:aC:=⟨231,[jz,aY],(.own (.i .u32) 237 true),[],U2 xA⟩
theorem Bg:Ko Uk:=
 aG (.l ⟨[(false,5,(.own (.i .u32) 237 true)),(false,10,ar)],[]⟩ .o) call231 func231 az
def aeR:aC:=⟨238,[rG,rG],(.dat SU []),[],U2 H6⟩
theorem Jm:Ko aeR:=
 aG (.l ⟨[(true,4,(.bx 365 0 true [.same,.same,.same,.same,.same,.same,.same,.same])),(true,5,(.bx 365 0 true [me,me,me,me,me,me,me,me])),(false,7,ar)],[]⟩ (.c (.r [5] .o) .o)) call238 func238 az
def Pp:aC:=⟨239,[(.dat SU [])],ez,[],λs=>tD s⟩
theorem xY:Ko Pp:=
 aG .o call239 func239 az
def XW:aC:=⟨237,[Fb,rG,rG],Pf,[],U3 BS⟩
theorem Qt:Ko XW:=
 aG .o call237 func237 (aq Jm (aq xY (aq nL az)))
def Ob:bX:=⟨233,[afm,ar,rG,rG],Kj,none,false,false,rG,[],λs=>oO s.2.1 s.2.2.1 s.2.2.2 s.1⟩
theorem x9:Jr Ob:=
 afb .o call233 func233 (aq Qt az)
def Cw:bX:=⟨236,[afm,ar,Um],Kj,none,false,false,rG,[],λs=>tH s.2.1 s.2.2 s.1⟩
def CI:TK4->TK4:=λa s=>mo a s.1 s.2.1 s.2.2
theorem Gx(a:TK4)(b:OK4 a):(oD (CI a)).Ok X0.P X0.Γ:=
 Lh (.c .o (.r [0] .o)) call236 func236 (aq yR az) (aq b (aq x9 az)) az λ_=>by kernel_rfl
theorem JL:Jr Cw:=(show Cw=oD (ao (CI) ax) by kernel_rfl)▸W5 (X:=X0) (E:=oD) ⟨call236,λ_ _ h=>nomatch h⟩ (Gx) ax
def MU:bX:=⟨230,[afm,Um],Kj,none,false,false,rG,[],λs=>nC s.2 s.1⟩
theorem Iz:Jr MU:=
 Lh (.c (.r [0] .o) .o) call230 func230 az (aq x9 (aq JL az)) az λ_=>by kernel_rfl
def aaU:aC:=⟨226,[LS,jz,aY],Pf,[],U3 vR⟩
theorem ahj:(⟨232,Tryz.f232⟩:ov).Ok X0.P:=⟨call232,func232⟩
theorem GV:Ko aaU:=
 gE .o call226 func226 (aq Bg az) (aq Iz az) (aq ahj az) λ_=>by kernel_rfl
def XQ:aC:=⟨234,[Fb],ar,[],λs=>IJ s⟩
theorem PS:Ko XQ:=
 aG .o call234 func234 (aq ED az)
def aaK:aC:=⟨227,[LS],ar,[],λs=>ES s⟩
theorem RG:Ko aaK:=
 aG .o call227 func227 (aq PS az)
def uw:aC:=⟨228,[(.sli gq)],(.own gq 270 true),[],λs=>eO s⟩
def ux(s:(List Q6)):Option (List Q6):= yk s ( some []) ( aM (aH (List.length ([]:List Q6)+List.length s) 56)<| some (([]:List Q6)++s))
theorem rZ:Ko uw:=
 gE .o call228 func228 az az az λs=>(show _=ux s from by kernel_rfl).trans ny
def SY:aC:=⟨235,[Fb,rG,rG],(.cQ [Fb,ar,.bool,ar]),[],U3 w6⟩
theorem MS:Ko SY:=
 aG (.r [40000] .o) call235 func235 (aq Jm (aq xY (aq uh az)))
def Kr:aC:=⟨229,[aeI,ar,rG,rG],rG,[(true,0,aeO)],λs=>mA s.2.1 s.2.2.1 s.2.2.2 s.1⟩
theorem v8:Ko Kr:=
 aG (.r [0] .o) call229 func229 (aq MS az)
def xX:aC:=⟨236,[aeI,ar,Um],rG,[(true,0,aeO)],λs=>uu s.2.1 s.2.2 s.1⟩
def yb:TK5->TK5:=λa s=>jM a s.1 s.2.1 s.2.2
theorem CK(a:TK5)(b:OK5 a):(lr (yb a)).Ok X0.P X0.Γ:=
 aG (.c .o (.r [0] .o)) call236 func236 (aq b (aq yR (aq v8 az)))
theorem FQ:Ko xX:=(show xX=lr (ao (yb) ax) by kernel_rfl)▸tK (X:=X0) (E:=lr) ⟨call236,λ_ _ h=>nomatch h⟩ (CK) ax
def HU:aC:=⟨230,[aeI,Um],rG,[(true,0,aeO)],λs=>nD s.2 s.1⟩
theorem Ea:Ko HU:=
 aG (.c (.r [0] .o) .o) call230 func230 (aq v8 (aq FQ az))
def VR:aC:=⟨221,[LS,jz,aY],(.cQ [LS,.bool,ar]),[],U3 Ad⟩
theorem OX:Ko VR:=
 aG (.c .o (.c .o (.r [] (.c .o (.r [6,40000] .o))))) call221 func221 (aq iE (aq GV (aq RG (aq rZ (aq Bg (aq Ea az))))))
def F9:aC:=⟨215,[oH,ou,aY],Sg,[],U3 jO⟩
theorem De:Ko F9:=
 aG .o call215 func215 (aq OX az)
def On:aC:=⟨263,[me],.bool,[],λs=>tO s⟩
theorem JM:Ko On:=
 aG .o call263 func263 az
def Lk:aC:=⟨257,[me,me],ar,[],U2 mw⟩
theorem vU:Ko Lk:=
 aG .o call257 func257 (aq JM az)
def aaC:aC:=⟨256,[(.dat mV []),me],ar,[],U2 Ay⟩
theorem SS:Ko aaC:=
 aG .o call256 func256 (aq vU az)
def mF:aC:=⟨255,[(.sli mV),me,(.fn 256 [] [])],Pf,[],U2 bC⟩
theorem fe:Ko mF:=
 aG (.l ⟨[(false,9,ar),(false,10,ar)],[]⟩ .o) call255 func255 (aq SS az)
def aiJ:aC:=⟨251,[Yc,ar,me],ar,[],U3 Ai⟩
theorem aaP:Ko aiJ:=
 aG .o call251 func251 (aq fe az)
def afU:aC:=⟨248,[Yc,ez],.bool,[],U2 oX⟩
theorem xE:Ko afU:=
 aG (.l ⟨[(false,5,ar),(false,12,ar)],[]⟩ .o) call248 func248 (aq aaP az)
def ae9:aC:=⟨249,[Yc],ar,[],λs=>Hp s⟩
theorem V2:Ko ae9:=
 aG .o call249 func249 az
def vr:aC:=⟨252,[(.sli tf)],(.own tf 273 true),[],λs=>dH s⟩
def u7(s:cB):Option cB:= yk s ( some []) ( aM (aH (List.length ([]:List (Q4×Int))+List.length s) 32)<| some (([]:List (Q4×Int))++s))
theorem tE:Ko vr:=
 gE .o call252 func252 az az az λs=>(show _=u7 s from by kernel_rfl).trans ny
def vu:aC:=⟨269,[(.sli mV),(.sli mV)],.bool,[],U2 fA⟩
theorem tq:Ko vu:=
 aG (.c .o (.l ⟨[(false,13,ar)],[]⟩ .o)) call269 func269 az
def Pw:aC:=⟨264,[(.bx 379 0 false [ar,(.own tf 273 false),ar,ar,aaa,(.mp bf .bo false)]),(.sli mV)],Pf,[],λs=>AR s.2.2.2.2.2.2 s.1 s.2.1 s.2.2.1 s.2.2.2.1 s.2.2.2.2.1 s.2.2.2.2.2.1⟩
theorem Ls:Ko Pw:=
 aG (.l ⟨[(false,14,ar)],[]⟩ .o) call264 func264 (aq tq az)
def IC:aC:=⟨296,[aaa],ar,[],λs=>kr s⟩
theorem tU:Ko IC:=
 aG .o call296 func296 az
def Hh:aC:=⟨298,[kZ,ar,ar],gU,[(true,0,kZ)],U3 gO⟩
theorem ml:Ko Hh:=
 aG (.r [0] .o) call298 func298 az
def Hm:aC:=⟨297,[aaa,ar,ar],.bool,[],U3 gP⟩
theorem sM:Ko Hm:=
 aG .o call297 func297 az
def Gj:aC:=⟨272,[Fe,ar,ar],.bool,[(true,0,Fe)],λs=>rE s.2.1 s.2.2 s.1⟩
theorem Cz:Ko Gj:=
 aG (.l ⟨[(true,0,Fe),(false,7,ar)],[]⟩ (.c .o (.s (.j ⟨[(false,9,ar)],[]⟩ .o .o)))) call272 func272 (aq sM (aq ml az))
def MV:aC:=⟨299,[adH],Kj,[(true,0,adH)],λs=>xm s⟩
theorem Il:Ko MV:=
 aG .o call299 func299 az
def HZ:aC:=⟨270,[Fe],Kj,[(true,0,Fe)],λs=>nM s⟩
theorem DZ:Ko HZ:=
 aG .o call270 func270 (aq tU (aq ml (aq Cz (aq Il az))))
def Ps:aC:=⟨265,[ajF],ar,[(true,0,XF)],U6 tF⟩
theorem JO:Ko Ps:=
 aG .o call265 func265 (aq DZ az)
def PZ:aC:=⟨258,[ajE,(.sli mV)],ar,[(true,0,ajd)],λs=>p7 s.2.2.2.2.2.2 s.1 s.2.1 s.2.2.1 s.2.2.2.1 s.2.2.2.2.1 s.2.2.2.2.2.1⟩
theorem JQ:Ko PZ:=
 aG (.c .o (.l ⟨[(true,0,(.bx 379 0 true [.same,(.own tf 273 true),.same,.same,.same,.same])),(false,35,ar)],[]⟩ (.c (.r [0] .o) .o))) call258 func258 (aq Ls (aq JO az))
def aaF:aC:=⟨251,[(.dat yf [some 546,some 6]),ar,me],ar,[],U3 KD⟩
theorem S1:Ko aaF:=
 aG .o call251 func251 (aq fe az)
def MX:aC:=⟨260,[(.dat mV []),me],ar,[],U2 xo⟩
theorem I7:Ko MX:=
 aG .o call260 func260 (aq vU az)
def ld:aC:=⟨255,[(.own mV 384 false),me,(.fn 260 [] [])],Pf,[],U2 cn⟩
theorem kl:Ko ld:=
 aG (.l ⟨[(false,9,ar),(false,10,ar)],[]⟩ .o) call255 func255 (aq I7 az)
def vl:aC:=⟨259,[(.sli mV)],(.own mV 384 true),[],λs=>fB s⟩
def vD(s:Q4):Option Q4:= yk s ( some []) ( aM (aH (List.length ([]:List pw)+List.length s) 16)<| some (([]:List pw)++s))
theorem tv:Ko vl:=
 gE .o call259 func259 az az az λs=>(show _=vD s from by kernel_rfl).trans ny
def GR:aC:=⟨253,[ajE,ar,ez],ar,[(true,0,ajd)],λs=>xB s.2.2.2.2.2.2.1 s.2.2.2.2.2.2.2 s.1 s.2.1 s.2.2.1 s.2.2.2.1 s.2.2.2.2.1 s.2.2.2.2.2.1⟩
def Ga:TK6->TK6:=λa s=>lM a s.1 s.2.1 s.2.2.1 s.2.2.2.1 s.2.2.2.2.1 s.2.2.2.2.2.1 s.2.2.2.2.2.2.1 s.2.2.2.2.2.2.2
theorem JN(a:TK6)(b:OK6 a):(rX (Ga a)).Ok X0.P X0.Γ:=
 aG (.c .o (.s (.j ⟨[(false,7,(.own mV 384 true))],[]⟩ .o (.r [0,40000] (.s (.j ⟨[(false,7,(.own mV 384 true))],[8]⟩ .o .o)))))) call253 func253 (aq JQ (aq S1 (aq b (aq kl (aq aaJ (aq tv az))))))
theorem MJ:Ko GR:=(show GR=rX (ao (Ga) ax) by kernel_rfl)▸tK (X:=X0) (E:=rX) ⟨call253,λ_ _ h=>nomatch h⟩ (JN) ax
def KN:aC:=⟨300,[adH,Kj],gU,[(true,0,adH)],λs=>vf s.2 s.1⟩
theorem Gp:Ko KN:=
 aG (.r [0] .o) call300 func300 az
def FY:aC:=⟨268,[Fe,ar],gU,[(true,0,Fe)],λs=>pO s.2 s.1⟩
theorem Br:Ko FY:=
 aG (.l ⟨[(true,0,Fe),(false,1,ar)],[]⟩ .o) call268 func268 (aq sM (aq ml az))
def Hb:aC:=⟨262,[Fe,Kj],gU,[(true,0,Fe)],λs=>mI s.2 s.1⟩
theorem CF:Ko Hb:=
 aG .o call262 func262 (aq Gp (aq tU (aq Br az)))
def Cn:aC:=⟨254,[ajF,ar],gU,[(true,0,XF)],λs=>tC s.2.2.2.2.2.2 s.1 s.2.1 s.2.2.1 s.2.2.2.1 s.2.2.2.2.1 s.2.2.2.2.2.1⟩
def CA:TK7->TK7:=λa s=>pM a s.1 s.2.1 s.2.2.1 s.2.2.2.1 s.2.2.2.2.1 s.2.2.2.2.2.1 s.2.2.2.2.2.2
theorem Gs(a:TK7)(b:OK7 a):(oE (CA a)).Ok X0.P X0.Γ:=
 aG (.c .o (.l ⟨[(true,0,XF),(false,42,ar)],[]⟩ .o)) call254 func254 (aq b (aq CF az))
theorem JK:Ko Cn:=(show Cn=oE (ao (CA) ax) by kernel_rfl)▸tK (X:=X0) (E:=oE) ⟨call254,λ_ _ h=>nomatch h⟩ (Gs) ax
def YV:aC:=⟨250,[Yc,ez],(.cQ [Yc,.bool,ar]),[],U2 fu⟩
theorem EO:Ko YV:=
 aG (.c .o (.c .o (.r [7] (.r [7] (.j ⟨[(true,7,XF)],[]⟩ .o .o))))) call250 func250 (aq xE (aq tE (aq dP (aq MJ (aq JK az)))))
def H3:aC:=⟨242,[oH,ou,aY],Sg,[],U3 kq⟩
theorem Eb:Ko H3:=
 aG .o call242 func242 (aq eZ (aq xE (aq V2 (aq EO az))))
def ZR:aC:=⟨291,[ez,Hq,ar,ar],kZ,[],U4 nn⟩
theorem nG:Ko ZR:=
 aG (.l ⟨[(false,9,kZ),(false,13,ar)],[]⟩ .o) call291 func291 (aq AN (aq yr az))
def aaZ:aC:=⟨288,[w9,ez,(.mQ (.int .i64 0)),RA],gU,[(true,3,RA)],U3 J1⟩
theorem SH:Ko aaZ:=
 aG (.l ⟨[(true,3,RA),(false,19,ar)],[]⟩ (.c (.r [3] .o) .o)) call288 func288 (aq nG az)
def adh:aC:=⟨285,[w9,ez,(.mQ (.int .i64 0))],.bool,[],U2 Oa⟩
theorem VW:Ko adh:=
 aG .o call285 func285 (aq SH az)
def Wc:aC:=⟨286,[w9,ez],.bool,[],U2 uD⟩
theorem Ct:Ko Wc:=
 aG .o call286 func286 (aq VW az)
def CP:aC:=⟨173,[ez],jd,[],λs=>cr s⟩
def Cq(s:Q1):Option Q1:= yk s ( some []) ( aM (aH (List.length ([]:zn)+List.length s) 1)<| some (([]:zn)++s))
theorem eA:Ko CP:=
 gE .o call173 func173 az az az λs=>(show _=Cq s from by kernel_rfl).trans ny
def Sk:aC:=⟨288,[(.dat FG [some 11,none,none]),ez,(.mQ (.int .i64 0)),(.fn 290 [] [])],gU,[(true,0,(.agg [.same,.same,.same,jd,.same,.same]))],U2 xk⟩
theorem Bm:Ko Sk:=
 aG (.l ⟨[(true,0,(.agg [.same,.same,.same,jd,.same,.same])),(false,19,ar)],[]⟩ (.c (.r [4,0] .o) .o)) call288 func288 (aq nG az)
def adu:aC:=⟨287,[w9,ez,(.mQ (.int .i64 0))],(.dat FG [some 11,none,none]),[],U2 Oj⟩
theorem VG:Ko adu:=
 aG .o call287 func287 (aq eA (aq Bm az))
def Wg:aC:=⟨282,[w9,ez],(.cQ [w9,.bool]),[],U2 y5⟩
theorem O6:Ko Wg:=
 aG .o call282 func282 (aq Ct (aq VG az))
def Ip:aC:=⟨276,[oH,ou,aY],Sg,[],U3 ky⟩
theorem D7:Ko Ip:=
 aG (.r [40000] .o) call276 func276 (aq eZ (aq O6 az))
def SF:aC:=⟨65,[ou,aY],Sg,[],U2 dz⟩
theorem M5:Ko SF:=
 aG (.c .o (.r [2,4] .o)) call65 func65 (aq iE (aq Ba (aq DY (aq CS (aq De (aq Eb (aq D7 az)))))))
def JB:bX:=⟨40,[S4,aY],OL,none,false,false,.bool,[(true,0,Iu)],λs=>jh (d8 (d8 (d8 (d8 (d8 s))))).2.2.2.2.2 s.1 s.2.1 s.2.2.1 s.2.2.2.1 s.2.2.2.2.1 s.2.2.2.2.2.1 s.2.2.2.2.2.2.1 s.2.2.2.2.2.2.2.1 s.2.2.2.2.2.2.2.2.1 (d8 s).2.1 (d8 s).2.2.1 (d8 s).2.2.2.1 (d8 s).2.2.2.2.1 (d8 s).2.2.2.2.2.1 (d8 s).2.2.2.2.2.2.1 (d8 s).2.2.2.2.2.2.2.1 (d8 (d8 s)).1 (d8 (d8 s)).2.1 (d8 (d8 s)).2.2.1 (d8 (d8 s)).2.2.2.1 (d8 (d8 s)).2.2.2.2.1 (d8 (d8 s)).2.2.2.2.2.1 (d8 (d8 s)).2.2.2.2.2.2.1 (d8 (d8 s)).2.2.2.2.2.2.2.1 (d8 (d8 (d8 s))).1 (d8 (d8 (d8 s))).2.1 (d8 (d8 (d8 s))).2.2.1 (d8 (d8 (d8 s))).2.2.2.1 (d8 (d8 (d8 s))).2.2.2.2.1 (d8 (d8 (d8 s))).2.2.2.2.2.1 (d8 (d8 (d8 s))).2.2.2.2.2.2.1 (d8 (d8 (d8 s))).2.2.2.2.2.2.2.1 (d8 (d8 (d8 (d8 s)))).1 (d8 (d8 (d8 (d8 s)))).2.1 (d8 (d8 (d8 (d8 s)))).2.2.1 (d8 (d8 (d8 (d8 s)))).2.2.2.1 (d8 (d8 (d8 (d8 s)))).2.2.2.2.1 (d8 (d8 (d8 (d8 s)))).2.2.2.2.2.1 (d8 (d8 (d8 (d8 s)))).2.2.2.2.2.2.1 (d8 (d8 (d8 (d8 s)))).2.2.2.2.2.2.2.1 (d8 (d8 (d8 (d8 (d8 s))))).1 (d8 (d8 (d8 (d8 (d8 s))))).2.1 (d8 (d8 (d8 (d8 (d8 s))))).2.2.1 (d8 (d8 (d8 (d8 (d8 s))))).2.2.2.1 (d8 (d8 (d8 (d8 (d8 s))))).2.2.2.2.1⟩
theorem ob:Jr JB:=
 afb (.s (.s (.j ⟨[],[]⟩ .o .o))) call40 func40 (aq M5 az)
def Y5:aC:=⟨94,[aY],(.cQ [aY,ar]),[],λs=>wO s⟩
theorem EI:Ko Y5:=
 aG .o call94 func94 az
def Xg:aC:=⟨111,[rB,aY],(.fn 121 [] [(.bx 35 0 true [(.sli .s),jz,aY,(.sli .s),(.sli A5)]),ads]),[],U2 I0⟩
theorem Qu:Ko Xg:=
 aG .o call111 func111 az
def SC:aC:=⟨122,[rB,aY],kZ,[],U2 CL⟩
def MH(f:Ex->Ex)(h:Sh->(R:Type)->Option R->Option R)(m:Q9)(d:Q1)(a:fz->Option Q1):Q1×Int->Option Q1:=λ⟨b,c⟩=> bif decide (c<(m.2.2.2.2.length:Int)) then (idx m.2.2.2.2 c).bind λg=> (pn (f g.2.1) d).bind λe=> bif e==1 then aM (aH (List.length b+List.length ([c]:zn)) 8)<| a ((b++([c]:zn)),(i64.wrap (c+1))) else a (b,(i64.wrap (c+1))) else some b
def yu(b:Ex->Ex)(c:Sh->(R:Type)->Option R->Option R)(m:Q9)(a:Q1):Option Q1:= ao (MH b c m a) ax ([],0)
theorem MK:Ko SC:=
 gE (.l ⟨[(false,5,kZ),(false,11,ar)],[]⟩ .o) call122 func122 (aq yQ az) az az λs=>(show _=yu sR jr s.1 s.2 from by kernel_rfl).trans ((congrArg (λa=>yu a jr s.1 s.2) jk).trans ((congrArg (λb=>yu id b s.1 s.2) lg).trans (by kernel_rfl)))
def Sc:aC:=⟨91,[jz,aaa],ar,[],U2 sP⟩
theorem MQ:Ko Sc:=
 aG (.c .o (.l ⟨[(false,14,ar)],[]⟩ .o)) call91 func91 (aq xQ az)
def aa3:aC:=⟨123,[rB,aY,ar],(.cQ [kZ,ar]),[],U3 EY⟩
def Su(i:Ex->Ex)(k:Sh->(R:Type)->Option R->Option R)(m:Q9)(f:Q1)(e:Q52)(a:fz->Option fz):Q1×Int->Option fz:=λ⟨b,c⟩=> bif decide (c<(e.2.2.length:Int)) then (idx e.2.2 c).bind λd=> (pn (i d.2) f).bind λh=> (idx b d.1).bind λj=> a ((List.set b (Int.toNat d.1) h),(i64.wrap (c+1))) else (sP m.2.1 b).bind λg=> bif g != 0 then some ([],6) else some (b,0)
def F4(c:Ex->Ex)(g:Sh->(R:Type)->Option R->Option R)(m:Q9)(a:Q1)(k:Int):Option fz:= ai (decide (k<0)) λh=> ai (decide ((m.2.2.2.2.length:Int)<=k)) λf=> ai (h||f) λe=> bif e then ( some ([],10)) else ( (bw a).bind λb=> (idx m.2.2.2.2 k).bind λd=> ao (Su c g m a d) ax (b,0))
theorem Sx:Ko aa3:=
 gE (.c .o (.l ⟨[(true,8,kZ),(false,29,ar)],[]⟩ (.c (.r [8] .o) .o))) call123 func123 (aq dP (aq yQ (aq MQ az))) az az λs=>(show _=F4 sR jr s.1 s.2.1 s.2.2 from by kernel_rfl).trans ((congrArg (λa=>F4 a jr s.1 s.2.1 s.2.2) jk).trans ((congrArg (λb=>F4 id b s.1 s.2.1 s.2.2) lg).trans (by kernel_rfl)))
def AB:aC:=⟨136,[(.bx 243 0 true [.sfp,(.own aW 5 false)])],gU,[(true,0,(.bx 243 0 true [.sfp,.same]))],U2 iJ⟩
theorem nK:Ko AB:=
 aG .o call136 func136 az
def xU:aC:=⟨130,[S7,.str],(.cQ [ar,(.mQ (.raw .nilIface))]),[(true,0,S7)],λs=>gL s.2.2 s.1 s.2.1⟩
theorem vB:Ko xU:=
 aG .o call130 func130 (aq nK az)
def AD:aC:=⟨132,[S7,me],(.mQ (.raw .nilIface)),[(true,0,S7)],λs=>iH s.2.2 s.1 s.2.1⟩
theorem xh:Ko AD:=
 aG .o call132 func132 (aq nK az)
def CM:aC:=⟨133,[S7],.str,[],U2 ka⟩
theorem Ah:Ko CM:=
 aG (.r [0] .o) call133 func133 az
def aa4:aC:=⟨124,[aY],.str,[],λs=>Kz s⟩
theorem S8:Ko aa4:=
 aG (.l ⟨[(true,3,S7),(false,8,ar)],[]⟩ .o) call124 func124 (aq ahR (aq vB (aq xh (aq Ah az))))
def QT:aC:=⟨112,[aiW,aY],gU,[(true,0,aiW)],λs=>nh s.2.2 s.1 s.2.1⟩
theorem Kc:Ko QT:=
 aG (.j ⟨[(true,0,(.bx 218 0 true [.same,(.mp .s .bo true)]))],[]⟩ .o .o) call112 func112 (aq S8 az)
def aaN:aC:=⟨105,[rB,aY],(.cQ [rz,ar]),[],U2 ET⟩
theorem ahU:(⟨121,Tryz.f121⟩:ov).Ok X0.P:=⟨call121,func121⟩
theorem Rv:Ko aaN:=
 gE (.c (.c (.l ⟨[(false,10,ar),(true,10004,(.bx 23 0 true [.same])),(true,10005,(.bx 42 0 true [ar])),(true,10006,aiW)],[]⟩ .o) .o) (.r [70000,4,5,6] .o)) call105 func105 (aq Qu (aq MK (aq Sx (aq Kc (aq dP az))))) az (aq ahU az) λ_=>by kernel_rfl
def aao:aC:=⟨93,[rB,ve,aY],(.cQ [rz,ar]),[],U3 vJ⟩
theorem Sq:Ko aao:=
 gE (.c .o (.l ⟨[(true,12,Yb),(false,32,ar)],[]⟩ (.c (.r [] (.c (.c (.l ⟨[(false,9,ar),(true,10012,Yb)],[]⟩ (.c (.n 4 (.c .o .o)) .o)) .o) (.r [70000,12] .o))) .o))) call93 func93 (aq EI (aq Rv (aq GS (aq Jt (aq dP (aq Bi az)))))) az (aq Zc az) λ_=>by kernel_rfl
def Gh:bX:=⟨66,[(.bx 100 0 false QL4),(.own AQ 171 true),aY],OL,none,false,false,(.own AQ 171 true),[],λs=>fq (d8 (d8 (d8 (d8 (d8 s))))).2.2.2.2.2.1 (d8 (d8 (d8 (d8 (d8 s))))).2.2.2.2.2.2 s.1 s.2.1 s.2.2.1 s.2.2.2.1 s.2.2.2.2.1 s.2.2.2.2.2.1 s.2.2.2.2.2.2.1 s.2.2.2.2.2.2.2.1 s.2.2.2.2.2.2.2.2.1 (d8 s).2.1 (d8 s).2.2.1 (d8 s).2.2.2.1 (d8 s).2.2.2.2.1 (d8 s).2.2.2.2.2.1 (d8 s).2.2.2.2.2.2.1 (d8 s).2.2.2.2.2.2.2.1 (d8 (d8 s)).1 (d8 (d8 s)).2.1 (d8 (d8 s)).2.2.1 (d8 (d8 s)).2.2.2.1 (d8 (d8 s)).2.2.2.2.1 (d8 (d8 s)).2.2.2.2.2.1 (d8 (d8 s)).2.2.2.2.2.2.1 (d8 (d8 s)).2.2.2.2.2.2.2.1 (d8 (d8 (d8 s))).1 (d8 (d8 (d8 s))).2.1 (d8 (d8 (d8 s))).2.2.1 (d8 (d8 (d8 s))).2.2.2.1 (d8 (d8 (d8 s))).2.2.2.2.1 (d8 (d8 (d8 s))).2.2.2.2.2.1 (d8 (d8 (d8 s))).2.2.2.2.2.2.1 (d8 (d8 (d8 s))).2.2.2.2.2.2.2.1 (d8 (d8 (d8 (d8 s)))).1 (d8 (d8 (d8 (d8 s)))).2.1 (d8 (d8 (d8 (d8 s)))).2.2.1 (d8 (d8 (d8 (d8 s)))).2.2.2.1 (d8 (d8 (d8 (d8 s)))).2.2.2.2.1 (d8 (d8 (d8 (d8 s)))).2.2.2.2.2.1 (d8 (d8 (d8 (d8 s)))).2.2.2.2.2.2.1 (d8 (d8 (d8 (d8 s)))).2.2.2.2.2.2.2.1 (d8 (d8 (d8 (d8 (d8 s))))).1 (d8 (d8 (d8 (d8 (d8 s))))).2.1 (d8 (d8 (d8 (d8 (d8 s))))).2.2.1 (d8 (d8 (d8 (d8 (d8 s))))).2.2.2.1 (d8 (d8 (d8 (d8 (d8 s))))).2.2.2.2.1⟩
theorem sC:Jr Gh:=
 afb (.s (.j ⟨[],[]⟩ .o (.r [] (.j ⟨[],[]⟩ .o .o)))) call66 func66 (aq Sq az)
def F0:aC:=⟨106,[aY,ar],ar,[],U2 pV⟩
theorem BG:Ko F0:=
 aG (.l ⟨[(false,8,ar)],[]⟩ .o) call106 func106 az
def B8:aC:=⟨95,[aY,ar],.bool,[],U2 mT⟩
theorem yq:Ko B8:=
 aG .o call95 func95 (aq BG az)
def Xt:aC:=⟨67,[ve,aY],.bool,[],U2 wK⟩
theorem PH:Ko Xt:=
 aG .o call67 func67 (aq EI (aq yq az))
def Bv:aC:=⟨72,[S6],gU,[],λs=>ue s⟩
theorem yH:Ko Bv:=
 aG .o call72 func72 az
def Fq:aC:=⟨69,[aY,aY],.bool,[],U2 lu⟩
theorem BL:Ko Fq:=
 aG (.c .o (.l ⟨[(false,13,ar)],[]⟩ .o)) call69 func69 az
def Vy:aC:=⟨70,[(.sli AQ)],rz,[],λs=>y8 s⟩
theorem O8:Ko Vy:=
 aG (.l ⟨[(false,3,rz),(false,8,ar)],[]⟩ .o) call70 func70 az
def BU:bX:=⟨68,[S6,aY,X8,(.bx 123 0 false [S6])],XY,none,false,true,gU,[],U4 jE⟩
theorem yp:Jr BU:=
 afb (.c (.r [80000] .o) .o) call68 func68 (aq BL (aq O8 az))
def adf:aC:=⟨174,[ar],me,[],λs=>Dw s⟩
theorem Jy:Ko adf:=
 aG .o call174 func174 az
def VX:aC:=⟨168,[ar,me,ad6,Wj],gU,[(true,3,Wj)],U7 FJ⟩
theorem Pq:Ko VX:=
 aG .o call168 func168 az
def ahP:aC:=⟨167,[Oz,ez,ar,(.fn 168 [] [ad6,Wj])],ar,[(true,3,(.fn 168 [] [.same,Wj]))],U8 R3⟩
theorem XL:Ko ahP:=
 aG .o call167 func167 (aq Jy (aq nL (aq Pq az)))
def ac9:aC:=⟨162,[Oz,ez,ar],FO,[],U3 Ix⟩
theorem Vz:Ko ac9:=
 aG .o call162 func162 (aq XL az)
def MW:aC:=⟨156,[oH,ou,aY,ar],FO,[],U4 nR⟩
theorem Hw:Ko MW:=
 aG (.r [5] .o) call156 func156 (aq eZ (aq Vz az))
def age:aC:=⟨205,[K9,jz,aY,ar],(.cQ [ar,ar]),[],U4 Ca⟩
theorem Kk:Ko age:=
 aG .o call205 func205 (aq iE (aq He az))
def ad8:aC:=⟨202,[K9,jz,aY,ar],FO,[],U4 Iq⟩
theorem VH:Ko ad8:=
 aG .o call202 func202 (aq Kk az)
def K8:aC:=⟨196,[oH,ou,aY,ar],FO,[],U4 lS⟩
theorem Hg:Ko K8:=
 aG .o call196 func196 (aq VH az)
def ah6:aC:=⟨225,[LS,jz,aY,ar],(.cQ [ar,ar]),[],U4 B9⟩
theorem KZ:Ko ah6:=
 aG .o call225 func225 (aq iE (aq GV az))
def adn:aC:=⟨220,[LS,jz,aY,ar],FO,[],U4 Ii⟩
theorem Vx:Ko adn:=
 aG .o call220 func220 (aq KZ az)
def LH:aC:=⟨214,[oH,ou,aY,ar],FO,[],U4 mD⟩
theorem GI:Ko LH:=
 aG .o call214 func214 (aq Vx az)
def QJ:aC:=⟨247,[ou,aY,ar],ar,[],U3 pY⟩
theorem Ar:Ko QJ:=
 aG (.c .o (.r [3] .o)) call247 func247 (aq eZ (aq xE az))
def MI:aC:=⟨241,[oH,ou,aY,ar],FO,[],U4 nq⟩
theorem IU:Ko MI:=
 aG (.c .o (.r [5] .o)) call241 func241 (aq Ar (aq eZ (aq xE az)))
def ac7:aC:=⟨284,[w9,ez,ar],ar,[],U3 Om⟩
theorem Js:Ko ac7:=
 aG .o call284 func284 (aq Ct az)
def RJ:aC:=⟨288,[w9,ez,ar,RA],gU,[(true,3,RA)],U4 Kf⟩
theorem MY:Ko RJ:=
 aG (.l ⟨[(true,3,RA),(false,19,ar)],[]⟩ (.c (.r [3] .o) .o)) call288 func288 (aq nG az)
def V8:aC:=⟨285,[w9,ez,ar],.bool,[],U3 Nr⟩
theorem Pk:Ko V8:=
 aG .o call285 func285 (aq MY az)
def aeU:aC:=⟨281,[w9,ez,ar],FO,[],U3 ZZ⟩
theorem V4:Ko aeU:=
 aG .o call281 func281 (aq Js (aq Pk az))
def MF:aC:=⟨275,[oH,ou,aY,ar],FO,[],U4 rN⟩
theorem Ia:Ko MF:=
 aG (.r [5] .o) call275 func275 (aq eZ (aq V4 az))
def aaj:aC:=⟨96,[ou,aY,ar],FO,[],U3 eK⟩
theorem SA:Ko aaj:=
 aG (.c .o (.r [3] .o)) call96 func96 (aq iE (aq Ba (aq Hw (aq Hg (aq GI (aq IU (aq Ia az)))))))
def VD:aC:=⟨172,[ar,me,ad6,aiM],gU,[(true,3,(.bx 76 0 true [.same,.same,.same,ez]))],λs=>Fm s.1 s.2.1 s.2.2.1 s.2.2.2.1 s.2.2.2.2.1 s.2.2.2.2.2.1 s.2.2.2.2.2.2.1 s.2.2.2.2.2.2.2.1 s.2.2.2.2.2.2.2.2.1 (d8 s).2⟩
theorem Oi:Ko VD:=
 aG .o call172 func172 (aq eA az)
def WI:aC:=⟨167,[Oz,ez,ar,(.fn 172 [] [ad6,aiM])],ar,[(true,3,(.fn 172 [] [.same,aiM]))],λs=>HR s.1 s.2.1 s.2.2.1 s.2.2.2.1 s.2.2.2.2.1 s.2.2.2.2.2.1 s.2.2.2.2.2.2.1 s.2.2.2.2.2.2.2.1 s.2.2.2.2.2.2.2.2.1 (d8 s).2.1 (d8 s).2.2⟩
theorem Qp:Ko WI:=
 aG .o call167 func167 (aq Jy (aq nL (aq Oi az)))
def aen:aC:=⟨165,[Oz,ez,ar],(.cQ [Oz,ar]),[],U3 Ho⟩
theorem We:Ko aen:=
 aG .o call165 func165 (aq Qp az)
def M1:aC:=⟨160,[oH,ou,aY,ar],HK,[],U4 nF⟩
theorem IM:Ko M1:=
 aG (.r [40000] .o) call160 func160 (aq eZ (aq We az))
def adt:aC:=⟨204,[K9,jz,aY,ar],(.cQ [K9,ar]),[],U4 Hz⟩
theorem VC:Ko adt:=
 aG (.c .o (.r [4] .o)) call204 func204 (aq Kk (aq eA az))
def Lt:aC:=⟨200,[oH,ou,aY,ar],HK,[],U4 mh⟩
theorem F8:Ko Lt:=
 aG .o call200 func200 (aq VC az)
def adC:aC:=⟨222,[LS,jz,aY,ar],(.cQ [LS,ar]),[],U4 Ih⟩
theorem V9:Ko adC:=
 aG (.c .o (.r [4] .o)) call222 func222 (aq KZ (aq eA az))
def Kb:aC:=⟨218,[oH,ou,aY,ar],HK,[],U4 mG⟩
theorem GQ:Ko Kb:=
 aG .o call218 func218 (aq V9 az)
def MG:aC:=⟨245,[oH,ou,aY,ar],HK,[],U4 nB⟩
theorem HN:Ko MG:=
 aG (.c .o (.r [5] .o)) call245 func245 (aq Ar (aq eZ (aq EO az)))
def RC:aC:=⟨288,[(.dat FG [none,some 11,none]),ez,(.mQ (.int .i64 1)),(.fn 290 [] [])],gU,[(true,0,(.agg [.same,.same,.same,.same,jd,.same]))],U2 Lo⟩
theorem MO:Ko RC:=
 aG (.l ⟨[(true,0,(.agg [.same,.same,.same,.same,jd,.same])),(false,19,ar)],[]⟩ (.c (.r [4,0] .o) .o)) call288 func288 (aq nG az)
def RO:aC:=⟨288,[(.dat FG [none,none,some 11]),ez,(.mQ (.int .i64 2)),(.fn 290 [] [])],gU,[(true,0,(.agg [.same,.same,.same,.same,.same,jd]))],U2 Lg⟩
theorem MN:Ko RO:=
 aG (.l ⟨[(true,0,(.agg [.same,.same,.same,.same,.same,jd])),(false,19,ar)],[]⟩ (.c (.r [4,0] .o) .o)) call288 func288 (aq nG az)
def VM:aC:=⟨287,[w9,ez,ar],w9,[],U3 NI⟩
theorem NX:Ko VM:=
 aG (.r [60000,2,0,0,1,2] (.c .o (.c .o (.c .o (.n 77777 .o))))) call287 func287 (aq eA (aq Bm (aq MO (aq MN az))))
def ade:aC:=⟨283,[w9,ez,ar],(.cQ [w9,ar]),[],U3 ZL⟩
theorem VQ:Ko ade:=
 aG .o call283 func283 (aq Js (aq NX az))
def ME:aC:=⟨279,[oH,ou,aY,ar],HK,[],U4 rH⟩
theorem HJ:Ko ME:=
 aG (.r [40000] .o) call279 func279 (aq eZ (aq VQ az))
def aay:aC:=⟨97,[ou,aY,ar],HK,[],U3 gK⟩
theorem Ru:Ko aay:=
 aG (.c .o (.r [3,6] .o)) call97 func97 (aq iE (aq Ba (aq IM (aq F8 (aq GQ (aq HN (aq HJ az)))))))
def JF:bX:=⟨71,[S4,aY],OL,none,false,false,.bool,[(true,0,Iu)],λs=>oF (d8 (d8 (d8 (d8 (d8 s))))).2.2.2.2.2 s.1 s.2.1 s.2.2.1 s.2.2.2.1 s.2.2.2.2.1 s.2.2.2.2.2.1 s.2.2.2.2.2.2.1 s.2.2.2.2.2.2.2.1 s.2.2.2.2.2.2.2.2.1 (d8 s).2.1 (d8 s).2.2.1 (d8 s).2.2.2.1 (d8 s).2.2.2.2.1 (d8 s).2.2.2.2.2.1 (d8 s).2.2.2.2.2.2.1 (d8 s).2.2.2.2.2.2.2.1 (d8 (d8 s)).1 (d8 (d8 s)).2.1 (d8 (d8 s)).2.2.1 (d8 (d8 s)).2.2.2.1 (d8 (d8 s)).2.2.2.2.1 (d8 (d8 s)).2.2.2.2.2.1 (d8 (d8 s)).2.2.2.2.2.2.1 (d8 (d8 s)).2.2.2.2.2.2.2.1 (d8 (d8 (d8 s))).1 (d8 (d8 (d8 s))).2.1 (d8 (d8 (d8 s))).2.2.1 (d8 (d8 (d8 s))).2.2.2.1 (d8 (d8 (d8 s))).2.2.2.2.1 (d8 (d8 (d8 s))).2.2.2.2.2.1 (d8 (d8 (d8 s))).2.2.2.2.2.2.1 (d8 (d8 (d8 s))).2.2.2.2.2.2.2.1 (d8 (d8 (d8 (d8 s)))).1 (d8 (d8 (d8 (d8 s)))).2.1 (d8 (d8 (d8 (d8 s)))).2.2.1 (d8 (d8 (d8 (d8 s)))).2.2.2.1 (d8 (d8 (d8 (d8 s)))).2.2.2.2.1 (d8 (d8 (d8 (d8 s)))).2.2.2.2.2.1 (d8 (d8 (d8 (d8 s)))).2.2.2.2.2.2.1 (d8 (d8 (d8 (d8 s)))).2.2.2.2.2.2.2.1 (d8 (d8 (d8 (d8 (d8 s))))).1 (d8 (d8 (d8 (d8 (d8 s))))).2.1 (d8 (d8 (d8 (d8 (d8 s))))).2.2.1 (d8 (d8 (d8 (d8 (d8 s))))).2.2.2.1 (d8 (d8 (d8 (d8 (d8 s))))).2.2.2.2.1⟩
theorem FD:Jr JF:=
 Lh .o call71 func71 (aq SA (aq Ru az)) (aq ob az) az λ_=>by kernel_rfl
def Hd:bX:=⟨41,[S4,aY,(.fn 71 [(.ptr 0 0)] []),(.fn 68 [] [X8,(.bx 123 0 false [S6])]),(.fn 72 [] [])],OL,some XY,false,true,gU,[(true,0,Iu)],λs=>mO (d8 (d8 (d8 (d8 (d8 s))))).2.2.2.2.2.1 s.1 s.2.1 s.2.2.1 s.2.2.2.1 s.2.2.2.2.1 s.2.2.2.2.2.1 s.2.2.2.2.2.2.1 s.2.2.2.2.2.2.2.1 s.2.2.2.2.2.2.2.2.1 (d8 s).2.1 (d8 s).2.2.1 (d8 s).2.2.2.1 (d8 s).2.2.2.2.1 (d8 s).2.2.2.2.2.1 (d8 s).2.2.2.2.2.2.1 (d8 s).2.2.2.2.2.2.2.1 (d8 (d8 s)).1 (d8 (d8 s)).2.1 (d8 (d8 s)).2.2.1 (d8 (d8 s)).2.2.2.1 (d8 (d8 s)).2.2.2.2.1 (d8 (d8 s)).2.2.2.2.2.1 (d8 (d8 s)).2.2.2.2.2.2.1 (d8 (d8 s)).2.2.2.2.2.2.2.1 (d8 (d8 (d8 s))).1 (d8 (d8 (d8 s))).2.1 (d8 (d8 (d8 s))).2.2.1 (d8 (d8 (d8 s))).2.2.2.1 (d8 (d8 (d8 s))).2.2.2.2.1 (d8 (d8 (d8 s))).2.2.2.2.2.1 (d8 (d8 (d8 s))).2.2.2.2.2.2.1 (d8 (d8 (d8 s))).2.2.2.2.2.2.2.1 (d8 (d8 (d8 (d8 s)))).1 (d8 (d8 (d8 (d8 s)))).2.1 (d8 (d8 (d8 (d8 s)))).2.2.1 (d8 (d8 (d8 (d8 s)))).2.2.2.1 (d8 (d8 (d8 (d8 s)))).2.2.2.2.1 (d8 (d8 (d8 (d8 s)))).2.2.2.2.2.1 (d8 (d8 (d8 (d8 s)))).2.2.2.2.2.2.1 (d8 (d8 (d8 (d8 s)))).2.2.2.2.2.2.2.1 (d8 (d8 (d8 (d8 (d8 s))))).1 (d8 (d8 (d8 (d8 (d8 s))))).2.1 (d8 (d8 (d8 (d8 (d8 s))))).2.2.1 (d8 (d8 (d8 (d8 (d8 s))))).2.2.2.1 (d8 (d8 (d8 (d8 (d8 s))))).2.2.2.2.1 (d8 (d8 (d8 (d8 (d8 s))))).2.2.2.2.2.2.1 (d8 (d8 (d8 (d8 (d8 s))))).2.2.2.2.2.2.2⟩
theorem Dj:Jr Hd:=
 Lh (.l ⟨[(true,0,Iu),(false,11,(.own AQ 171 true))],[]⟩ .o) call41 func41 (aq yH az) (aq sC (aq yp (aq FD az))) az λ_=>by kernel_rfl
def Fg:bX:=⟨43,[S4,S6],OL,some XY,false,true,gU,[(true,0,Iu)],λs=>lq (d8 (d8 (d8 (d8 (d8 s))))).2.2.2.2.2 s.1 s.2.1 s.2.2.1 s.2.2.2.1 s.2.2.2.2.1 s.2.2.2.2.2.1 s.2.2.2.2.2.2.1 s.2.2.2.2.2.2.2.1 s.2.2.2.2.2.2.2.2.1 (d8 s).2.1 (d8 s).2.2.1 (d8 s).2.2.2.1 (d8 s).2.2.2.2.1 (d8 s).2.2.2.2.2.1 (d8 s).2.2.2.2.2.2.1 (d8 s).2.2.2.2.2.2.2.1 (d8 (d8 s)).1 (d8 (d8 s)).2.1 (d8 (d8 s)).2.2.1 (d8 (d8 s)).2.2.2.1 (d8 (d8 s)).2.2.2.2.1 (d8 (d8 s)).2.2.2.2.2.1 (d8 (d8 s)).2.2.2.2.2.2.1 (d8 (d8 s)).2.2.2.2.2.2.2.1 (d8 (d8 (d8 s))).1 (d8 (d8 (d8 s))).2.1 (d8 (d8 (d8 s))).2.2.1 (d8 (d8 (d8 s))).2.2.2.1 (d8 (d8 (d8 s))).2.2.2.2.1 (d8 (d8 (d8 s))).2.2.2.2.2.1 (d8 (d8 (d8 s))).2.2.2.2.2.2.1 (d8 (d8 (d8 s))).2.2.2.2.2.2.2.1 (d8 (d8 (d8 (d8 s)))).1 (d8 (d8 (d8 (d8 s)))).2.1 (d8 (d8 (d8 (d8 s)))).2.2.1 (d8 (d8 (d8 (d8 s)))).2.2.2.1 (d8 (d8 (d8 (d8 s)))).2.2.2.2.1 (d8 (d8 (d8 (d8 s)))).2.2.2.2.2.1 (d8 (d8 (d8 (d8 s)))).2.2.2.2.2.2.1 (d8 (d8 (d8 (d8 s)))).2.2.2.2.2.2.2.1 (d8 (d8 (d8 (d8 (d8 s))))).1 (d8 (d8 (d8 (d8 (d8 s))))).2.1 (d8 (d8 (d8 (d8 (d8 s))))).2.2.1 (d8 (d8 (d8 (d8 (d8 s))))).2.2.2.1 (d8 (d8 (d8 (d8 (d8 s))))).2.2.2.2.1⟩
theorem BY:Jr Fg:=
 Lh .o call43 func43 (aq PH az) (aq Dj az) az λ_=>by kernel_rfl
def BD:aC:=⟨42,[S6,aY],gU,[],U2 ud⟩
theorem ye:Ko BD:=
 aG .o call42 func42 az
def LJ:bX:=⟨41,[S4,aY,(.fn 40 [(.ptr 0 0)] []),(.fn 42 [] []),(.fn 43 [(.ptr 0 0)] [])],OL,some XY,false,false,gU,[(true,0,Iu)],λs=>vC (d8 (d8 (d8 (d8 (d8 s))))).2.2.2.2.2 s.1 s.2.1 s.2.2.1 s.2.2.2.1 s.2.2.2.2.1 s.2.2.2.2.2.1 s.2.2.2.2.2.2.1 s.2.2.2.2.2.2.2.1 s.2.2.2.2.2.2.2.2.1 (d8 s).2.1 (d8 s).2.2.1 (d8 s).2.2.2.1 (d8 s).2.2.2.2.1 (d8 s).2.2.2.2.2.1 (d8 s).2.2.2.2.2.2.1 (d8 s).2.2.2.2.2.2.2.1 (d8 (d8 s)).1 (d8 (d8 s)).2.1 (d8 (d8 s)).2.2.1 (d8 (d8 s)).2.2.2.1 (d8 (d8 s)).2.2.2.2.1 (d8 (d8 s)).2.2.2.2.2.1 (d8 (d8 s)).2.2.2.2.2.2.1 (d8 (d8 s)).2.2.2.2.2.2.2.1 (d8 (d8 (d8 s))).1 (d8 (d8 (d8 s))).2.1 (d8 (d8 (d8 s))).2.2.1 (d8 (d8 (d8 s))).2.2.2.1 (d8 (d8 (d8 s))).2.2.2.2.1 (d8 (d8 (d8 s))).2.2.2.2.2.1 (d8 (d8 (d8 s))).2.2.2.2.2.2.1 (d8 (d8 (d8 s))).2.2.2.2.2.2.2.1 (d8 (d8 (d8 (d8 s)))).1 (d8 (d8 (d8 (d8 s)))).2.1 (d8 (d8 (d8 (d8 s)))).2.2.1 (d8 (d8 (d8 (d8 s)))).2.2.2.1 (d8 (d8 (d8 (d8 s)))).2.2.2.2.1 (d8 (d8 (d8 (d8 s)))).2.2.2.2.2.1 (d8 (d8 (d8 (d8 s)))).2.2.2.2.2.2.1 (d8 (d8 (d8 (d8 s)))).2.2.2.2.2.2.2.1 (d8 (d8 (d8 (d8 (d8 s))))).1 (d8 (d8 (d8 (d8 (d8 s))))).2.1 (d8 (d8 (d8 (d8 (d8 s))))).2.2.1 (d8 (d8 (d8 (d8 (d8 s))))).2.2.2.1 (d8 (d8 (d8 (d8 (d8 s))))).2.2.2.2.1⟩
theorem Gb:Jr LJ:=
 Lh (.l ⟨[(true,0,Iu),(false,11,(.own AQ 171 true))],[]⟩ .o) call41 func41 (aq ye az) (aq sC (aq BY (aq ob az))) az λ_=>by kernel_rfl
def JJ:bX:=⟨25,[S4],OL,some XY,false,false,gU,[(true,0,Iu)],λs=>oC s.1 s.2.1 s.2.2.1 s.2.2.2.1 s.2.2.2.2.1 s.2.2.2.2.2.1 s.2.2.2.2.2.2.1 s.2.2.2.2.2.2.2.1 s.2.2.2.2.2.2.2.2.1 (d8 s).2.1 (d8 s).2.2.1 (d8 s).2.2.2.1 (d8 s).2.2.2.2.1 (d8 s).2.2.2.2.2.1 (d8 s).2.2.2.2.2.2.1 (d8 s).2.2.2.2.2.2.2.1 (d8 (d8 s)).1 (d8 (d8 s)).2.1 (d8 (d8 s)).2.2.1 (d8 (d8 s)).2.2.2.1 (d8 (d8 s)).2.2.2.2.1 (d8 (d8 s)).2.2.2.2.2.1 (d8 (d8 s)).2.2.2.2.2.2.1 (d8 (d8 s)).2.2.2.2.2.2.2.1 (d8 (d8 (d8 s))).1 (d8 (d8 (d8 s))).2.1 (d8 (d8 (d8 s))).2.2.1 (d8 (d8 (d8 s))).2.2.2.1 (d8 (d8 (d8 s))).2.2.2.2.1 (d8 (d8 (d8 s))).2.2.2.2.2.1 (d8 (d8 (d8 s))).2.2.2.2.2.2.1 (d8 (d8 (d8 s))).2.2.2.2.2.2.2.1 (d8 (d8 (d8 (d8 s)))).1 (d8 (d8 (d8 (d8 s)))).2.1 (d8 (d8 (d8 (d8 s)))).2.2.1 (d8 (d8 (d8 (d8 s)))).2.2.2.1 (d8 (d8 (d8 (d8 s)))).2.2.2.2.1 (d8 (d8 (d8 (d8 s)))).2.2.2.2.2.1 (d8 (d8 (d8 (d8 s)))).2.2.2.2.2.2.1 (d8 (d8 (d8 (d8 s)))).2.2.2.2.2.2.2.1 (d8 (d8 (d8 (d8 (d8 s))))).1 (d8 (d8 (d8 (d8 (d8 s))))).2.1 (d8 (d8 (d8 (d8 (d8 s))))).2.2.1 (d8 (d8 (d8 (d8 (d8 s))))).2.2.2.1 (d8 (d8 (d8 (d8 (d8 s))))).2.2.2.2⟩
theorem Fu:Jr JJ:=
 Lh (.r [] (.l ⟨[(true,0,Iu),(false,14,ar)],[]⟩ .o)) call25 func25 (aq Sv az) (aq ob (aq Gb az)) az λ_=>by kernel_rfl
def aaY:aC:=⟨10,[rB,ve,Oe],(.cQ [.bool,(.dat FL [none,none]),ar,aY]),[],U3 gN⟩
theorem ajW:(⟨24,Tryz.f24⟩:ov).Ok X0.P:=⟨call24,func24⟩
theorem G4:Ko aaY:=
 gE (.c (.r [6,7,8,9] .o) .o) call10 func10 (aq Oo (aq RT az)) (aq Fu az) (aq ajW az) λ_=>by kernel_rfl
def KG:aC:=⟨81,[jz,aY],ar,[],U2 lQ⟩
theorem Gg:Ko KG:=
 aG (.c .o (.l ⟨[(false,5,ar)],[]⟩ .o)) call81 func81 az
def J7:aC:=⟨54,[rB,aY],.bool,[],U2 pQ⟩
theorem GU:Ko J7:=
 aG .o call54 func54 (aq Gg az)
def Ki:aC:=⟨28,[rB,ve,aY],.bool,[],U3 py⟩
theorem Ha:Ko Ki:=
 aG .o call28 func28 (aq GU az)
def GW:aC:=⟨99,[.bool],ar,[],λs=>bd s⟩
theorem CX:Ko GW:=
 aG .o call99 func99 az
def xd:aC:=⟨80,[Og,aY],ar,[],U2 eB⟩
def DQ(d:Ex->Ex)(j:Sh->(R:Type)->Option R->Option R)(h:(Ex×Q1)->zf)(e:Ex)(g:Q1)(i:Int):zf:= ai (λ(b:Int)=>kD e g i b) λa=> bif decide (1<(List.length e.l:Int)) then (idx e.l 1).bind λf=> (h ((d f),g)).bind λc=> a c else a 0
def n8(d:Ex->Ex)(i:Sh->(R:Type)->Option R->Option R)(h:(Ex×Q1)->zf)(e:Ex)(g:Q1):zf:= ai (λ(b:Int)=>DQ d i h e g b) λa=> bif decide (0<(List.length e.l:Int)) then (idx e.l 0).bind λf=> (h ((d f),g)).bind λc=> a c else a 0
def w8:TK8->TK8:=λa s=>ln a s.1 s.2
theorem BK(a:TK8)(c:OK8 a):(kS (w8 a)).Ok X0.P X0.Γ:=
 gE (.s (.s (.s (.j ⟨[(false,5,ar)],[]⟩ .o (.j ⟨[(false,6,ar)],[]⟩ .o .o))))) call80 func80 (aq CX (aq c az)) az az λs=>(show _=n8 sR jr a s.1 s.2 from by kernel_rfl).trans ((congrArg (λb=>n8 b jr a s.1 s.2) jk).trans ((congrArg (λd=>n8 id d a s.1 s.2) lg).trans (by kernel_rfl)))
theorem mW:Ko xd:=(show xd=kS (ao (w8) ax) by kernel_rfl)▸tK (X:=X0) (E:=kS) ⟨call80,λ_ _ h=>nomatch h⟩ (BK) ax
def Ht:aC:=⟨82,[ve,ar,aY],.bool,[],U3 s8⟩
def DO(e:Ex->Ex)(j:Sh->(R:Type)->Option R->Option R)(a:ri)(q:Int)(h:Q1)(b:Int->zc)(d:Int):zc:= (idx a.1 q).bind λi=> bif decide (d<(i.length:Int)) then (idx a.1 q).bind λg=> (idx g d).bind λf=> (eB (e f) h).bind λc=> bif c != 1 then some false else b (i64.wrap (d+1)) else some true
def pB(b:Ex->Ex)(d:Sh->(R:Type)->Option R->Option R)(a:ri)(q:Int)(c:Q1):zc:= ao (DO b d a q c) ax 0
theorem DU:Ko Ht:=
 gE (.l ⟨[(false,7,ar)],[]⟩ .o) call82 func82 (aq mW az) az az λs=>(show _=pB sR jr s.1 s.2.1 s.2.2 from by kernel_rfl).trans ((congrArg (λa=>pB a jr s.1 s.2.1 s.2.2) jk).trans ((congrArg (λb=>pB id b s.1 s.2.1 s.2.2) lg).trans (by kernel_rfl)))
def JC:aC:=⟨32,[aY,aY],.bool,[],U2 gH⟩
theorem uA:Ko JC:=
 aG (.c .o (.l ⟨[(false,5,ar)],[]⟩ .o)) call32 func32 az
def DB:aC:=⟨16,[(.own rQ 24 false),aY],ar,[],U2 dM⟩
theorem kj:Ko DB:=
 aG (.l ⟨[(false,5,ar)],[]⟩ .o) call16 func16 (aq uA az)
def Fp:aC:=⟨55,[rz,ve,aY,aY],rz,[],U4 lD⟩
theorem rO:Ko Fp:=
 aG (.l ⟨[(false,0,rz),(false,9,ar)],[]⟩ (.c (.r [40000] .o) .o)) call55 func55 (aq DU (aq kj az))
def Jd:aC:=⟨29,[rB,ve],rz,[],U2 np⟩
theorem DT:Ko Jd:=
 aG .o call29 func29 (aq rO az)
def Gd:aC:=⟨16,[(.sli rQ),aY],ar,[],U2 jL⟩
theorem sy:Ko Gd:=
 aG (.l ⟨[(false,5,ar)],[]⟩ .o) call16 func16 (aq uA az)
def D8:aC:=⟨52,[rB,aY],kZ,[],U2 pc⟩
def AU(f:Ex->Ex)(h:Sh->(R:Type)->Option R->Option R)(m:Q9)(d:Q1)(a:fz->Option Q1):Q1×Int->Option Q1:=λ⟨b,c⟩=> bif decide (c<(m.2.2.2.2.length:Int)) then (idx m.2.2.2.2 c).bind λg=> (eB (f g.2.1) d).bind λe=> bif e==1 then aM (aH (List.length b+List.length ([c]:zn)) 8)<| a ((b++([c]:zn)),(i64.wrap (c+1))) else a (b,(i64.wrap (c+1))) else some b
def mS(b:Ex->Ex)(c:Sh->(R:Type)->Option R->Option R)(m:Q9)(a:Q1):Option Q1:= ao (AU b c m a) ax ([],0)
theorem AX:Ko D8:=
 gE (.l ⟨[(false,5,kZ),(false,6,ar)],[]⟩ .o) call52 func52 (aq mW az) az az λs=>(show _=mS sR jr s.1 s.2 from by kernel_rfl).trans ((congrArg (λa=>mS a jr s.1 s.2) jk).trans ((congrArg (λb=>mS id b s.1 s.2) lg).trans (by kernel_rfl)))
def IY:aC:=⟨53,[rB,aY,ar],(.cQ [kZ,ar]),[],U3 nQ⟩
def Ec(g:Ex->Ex)(l:Sh->(R:Type)->Option R->Option R)(m:Q9)(e:Q1)(k:Int)(a:fz->Option fz):Q1×Int->Option fz:=λ⟨b,c⟩=> (idx m.2.2.2.2 k).bind λi=> bif decide (c<(i.2.2.length:Int)) then (idx m.2.2.2.2 k).bind λh=> (idx h.2.2 c).bind λd=> (eB (g d.2) e).bind λf=> (idx b d.1).bind λj=> a ((List.set b (Int.toNat d.1) f),(i64.wrap (c+1))) else ao (iy m b) ax 0
def pP(b:Ex->Ex)(e:Sh->(R:Type)->Option R->Option R)(m:Q9)(a:Q1)(k:Int):Option fz:= ai (decide (k<0)) λf=> ai (decide ((m.2.2.2.2.length:Int)<=k)) λd=> ai (f||d) λc=> bif c then ( some ([],10)) else ( aM (aH (List.length ([]:zn)+List.length a) 8)<| ao (Ec b e m a k) ax ((([]:zn)++a),0))
theorem Ed:Ko IY:=
 gE (.c .o (.l ⟨[(true,8,kZ),(false,9,ar)],[]⟩ (.c (.r [8] .o) (.l ⟨[(false,11,ar)],[]⟩ .o)))) call53 func53 (aq mW az) az az λs=>(show _=pP sR jr s.1 s.2.1 s.2.2 from by kernel_rfl).trans ((congrArg (λa=>pP a jr s.1 s.2.1 s.2.2) jk).trans ((congrArg (λb=>pP id b s.1 s.2.1 s.2.2) lg).trans (by kernel_rfl)))
def H7:aC:=⟨27,[rB,aY],(.cQ [rz,ar]),[],U2 kA⟩
theorem tY:Ko H7:=
 aG (.c .o (.l ⟨[(false,7,rz),(false,8,ar)],[]⟩ .o)) call27 func27 (aq AX (aq Ed (aq kj az)))
def Jc:aC:=⟨31,[rB,ve,aY],(.cQ [rz,ar]),[],U3 nX⟩
theorem DW:Ko Jc:=
 aG (.r [] (.c .o (.l ⟨[(false,11,rz),(false,12,ar)],[]⟩ (.c (.r [11] .o) .o)))) call31 func31 (aq tY (aq rO az))
def JG:aC:=⟨30,[rB,ve,aY,aY],.bool,[],U4 lf⟩
theorem Fc:Ko JG:=
 aG .o call30 func30 (aq DW (aq sy az))
def GM:aC:=⟨20,[ve,aY],.bool,[],U2 mH⟩
theorem Cy:Ko GM:=
 aG (.l ⟨[(false,5,ar)],[]⟩ .o) call20 func20 az
def Gw:aC:=⟨14,[rB,ve,(.dat FL [none,none])],.bool,[],U3 gQ⟩
theorem sA:Ko Gw:=
 aG (.r [] (.c .o (.l ⟨[(false,8,ar)],[]⟩ (.c .o (.r [20007] (.c .o (.l ⟨[(false,10,ar)],[]⟩ (.c .o (.r [] (.l ⟨[(false,13,.bool),(false,14,ar)],[]⟩ .o)))))))))) call14 func14 (aq Ha (aq DT (aq sy (aq Fc (aq Cy az)))))
def GD:aC:=⟨7,[],.bool,[],λ_=>rD⟩
theorem Db:Ko GD:=
 aG .o call7 func7 (aq wa (aq G4 (aq sA az)))
end
end Go.Proofs.YtcgihjbfppkcfaaGreatDoor
