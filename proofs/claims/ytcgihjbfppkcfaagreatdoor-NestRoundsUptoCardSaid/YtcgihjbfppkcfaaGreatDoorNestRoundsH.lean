/-
  Own texts for the statement NestRounds, cut down to what it needs: Den. (cut and joined by a program)
-/
import Derived.Test.YtcgihjbfppkcfaaGreatDoorNestRoundsG
set_option linter.unusedVariables false
set_option linter.unusedSimpArgs false
namespace Go.Proofs.YtcgihjbfppkcfaaGreatDoor
open IntKind (i64)
open Go.Proofs
noncomputable section
set_option maxRecDepth 100000
abbrev UA:Ty:=(.p (.i .i64) (.p (.l (.p (.i .i64) (.i .i64))) (.p (.i .i64) (.p (.p (.p (.i .i64) (.p (.l (.l (.i .u8))) (.l (.i .i64)))) (.l (.i .u8))) (.p (.p (.l (.p (.i .i64) (.p (.l (.l (.i .u8))) (.l (.i .i64))))) (.p (.p (.i .i64) (.p (.l (.l (.i .u8))) (.l (.i .i64)))) (.l (.i .u8)))) (.p (.p (.l (.p (.i .i64) (.p (.l (.l (.i .u8))) (.l (.i .i64))))) (.l (.i .u8))) (.p (.p (.p (.i .i64) (.p (.l (.p (.l (.p (.i .u8) (.i .i64))) (.i .i64))) (.p (.i .i64) (.p (.i .i64) (.l (.i .i64)))))) (.p (.p (.i .i64) (.p (.l (.p (.l (.p (.i .u8) (.i .i64))) (.i .i64))) (.p (.i .i64) (.p (.i .i64) (.l (.i .i64)))))) (.p (.i .i64) (.p (.l (.p (.l (.p (.i .u8) (.i .i64))) (.i .i64))) (.p (.i .i64) (.p (.i .i64) (.l (.i .i64)))))))) (.p (.i .i64) (.p (.i .i64) (.p (.i .u64) (.p (.l (.i .u8)) (.p (.l (.i .u8)) (.l (.i .u8))))))))))))))
abbrev bf:Ty:=(.i .i64)
abbrev QL3:List Pt:=(.same:: .same:: .same:: .same:: .same:: .same:: .same:: .same:: .same::(.int .i64)::(.sli (.p bf bf))::(.int .i64)::(.int .i64)::(.sli (.l (.i .u8)))::(.sli bf)::(.sli (.i .u8))::(.sli (.p bf (.p (.l (.l (.i .u8))) (.l bf))))::(.int .i64)::(.sli (.l (.i .u8)))::(.sli bf)::(.sli (.i .u8))::(.sli (.p bf (.p (.l (.l (.i .u8))) (.l bf))))::(.sli (.i .u8))::(.int .i64)::(.sli (.p (.l (.p (.i .u8) bf)) bf))::(.int .i64)::(.int .i64)::(.sli bf)::(.int .i64)::(.sli (.p (.l (.p (.i .u8) bf)) bf))::(.int .i64)::(.int .i64)::(.sli bf)::(.int .i64)::(.sli (.p (.l (.p (.i .u8) bf)) bf))::(.int .i64)::(.int .i64)::(.sli bf)::(.int .i64)::(.int .i64)::(.int .u64)::(.sli (.i .u8))::(.sli (.i .u8))::(.sli (.i .u8)):: .same::[])
abbrev QL4:List Pt:=((.sli .s)::(.sli (.p bf bf))::(.sli bf)::(.sli .s)::(.sli (.p bf (.p .ex (.l (.p bf .ex)))))::(.sli (.l .ex))::(.sli (.l bf))::(.sli bf)::(.sli (.l bf))::(.int .i64)::(.sli (.p bf bf))::(.int .i64)::(.int .i64)::(.sli (.l (.i .u8)))::(.sli bf)::(.sli (.i .u8))::(.sli (.p bf (.p (.l (.l (.i .u8))) (.l bf))))::(.int .i64)::(.sli (.l (.i .u8)))::(.sli bf)::(.sli (.i .u8))::(.sli (.p bf (.p (.l (.l (.i .u8))) (.l bf))))::(.sli (.i .u8))::(.int .i64)::(.sli (.p (.l (.p (.i .u8) bf)) bf))::(.int .i64)::(.int .i64)::(.sli bf)::(.int .i64)::(.sli (.p (.l (.p (.i .u8) bf)) bf))::(.int .i64)::(.int .i64)::(.sli bf)::(.int .i64)::(.sli (.p (.l (.p (.i .u8) bf)) bf))::(.int .i64)::(.int .i64)::(.sli bf)::(.int .i64)::(.int .i64)::(.int .u64)::(.sli (.i .u8))::(.sli (.i .u8))::(.sli (.i .u8))::(.int .i64)::[])
abbrev px:Pt:=(.dat UA [none,none,none,none,none,none,none,none,none,none,none,none,none,none,none,none,none,none,none])
abbrev gM:Ty:=(.p bf (.p (.l (.l (.i .u8))) (.l bf)))
abbrev aq:Pt:=(.int .i64)
abbrev Sc:Ty:=(.p (.l .s) (.p (.l (.p bf bf)) (.p (.l bf) (.p (.l .s) (.l (.p bf (.p .ex (.l (.p bf .ex)))))))))
abbrev aW:Ty:=(.i .u8)
abbrev MT:Ty:=(.p (.l (.l .ex)) (.p (.l (.l bf)) (.p (.l bf) (.l (.l bf)))))
abbrev afm:Ty:=(.p aW (.p aW (.p aW (.p aW (.p aW (.p aW (.p aW (.p aW (.p aW (.p aW (.p aW (.p aW (.p aW (.p aW (.p aW (.p aW (.p aW (.p aW (.p aW (.p aW (.p aW (.p aW (.p aW (.p aW (.p aW (.p aW (.p aW (.p aW (.p aW (.p aW (.p aW (.p aW (.p aW (.p aW (.p aW (.p aW (.p aW (.p aW (.p aW (.p aW (.p aW (.p aW (.p aW (.p aW (.p aW (.p aW (.p aW (.p aW (.p aW (.p aW (.p aW (.p aW (.p aW (.p aW (.p aW (.p aW (.p aW (.p aW (.p aW (.p aW (.p aW (.p aW (.p aW aW)))))))))))))))))))))))))))))))))))))))))))))))))))))))))))))))
abbrev Hg:Ty:=(.p bf (.p bf (.p (.i .u64) (.p (.l aW) (.p (.l aW) (.l aW))))))
abbrev Ak:Ty:=(.p bf (.p (.l (.p (.l (.p aW bf)) bf)) (.p bf (.p bf (.l bf)))))
abbrev Zc:Pt:=(.bx 130 0 true [(.own (.p bf (.p .s (.p bf bf))) 132 false),aq,(.own .s 9 false),(.own (.p bf bf) 112 false),(.own bf 3 false),(.own .s 9 false),(.own (.p bf (.p .ex (.l (.p bf .ex)))) 180 false),aq,aq])
abbrev lA:Ty:=(.p bf bf)
abbrev aY:Pt:=(.sli bf)
abbrev pb:Pt:=(.dat MT [none,none,none,none])
abbrev sP:Pt:=(.dat Sc [none,none,none,none,none])
abbrev akt:Ty:=(.p aW (.p aW (.p aW (.p aW (.p aW (.p aW (.p aW (.p aW (.p aW (.p aW (.p aW (.p aW (.p aW (.p aW (.p aW (.p aW (.p aW (.p aW (.p aW (.p aW (.p aW (.p aW (.p aW aW)))))))))))))))))))))))
abbrev lB:Pt:=(.own bf 3 true)
abbrev tS:Ty:=(.p (.l (.p aW bf)) bf)
abbrev Nh:Pt:=(.bx 130 0 true [.same,.same,.same,.same,.same,.same,.same,aq,aq])
abbrev jn:Pt:=(.own aW 5 true)
abbrev yw:Pt:=(.own (.l bf) 24 true)
abbrev vg:Ty:=(.p bf (.p .s lA))
abbrev Zx:Ty:=(.p bf (.p bf (.p bf (.p (.i .u64) lA))))
abbrev LQ:Pt:=(.dat (.p (.l gM) (.p gM (.l aW))) [none,none,none,none])
abbrev Cm:Ty:=(.p bf (.p .ex (.l (.p bf .ex))))
abbrev B6:Ty:=(.p (.l bf) (.l (.l bf)))
abbrev yG:Pt:=(.dat Hg [none,none,none])
abbrev VT:Ty:=(.p aW (.p aW (.p aW (.p aW (.p aW (.p aW (.p aW aW)))))))
abbrev ard:Ty:=(.p (.i .u64) (.p (.i .u64) (.p (.i .u64) (.p (.i .u64) (.p (.i .u64) (.p (.i .u64) (.p (.i .u64) (.p (.i .u64) (.p (.i .u64) (.p (.i .u64) (.p (.i .u64) (.p (.i .u64) (.p (.i .u64) (.p (.i .u64) (.p (.i .u64) (.p (.i .u64) (.p (.i .u64) (.p (.i .u64) (.p (.i .u64) (.i .u64))))))))))))))))))))
abbrev YY:Pt:=(.bx 130 0 true [.same,aq,.same,.same,.same,.same,.same,aq,aq])
abbrev aa0:Pt:=(.bx 379 0 true [.same,(.own tS 273 true),.same,.same,lB,.same])
abbrev G7:Pt:=(.ifc 392 (.bx 390 0 true [lB]))
abbrev NJ:Pt:=(.dat (.p (.l gM) (.l aW)) [none,none])
abbrev eO:Pt:=(.sli aW)
abbrev Hi:Ty:=(.p (.l (.l bf)) (.l (.l bf)))
abbrev PU:Pt:=(.dat (.p gM (.l aW)) [none,none,none])
abbrev agB:Pt:=(.bx 212 0 true [(.own vg 132 false),aq,(.own .s 9 false),aq,aq])
abbrev mb:Ty:=(.l aW)
abbrev jV:Pt:=(.sli lA)
abbrev aab:Pt:=(.ifc 97 (.agg [(.sli (.l bf)),(.sli (.l bf))]))
abbrev ae9:Pt:=(.bx 355 0 true [(.own gM 270 true),(.fn 229 [(.ptr 0 0)] [])])
abbrev wN:Pt:=(.dat .ex [none])
abbrev ae4:Pt:=(.bx 79 0 true [(.own gM 73 true),.same,.same,.same,.same])
abbrev pR:Pt:=(.dat .un [])
abbrev Hf:Pt:=(.dat gM [none,none])
abbrev nT:Ty:=(.p aW bf)
abbrev UY:Pt:=(.fn 289 [] [(.bx 4 0 true [.bool])])
abbrev alU:Pt:=(.bx 379 0 true [.same,(.own tS 273 true),.same,.same,lB,(.mp bf .bo true)])
abbrev afM:Pt:=(.bx 355 0 false [(.sli gM),(.fn 233 [(.ptr 0 0)] [])])
abbrev aqi:Pt:=(.bx 130 0 false [(.own vg 132 false),aq,(.own .s 9 false),(.own lA 112 false),(.own bf 3 false),(.own .s 9 false),(.own Cm 180 false),aq,aq])
abbrev ix:Pt:=(.cW [])
abbrev amB:Pt:=(.bx 379 0 true [aq,(.own tS 273 true),aq,aq,lB,(.mp bf .bo false)])
abbrev alG:Pt:=(.bx 379 0 true [aq,(.own tS 273 true),aq,aq,lB,(.mp bf .bo true)])
abbrev ZU:Pt:=(.bx 161 0 true [yw,(.mp .s .bo true)])
abbrev PW:Pt:=(.bx 27 0 true [(.int .u64)])
abbrev al9:Pt:=(.bx 130 0 true [.same,aq,.same,.same,.same,.same,.same,.same,.same])
abbrev Rp:Pt:=(.ifc 95 (.agg [aq,aY]))
abbrev agI:Pt:=(.bx 79 0 true [.same,.same,.same,.same,.same])
abbrev Hh:Pt:=(.cW [.bool,aq])
abbrev agv:Ty:=(.p .s (.p MT (.p aW (.p aW (.p aW aW)))))
abbrev afZ:Pt:=(.bx 76 0 false [aq,(.sli mb),aY,eO])
abbrev ab8:Ty:=(.p .s (.p MT (.p aW (.i .u64))))
abbrev Ka:Pt:=(.bx 100 0 true QL3)
abbrev wj:Ty:=(.p mb bf)
abbrev afl:Pt:=(.bx 212 0 true [.same,aq,.same,aq,aq])
abbrev nR:Pt:=(.int .u8)
abbrev VC:Pt:=(.bx 243 0 true [.sfp,jn])
abbrev ag5:Pt:=(.bx 355 0 true [(.own gM 270 true),.same])
abbrev sH:Pt:=(.int .u32)
abbrev agh:Ty:=(.p (.l vg) (.p bf (.p (.l .s) lA)))
abbrev alV:Pt:=(.dat Sc [some 19,some 225,some 7,some 19,some 361])
abbrev JC:Pt:=(.cW [px,aq])
abbrev UK:Pt:=(.cW [px,.bool,aq])
abbrev afW:Ty:=(.p (.l vg) (.p bf (.p Sc lA)))
abbrev aqG:Pt:=(.bx 130 0 true [.same,aq,(.own .s 9 true),(.own lA 112 true),lB,.same,.same,aq,aq])
abbrev ZO:Ty:=(.p (.l gM) (.p gM mb))
abbrev QI:Pt:=(.cW [aq,.bool])
abbrev Vq:Pt:=(.dat .ex [some 293])
abbrev aqZ:Pt:=(.bx 130 0 true [.same,aq,.same,.same,.same,.same,(.own Cm 180 true),aq,aq])
abbrev Vn:Pt:=(.own B6 171 false)
abbrev akg:Pt:=(.bx 76 0 true [aq,(.sli mb),aY,eO])
abbrev aha:Ty:=(.p Sc (.p MT (.p UA bf)))
abbrev ab3:Pt:=(.dat Ak [none,none])
abbrev V5:Pt:=(.bx 100 0 true QL4)
abbrev agx:Ty:=(.p bf (.p bf (.p .bo aW)))
abbrev Za:Pt:=(.bx 24 0 false [aY])
abbrev akx:Pt:=(.bx 218 0 true [yw,(.mp .s .bo true)])
abbrev aqa:Ty:=(.p aW (.p aW (.p aW (.p aW (.p aW (.p aW (.p aW (.p aW akt))))))))
abbrev afv:Pt:=(.bx 317 0 true [jn,aq])
abbrev VB:Pt:=(.sli (.i .u32))
abbrev Qp:Pt:=(.dat Zx [])
abbrev aft:Pt:=(.bx 390 0 true [lB])
abbrev Zp:Ty:=(.p (.l gM) mb)
abbrev L3:Pt:=(.ifc 3 aq)
abbrev ZA:Pt:=(.own bf 3 false)
abbrev Kt:Pt:=(.int .u64)
abbrev Rw:Pt:=(.cW [yw,aq])
abbrev Yq:Pt:=(.bx 24 0 true [aY])
abbrev Yl:Pt:=(.bx 4 0 true [.bool])
abbrev anK:Pt:=(.dat Sc [some 18,some 224,some 6,some 18,some 360])
abbrev sX:Ty:=(.l bf)
abbrev S4:Pt:=(.own .s 9 false)
open Tryz
theorem aeu:amI Tryz.prog 138:=λv w=>by rw [run_callFunc_extern func138 (by kernel_rfl) (by kernel_rfl) (by kernel_rfl) (e:=Extern.AbiNoEscape.same) (by kernel_rfl)];rfl
noncomputable def WM:Cx:=⟨Tryz.prog,[(2,bf),(3,bf),(4,.bo),(5,aW),(6,aW),(7,agx),(8,agx),(9,.s),(10,.s),(11,.s),(12,(.i .u64)),(13,(.p .s (.i .u64))),(14,(.p .s (.i .u64))),(21,(.i .i32)),(22,(.l (.l .ex))),(23,(.l sX)),(24,sX),(25,MT),(26,MT),(27,(.i .u64)),(28,Zx),(29,Zx),(31,(.l .s)),(32,(.l lA)),(33,(.l Cm)),(34,Sc),(35,Sc),(40,Hi),(41,Hi),(42,bf),(47,agv),(48,agv),(55,ab8),(56,ab8),(65,(.l .bo)),(68,(.l (.l .bo))),(71,(.l mb)),(72,gM),(73,gM),(74,mb),(75,(.p gM mb)),(76,(.p gM mb)),(77,(.l gM)),(78,ZO),(79,ZO),(80,(.l gM)),(81,Zp),(82,Zp),(83,(.l tS)),(84,Ak),(85,Ak),(86,(.p Ak (.p Ak Ak))),(87,(.p mb (.p mb mb))),(88,Hg),(89,Hg),(90,UA),(91,UA),(94,(.p bf sX)),(95,(.p bf sX)),(96,Hi),(97,Hi),(99,aha),(100,aha),(111,lA),(112,lA),(115,(.l .n)),(120,.n),(123,(.l B6)),(126,(.l vg)),(129,afW),(130,afW),(131,vg),(132,vg),(143,(.l .ex)),(145,(.p bf (.p bf (.p bf (.l .ex))))),(146,.ex),(152,lA),(153,.un),(154,.un),(155,.un),(156,.un),(157,.un),(158,.un),(170,B6),(171,B6),(178,(.l (.p bf .ex))),(179,Cm),(180,Cm),(182,(.p bf .ex)),(183,(.p bf .ex)),(211,agh),(212,agh),(215,lA),(225,akt),(236,ard),(237,(.i .u32)),(238,(.p aW afm)),(239,(.i .u64)),(252,aqa),(253,afm),(259,.un),(260,.un),(261,.un),(262,aW),(263,aW),(265,(.i .i32)),(266,(.i .i32)),(269,gM),(270,gM),(271,(.l nT)),(272,tS),(273,tS),(295,wj),(296,wj),(303,gM),(304,gM),(305,gM),(306,gM),(314,wj),(315,wj),(316,wj),(317,wj),(357,(.l (.i .u32))),(364,VT),(365,VT),(383,nT),(384,nT),(390,sX)],[],[138],(List.forall_mem_cons.2 ⟨aeu,(λ_ h=>nomatch h)⟩),au,[154,155,156,157,158],[],(λ_ h=>nomatch h),[(25,21),(66,40)]⟩
noncomputable def X0:Cx:=⟨Tryz.prog,[(2,bf),(3,bf),(4,.bo),(5,aW),(6,aW),(7,agx),(8,agx),(9,.s),(10,.s),(11,.s),(12,(.i .u64)),(13,(.p .s (.i .u64))),(14,(.p .s (.i .u64))),(21,(.i .i32)),(22,(.l (.l .ex))),(23,(.l sX)),(24,sX),(25,MT),(26,MT),(27,(.i .u64)),(28,Zx),(29,Zx),(31,(.l .s)),(32,(.l lA)),(33,(.l Cm)),(34,Sc),(35,Sc),(40,Hi),(41,Hi),(42,bf),(47,agv),(48,agv),(55,ab8),(56,ab8),(65,(.l .bo)),(68,(.l (.l .bo))),(71,(.l mb)),(72,gM),(73,gM),(74,mb),(75,(.p gM mb)),(76,(.p gM mb)),(77,(.l gM)),(78,ZO),(79,ZO),(80,(.l gM)),(81,Zp),(82,Zp),(83,(.l tS)),(84,Ak),(85,Ak),(86,(.p Ak (.p Ak Ak))),(87,(.p mb (.p mb mb))),(88,Hg),(89,Hg),(90,UA),(91,UA),(94,(.p bf sX)),(95,(.p bf sX)),(96,Hi),(97,Hi),(99,aha),(100,aha),(111,lA),(112,lA),(115,(.l .n)),(120,.n),(123,(.l B6)),(126,(.l vg)),(129,afW),(130,afW),(131,vg),(132,vg),(143,(.l .ex)),(145,(.p bf (.p bf (.p bf (.l .ex))))),(146,.ex),(152,lA),(153,.un),(154,.un),(155,.un),(156,.un),(157,.un),(158,.un),(170,B6),(171,B6),(178,(.l (.p bf .ex))),(179,Cm),(180,Cm),(182,(.p bf .ex)),(183,(.p bf .ex)),(211,agh),(212,agh),(215,lA),(225,akt),(236,ard),(237,(.i .u32)),(238,(.p aW afm)),(239,(.i .u64)),(252,aqa),(253,afm),(259,.un),(260,.un),(261,.un),(262,aW),(263,aW),(265,(.i .i32)),(266,(.i .i32)),(269,gM),(270,gM),(271,(.l nT)),(272,tS),(273,tS),(295,wj),(296,wj),(303,gM),(304,gM),(305,gM),(306,gM),(314,wj),(315,wj),(316,wj),(317,wj),(357,(.l (.i .u32))),(364,VT),(365,VT),(383,nT),(384,nT),(390,sX)],[(0,0,⟨.l (.i .u64),vI⟩)],[138],(List.forall_mem_cons.2 ⟨aeu,(λ_ h=>nomatch h)⟩),au,[154,155,156,157,158],[⟨180,λargs H st K=>QR WM Tryz.f180 args H st K⟩,⟨171,λargs H st K=>QR WM Tryz.f171 args H st K⟩,⟨289,λargs H st K=>QR WM Tryz.f289 args H st K⟩,⟨290,λargs H st K=>QR WM Tryz.f290 args H st K⟩],(List.forall_mem_cons.2 ⟨Ss (X:=WM) call180 func180 rfl,(List.forall_mem_cons.2 ⟨Ss (X:=WM) call171 func171 rfl,(List.forall_mem_cons.2 ⟨Ss (X:=WM) call289 func289 rfl,(List.forall_mem_cons.2 ⟨Ss (X:=WM) call290 func290 rfl,(λ_ h=>nomatch h)⟩)⟩)⟩)⟩),[(25,21),(66,40)]⟩
abbrev Ko(e:aA):=e.Ok X0.P X0.Γ
abbrev Ll(e:bY):=e.Ok X0.P X0.Γ
theorem aG{X:Cx}{tb:List aA}{fn:Func}{e:aA}(h:HT)(c:Enters X.P e.f)(b:X.P.funcs[e.f]? =some fn)(a:∀e∈tb,e.Ok X.P X.Γ)(eq:∀s,abt X tb [] [] h fn e s=e.m s:=by intro _;kernel_rfl):e.Ok X.P X.Γ:=eB h c b a ax ax eq
theorem afF{X:Cx}{tb:List aA}{fn:Func}{e:bY}(h:HT)(c:Enters X.P e.f)(b:X.P.funcs[e.f]? =some fn)(a:∀e∈tb,e.Ok X.P X.Γ)(eq:∀s,amY X tb [] [] h fn e s=e.m s:=by intro _;kernel_rfl):e.Ok X.P X.Γ:=L8 h c b a ax ax eq
abbrev U2{a z r:Type}(F:a->z->r)(s:a×z):r:=F s.1 s.2
abbrev U3{a b z r:Type}(F:a->b->z->r)(s:a×b×z):r:=F s.1 s.2.1 s.2.2
abbrev U4{a b c z r:Type}(F:a->b->c->z->r)(s:a×b×c×z):r:=F s.1 s.2.1 s.2.2.1 s.2.2.2
abbrev U6{a b c d e z r:Type}(F:a->b->c->d->e->z->r)(s:a×b×c×d×e×z):r:=F s.1 s.2.1 s.2.2.1 s.2.2.2.1 s.2.2.2.2.1 s.2.2.2.2.2
abbrev U7{a b c d e f z r:Type}(F:a->b->c->d->e->f->z->r)(s:a×b×c×d×e×f×z):r:=F s.1 s.2.1 s.2.2.1 s.2.2.2.1 s.2.2.2.2.1 s.2.2.2.2.2.1 s.2.2.2.2.2.2
abbrev U8{a b c d e f g z r:Type}(F:a->b->c->d->e->f->g->z->r)(s:a×b×c×d×e×f×g×z):r:=F s.1 s.2.1 s.2.2.1 s.2.2.2.1 s.2.2.2.2.1 s.2.2.2.2.2.1 s.2.2.2.2.2.2.1 s.2.2.2.2.2.2.2
abbrev U9{a b c d e f g h z r:Type}(F:a->b->c->d->e->f->g->h->z->r)(s:a×b×c×d×e×f×g×h×z):r:=F s.1 s.2.1 s.2.2.1 s.2.2.2.1 s.2.2.2.2.1 s.2.2.2.2.2.1 s.2.2.2.2.2.2.1 s.2.2.2.2.2.2.2.1 s.2.2.2.2.2.2.2.2
def lJ(x:Ex):Ex:=Ex.mk x.op x.n x.at_ x.l
theorem dX:lJ=id:=funext λx=>by cases x;rfl
def arD:aA:=⟨131,[.int .i64],.str,[],λs=>YA s⟩
theorem aji:Ko arD:=amf (ρ:=Tryz.MK) Tryz.ajR call131 (G:=0) (tab:=vI) (by kernel_rfl) (show gl 0 (vI.map (Value.int .u64))∈X0.Γ by first|exact c8 ..|exact (.tail _ (c8 ..))|exact (.tail _ (.tail _ (c8 ..)))|exact (.tail _ (.tail _ (.tail _ (c8 ..))))|exact (.tail _ (.tail _ (.tail _ (.tail _ (c8 ..)))))|exact (.tail _ (.tail _ (.tail _ (.tail _ (.tail _ (c8 ..))))))) (by decide+kernel) YA λn r h=>by obtain ⟨b,a⟩:=jq h;cases a;exact ⟨b,rfl⟩
def arq:aA:=⟨110,[.own aW 5 true,.int .u64,.int .i64],.own aW 5 true,[],U3 Ua⟩
theorem ahP:Ko arq:=ajT (ρ:=Tryz.PK) Tryz.aoK call110 (G:=0) (tab:=vI) (by kernel_rfl) (show gl 0 (vI.map (Value.int .u64))∈X0.Γ by first|exact c8 ..|exact (.tail _ (c8 ..))|exact (.tail _ (.tail _ (c8 ..)))|exact (.tail _ (.tail _ (.tail _ (c8 ..))))|exact (.tail _ (.tail _ (.tail _ (.tail _ (c8 ..)))))|exact (.tail _ (.tail _ (.tail _ (.tail _ (.tail _ (c8 ..))))))) (by decide+kernel) Ua λl u b r h=>by obtain ⟨a,c⟩:=jq h;simp only [ar,mN,eW] at a;cases c;exact ⟨a.1.1,a.1.2.1,a.1.2.2,a.2,rfl⟩
theorem ahS{α:Type}{b:Nat}{s y r:List α}{k:Int}(h:VE b s k y=some r):y≠[]/\Ca k s.length=true/\aH (s.length+y.length) b=true/\r=na s k y:=by
 unfold VE at h;split at h
 .cases h
 .obtain ⟨a,c⟩:=jq h;simp only [ar] at a;cases c;exact ⟨by simp,a.1,a.2,rfl⟩
def ak4:aA:=⟨261,[.own nT 384 true,.int .i64,.own nT 384 true],.own nT 384 true,[],λs=>VE 16 s.1 s.2.1 s.2.2⟩
theorem acA:Ko ak4:=aog (t:=nT) (bytes:=16) call261 (λa d c b=>I261.aaA a d c b) (VE 16) (λ_ _ _ _ h=>ahS h)
abbrev TK0:=Ai->Option fD
def ga(k:TK0):aA:=⟨107,[agB,aq,aq],Vq,[(true,0,afl)],λs=>k (s.2.2.2.2.2.1,s.2.2.2.2.2.2,s.1,s.2.1,s.2.2.1,s.2.2.2.1,s.2.2.2.2.1)⟩
abbrev OK0(k:TK0):Prop:=Ko (ga k)
abbrev TK1:=Ex->Option kW
def lv(k:TK1):aA:=⟨85,[wN],(.cW [aq,aq,aq]),[],λs=>k s⟩
abbrev OK1(k:TK1):Prop:=Ko (lv k)
abbrev TK2:=Int->zb
def x9(k:TK2):aA:=⟨224,[aq],aq,[],λs=>k s⟩
abbrev OK2(k:TK2):Prop:=Ko (x9 k)
abbrev TK3:=(Ex×Q1)->zb
def yA(k:TK3):aA:=⟨102,[wN,aY],aq,[],λs=>k (s.1,s.2)⟩
abbrev OK3(k:TK3):Prop:=Ko (yA k)
abbrev TK4:=Q47->Option xa
def pB(k:TK4):bY:=⟨236,[afM,aq,VB],L3,none,false,false,sH,[],λs=>k (s.2.1,s.2.2,s.1)⟩
abbrev OK4(k:TK4):Prop:=Ll (pB k)
abbrev TK5:=Q47->Option Q53
def mh(k:TK5):aA:=⟨236,[ae9,aq,VB],sH,[(true,0,ag5)],λs=>k (s.2.1,s.2.2,s.1)⟩
abbrev OK5(k:TK5):Prop:=Ko (mh k)
abbrev TK6:=Q41->Option K7
def s8(k:TK6):aA:=⟨253,[alG,aq,eO],aq,[(true,0,alU)],λs=>k (s.2.2.2.2.2.2.1,s.2.2.2.2.2.2.2,s.1,s.2.1,s.2.2.1,s.2.2.2.1,s.2.2.2.2.1,s.2.2.2.2.2.1)⟩
abbrev OK6(k:TK6):Prop:=Ko (s8 k)
abbrev TK7:=Q45->Option (cD×Q1)
def pI(k:TK7):aA:=⟨254,[amB,aq],ix,[(true,0,aa0)],λs=>k (s.2.2.2.2.2.2,s.1,s.2.1,s.2.2.1,s.2.2.2.1,s.2.2.2.2.1,s.2.2.2.2.2.1)⟩
abbrev OK7(k:TK7):Prop:=Ko (pI k)
abbrev TK8:=(Ex×Q1)->zb
def kT(k:TK8):aA:=⟨80,[wN,aY],aq,[],λs=>k (s.1,s.2)⟩
abbrev OK8(k:TK8):Prop:=Ko (kT k)
abbrev TK9:=xl->zb
def ln(k:TK9):aA:=⟨83,[wN,aq],aq,[],λs=>k (s.1,s.2)⟩
abbrev OK9(k:TK9):Prop:=Ko (ln k)
abbrev aak:=xl->zb
def lz(k:aak):aA:=⟨84,[wN,aq],aq,[],λs=>k (s.1,s.2)⟩
abbrev asC(k:aak):Prop:=Ko (lz k)
abbrev aaV:=xl->x3
def me(k:aaV):aA:=⟨59,[wN,aq],.bool,[],λs=>k (s.1,s.2)⟩
abbrev asJ(k:aaV):Prop:=Ko (me k)
def JY:aA:=⟨73,[nR],aq,[],λs=>gm s⟩
theorem FN:Ko JY:=
 aG .o call73 func73 ax
def Jf:aA:=⟨74,[],(.own .s 9 true),[],λ_=>sL⟩
theorem Ep:Ko Jf:=
 aG .o call74 func74 ax
def HG:aA:=⟨44,[.str],(.cW [(.own vg 132 true),aq,aq]),[],λs=>gF s⟩
theorem CK:Ko HG:=
 aG (.c .o (.l ⟨[(false,5,(.own vg 132 true)),(false,6,aq)],[]⟩ (.c (.c .o (.c (.l ⟨[(false,6,aq)],[]⟩ .o) (.c (.l ⟨[(false,6,aq)],[]⟩ .o) (.c (.l ⟨[(false,6,aq),(false,9,aq)],[]⟩ .o) (.l ⟨[(false,11,.str),(false,12,aq)],[]⟩ .o))))) .o))) call44 func44 (aw FN (aw Ep ax))
def FC:aA:=⟨45,[aqi,aq,.str],.bool,[],λs=>bU (d8 s).2.1 (d8 s).2.2 s.1 s.2.1 s.2.2.1 s.2.2.2.1 s.2.2.2.2.1 s.2.2.2.2.2.1 s.2.2.2.2.2.2.1 s.2.2.2.2.2.2.2.1 s.2.2.2.2.2.2.2.2.1⟩
theorem iF:Ko FC:=
 aG .o call45 func45 ax
def Ls:aA:=⟨77,[.str],.bool,[],λs=>jK s⟩
theorem vV:Ko Ls:=
 aG (.s (.s (.s (.j ⟨[(false,4,.bool)],[]⟩ .o .o)))) call77 func77 ax
def Dd:aA:=⟨46,[Zc,aq,aq],ix,[(true,0,Nh)],λs=>aJ (d8 s).2.1 (d8 s).2.2 s.1 s.2.1 s.2.2.1 s.2.2.2.1 s.2.2.2.2.1 s.2.2.2.2.2.1 s.2.2.2.2.2.2.1 s.2.2.2.2.2.2.2.1 s.2.2.2.2.2.2.2.2.1⟩
theorem cK:Ko Dd:=
 aG .o call46 func46 ax
def EF:aA:=⟨78,[S4,.str],aq,[],U2 cQ⟩
theorem rC:Ko EF:=
 aG (.l ⟨[(false,5,aq)],[]⟩ .o) call78 func78 ax
def CP:aA:=⟨49,[Zc,.bool],.str,[(true,0,YY)],λs=>gQ (d8 s).2 s.1 s.2.1 s.2.2.1 s.2.2.2.1 s.2.2.2.2.1 s.2.2.2.2.2.1 s.2.2.2.2.2.2.1 s.2.2.2.2.2.2.2.1 s.2.2.2.2.2.2.2.2.1⟩
theorem rv:Ko CP:=
 aG .o call49 func49 (aw vV (aw cK (aw rC ax)))
def CU:aA:=⟨47,[aqi],aq,[],U9 bq⟩
theorem gG:Ko CU:=
 aG .o call47 func47 ax
def C8:aA:=⟨50,[Zc,.str],ix,[(true,0,YY)],λs=>bN (d8 s).2 s.1 s.2.1 s.2.2.1 s.2.2.2.1 s.2.2.2.2.1 s.2.2.2.2.2.1 s.2.2.2.2.2.2.1 s.2.2.2.2.2.2.2.1 s.2.2.2.2.2.2.2.2.1⟩
theorem ki:Ko C8:=
 aG .o call50 func50 (aw iF (aw gG (aw cK ax)))
def Hv:aA:=⟨113,[aq],.bool,[],λs=>ml s⟩
theorem CT:Ko Hv:=
 aG .o call113 func113 ax
def AM:aA:=⟨114,[agB,aq],Vq,[(true,0,(.bx 212 0 true [.same,.same,.same,aq,aq]))],λs=>bF s.2.2.2.2.2 s.1 s.2.1 s.2.2.1 s.2.2.2.1 s.2.2.2.2.1⟩
theorem nH:Ko AM:=
 aG (.c (.r [0] .o) .o) call114 func114 ax
def BL(a:TK0):aA:=⟨115,[agB,aq],Vq,[(true,0,afl)],λs=>dY a s.2.2.2.2.2 s.1 s.2.1 s.2.2.1 s.2.2.2.1 s.2.2.2.2.1⟩
def yL(g:Ex->Ex)(i:Sh->(R:Type)->Option R->Option R)(l:Q7)(at_:Int)(names:bp)(f:Int)(a:Int)(e:tD)(b:Int->Option fD)(c:Int):Option fD:=
bif decide (c<(names.length:Int)) then (idx names c).bind λh=>
bif h==e.2.1 then some ((Ex.mk 2 c e.2.2.2 []),(i64.wrap (at_+1)),f,a) else b (i64.wrap (c+1)) else (bF 3 l at_ names f a).bind λd=>
some ((g d.1),at_,d.2.1,d.2.2)
def kK(f:Ex->Ex)(B:Sh->(R:Type)->Option R->Option R)(C:Ai->Option fD)(h:Int)(l:Q7)(at_:Int)(names:bp)(d:Int)(c:Int):Option fD:=
(idx l at_).bind λb=>
bif b.1==2 then some ((Ex.mk 1 b.2.2.1 b.2.2.2 []),(i64.wrap (at_+1)),d,c) else ai (b.1==1) λA=>
ai (b.2.1==[116,114,117,101]) λz=>
ai (A&&z) λy=>
bif y then (
some ((Ex.mk 13 0 b.2.2.2 []),(i64.wrap (at_+1)),d,c)) else (
ai (b.1==1) λx=>
ai (b.2.1==[102,97,108,115,101]) λw=>
ai (x&&w) λv=>
bif v then (
some ((Ex.mk 14 0 b.2.2.2 []),(i64.wrap (at_+1)),d,c)) else (
(jK b.2.1).bind λj=>
ai (b.1==1) λu=>
ai (!j) λt=>
ai (u&&t) λs=>
bif s then (
aj (yL f B l at_ names d c b) au 0) else (
ai (b.1 != 3) λr=>
ai (b.2.1 != [40]) λq=>
ai (r||q) λp=>
bif p then (
(bF 2 l at_ names d c).bind λg=>
some ((f g.1),at_,g.2.1,g.2.2)) else (
(C (1,h,l,(i64.wrap (at_+1)),names,d,c)).bind λa=>
bif a.2.2.1 != 0 then some ((Ex.mk 0 0 0 []),a.2.1,a.2.2.1,a.2.2.2) else (idx l a.2.1).bind λm=>
ai (m.1 != 3) λi=>
bC (!i) (0,[],0,0) (idx l a.2.1) λk=>
ai (k.2.1 != [41]) λo=>
ai (i||o) λn=>
bif n then (
(bF 2 l a.2.1 names a.2.2.1 a.2.2.2).bind λe=>
some ((f e.1),a.2.1,e.2.1,e.2.2)) else (
some ((f a.1),(i64.wrap (a.2.1+1)),a.2.2.1,a.2.2.2))))))
theorem xU(a:TK0)(i0:OK0 a):Ko (BL a):=
 eB (.r [] (.c .o (.c .o (.c .o (.c (.l ⟨[(true,0,(.bx 212 0 true [.same,.same,.same,.same,.same])),(true,4,(.bx 146 0 true [.same,.same,.same,.same])),(false,7,aq)],[]⟩ .o) .o))))) call115 func115 (aw vV (aw nH (aw i0 ax))) ax ax λs=>(show _=kK lJ eD a s.2.2.2.2.2 s.1 s.2.1 s.2.2.1 s.2.2.2.1 s.2.2.2.2.1 from by kernel_rfl).trans ((congrArg (λb=>kK b eD a s.2.2.2.2.2 s.1 s.2.1 s.2.2.1 s.2.2.2.1 s.2.2.2.2.1) dX).trans ((congrArg (λd=>kK id d a s.2.2.2.2.2 s.1 s.2.1 s.2.2.1 s.2.2.2.1 s.2.2.2.2.1) fJ).trans (by kernel_rfl)))
def NQ:aA:=⟨116,[(.dat vg []),aq],aq,[],U2 cV⟩
theorem IC:Ko NQ:=
 aG (.c (.c .o (.c .o (.c .o (.c .o (.c .o (.c (.l ⟨[(false,7,aq)],[]⟩ .o) .o)))))) .o) call116 func116 ax
def pN:aA:=⟨107,[agB,aq,aq],Vq,[(true,0,afl)],λs=>iD s.2.2.2.2.2.1 s.2.2.2.2.2.2 s.1 s.2.1 s.2.2.1 s.2.2.2.1 s.2.2.2.2.1⟩
def xu(f:Ex->Ex)(j:Sh->(R:Type)->Option R->Option R)(i:Ai->Option fD)(l:Q7)(at_:Int)(names:bp)(g:Int)(b:Int)(a:Int)(h:tD)(e:Int):Option fD:=
bif e==0 then (i (7,a,l,at_,names,g,b)).bind λd=>
some ((f d.1),d.2.1,d.2.2.1,d.2.2.2) else (i (6,a,l,(i64.wrap (at_+1)),names,g,b)).bind λc=>
some ((Ex.mk e 0 h.2.2.2 ([(f c.1)]:List Ex)),c.2.1,c.2.2.1,c.2.2.2)
def xE(g:Ex->Ex)(m:Sh->(R:Type)->Option R->Option R)(n:Ai->Option fD)(l:Q7)(at_:Int)(names:bp)(h:Int)(c:Int)(a:Int)(d:tD)(f:Int):Option fD:=
ai (λ(e:Int)=>xu g m n l at_ names h c a d e) λb=>
ai (d.1==1) λk=>
ai (d.2.1==[71]) λj=>
ai (k&&j) λi=>
bif i then (
b 22) else (
b f)
def xF(g:Ex->Ex)(m:Sh->(R:Type)->Option R->Option R)(n:Ai->Option fD)(l:Q7)(at_:Int)(names:bp)(h:Int)(c:Int)(a:Int)(d:tD)(f:Int):Option fD:=
ai (λ(e:Int)=>xE g m n l at_ names h c a d e) λb=>
ai (d.1==1) λk=>
ai (d.2.1==[70]) λj=>
ai (k&&j) λi=>
bif i then (
b 21) else (
b f)
def xB(g:Ex->Ex)(m:Sh->(R:Type)->Option R->Option R)(n:Ai->Option fD)(l:Q7)(at_:Int)(names:bp)(h:Int)(c:Int)(a:Int)(d:tD)(f:Int):Option fD:=
ai (λ(e:Int)=>xF g m n l at_ names h c a d e) λb=>
ai (d.1==1) λk=>
ai (d.2.1==[88]) λj=>
ai (k&&j) λi=>
bif i then (
b 20) else (
b f)
def xC(p:Ex->Ex)(w:Sh->(R:Type)->Option R->Option R)(v:Ai->Option fD)(a:Int)(l:Q7)(names:bp)(m:Int)(o:(Int×Int×Int×Int×Int×Int×(List Ex))->Option fD):Int×Int×Int×Int×Int×Int×(List Ex)->Option fD:=λ⟨h,g,n,f,e,d,c⟩=>
bif g==0 then (idx l h).bind λk=>
(cV k a).bind λj=>
bif j==0 then some ((Ex.mk f e d c),h,g,n) else ai (a==1) λu=>
ai (a==2) λt=>
ai (u||t) λs=>
ai (a==5) λr=>
ai (s||r) λq=>
bif q then (
(v (a,m,l,(i64.wrap (h+1)),names,g,n)).bind λi=>
some ((Ex.mk j 0 k.2.2.2 ([(Ex.mk f e d c),(p i.1)]:List Ex)),i.2.1,i.2.2.1,i.2.2.2)) else (
(v ((i64.wrap (a+1)),m,l,(i64.wrap (h+1)),names,g,n)).bind λb=>
bif a==7 then some ((Ex.mk j 0 k.2.2.2 ([(Ex.mk f e d c),(p b.1)]:List Ex)),b.2.1,b.2.2.1,b.2.2.2) else o (b.2.1,b.2.2.1,b.2.2.2,j,0,k.2.2.2,([(Ex.mk f e d c),(p b.1)]:List Ex))) else some ((Ex.mk f e d c),h,g,n)
def xG(h:Ex->Ex)(y:Sh->(R:Type)->Option R->Option R)(q:Ai->Option fD)(a:Int)(l:Q7)(at_:Int)(names:bp)(i:Int)(d:Int)(s:Bool)(b:Int):Option fD:=
ai (decide (320<b)) λx=>
ai (s&&x) λw=>
bif w then (
(bF 9 l at_ names i d).bind λk=>
some ((h k.1),at_,k.2.1,k.2.2)) else (
(idx l at_).bind λg=>
bif a==6 then ai (λ(r:Int)=>xB h y q l at_ names i d b g r) λj=>
ai (g.1==3) λv=>
ai (g.2.1==[33]) λu=>
ai (v&&u) λt=>
bif t then (
j 15) else (
j 0) else bif a==10 then ai (g.1 != 3) λp=>
ai (g.2.1 != [45]) λo=>
ai (p||o) λm=>
bif m then (
(dY q b l at_ names i d).bind λf=>
some ((h f.1),f.2.1,f.2.2.1,f.2.2.2)) else (
(q (10,b,l,(i64.wrap (at_+1)),names,i,d)).bind λe=>
some ((Ex.mk 6 0 g.2.2.2 ([(h e.1)]:List Ex)),e.2.1,e.2.2.1,e.2.2.2)) else (q ((i64.wrap (a+1)),b,l,at_,names,i,d)).bind λc=>
aj (xC h y q a l names b) au (c.2.1,c.2.2.1,c.2.2.2,c.1.op,c.1.n,c.1.at_,c.1.l))
def jF(h:Ex->Ex)(i:Sh->(R:Type)->Option R->Option R)(j:Ai->Option fD)(a:Int)(d:Int)(l:Q7)(at_:Int)(names:bp)(e:Int)(b:Int):Option fD:=
bif e != 0 then some ((Ex.mk 0 0 0 []),at_,e,b) else (ml a).bind λg=>
ai (λ(f:Int)=>xG h i j a l at_ names e b g f) λc=>
bif g then (
c (i64.wrap (d+1))) else (
c d)
def p6:TK0->TK0:=λa s=>dv a s.1 s.2.1 s.2.2.1 s.2.2.2.1 s.2.2.2.2.1 s.2.2.2.2.2.1 s.2.2.2.2.2.2
theorem vT(a:TK0)(i0:OK0 a):(ga (p6 a)).Ok X0.P X0.Γ:=
 eB (.c .o (.s (.j ⟨[(false,2,aq)],[]⟩ .o (.c .o (.r [] (.c (.s (.j ⟨[(false,9,aq)],[]⟩ .o (.j ⟨[(false,9,aq)],[]⟩ .o (.j ⟨[(false,9,aq)],[]⟩ .o (.j ⟨[(false,9,aq)],[]⟩ .o .o))))) (.c .o (.l ⟨[(true,0,afl),(true,6,(.bx 146 0 true [.same,.same,.same,.same])),(true,12,(.bx 146 0 true [aq,aq,aq,(.own .ex 146 true)]))],[]⟩ .o)))))))) call107 func107 (aw CT (aw nH (aw i0 (aw (xU a i0) (aw IC ax))))) ax ax λs=>(show _=jF lJ eD a s.2.2.2.2.2.1 s.2.2.2.2.2.2 s.1 s.2.1 s.2.2.1 s.2.2.2.1 s.2.2.2.2.1 from by kernel_rfl).trans ((congrArg (λb=>jF b eD a s.2.2.2.2.2.1 s.2.2.2.2.2.2 s.1 s.2.1 s.2.2.1 s.2.2.2.1 s.2.2.2.2.1) dX).trans ((congrArg (λd=>jF id d a s.2.2.2.2.2.1 s.2.2.2.2.2.2 s.1 s.2.1 s.2.2.1 s.2.2.2.1 s.2.2.2.2.1) fJ).trans (by kernel_rfl)))
theorem xw:Ko pN:=(show pN=ga (aj (p6) au) by kernel_rfl)▸nZ (X:=X0) (E:=ga) ⟨call107,λ_ _ h=>nomatch h⟩ (vT) au
def El:aA:=⟨98,[(.own vg 132 false),aq,S4],(.cW [Vq,aq,aq,aq]),[],U3 fy⟩
def nn(b:Ex->Ex)(c:Sh->(R:Type)->Option R->Option R)(l:Q7)(at_:Int)(names:bp):Option fD:=
(iD 1 0 l at_ names 0 0).bind λa=>
bif a.2.2.1 != 0 then some ((Ex.mk 0 0 0 []),0,a.2.2.1,a.2.2.2) else some ((b a.1),a.2.1,0,0)
theorem Bq:Ko El:=
 eB (.c (.r [6] .o) (.r [6] .o)) call98 func98 (aw xw ax) ax ax λs=>(show _=nn lJ eD s.1 s.2.1 s.2.2 from by kernel_rfl).trans ((congrArg (λa=>nn a eD s.1 s.2.1 s.2.2) dX).trans ((congrArg (λb=>nn id b s.1 s.2.1 s.2.2) fJ).trans (by kernel_rfl)))
def xT:aA:=⟨85,[wN],(.cW [aq,aq,aq]),[],λs=>dO s⟩
def FQ(j:Ex->Ex)(H:Sh->(R:Type)->Option R->Option R)(G:Ex->Option kW)(e:Ex)(f:F8->Option kW):Int×Int×Int×Int->Option kW:=λ⟨a,b,c,h⟩=>
bif decide (h<(List.length e.l:Int)) then (idx e.l h).bind λk=>
(G (j k)).bind λd=>
bif d.2.1 != 0 then some (0,d.2.1,d.2.2) else ai (λ(i:Int)=>ru b c h f d i) λg=>
bif d.1==1 then g (i64.wrap (a+1)) else g a else ai (decide (e.op<=6)) λF=>
ai (a==(List.length e.l:Int)) λE=>
ai (F&&E) λD=>
bif D then (
some (1,0,0)) else (
ai (decide (7<=e.op)) λC=>
ai (decide (e.op<=12)) λB=>
ai (C&&B) λA=>
ai (a==(List.length e.l:Int)) λz=>
ai (A&&z) λy=>
ai (e.op==13) λx=>
ai (y||x) λw=>
ai (e.op==14) λv=>
ai (w||v) λu=>
bif u then (
some (2,0,0)) else (
ai (decide (15<=e.op)) λt=>
ai (decide (e.op<=19)) λs=>
ai (t&&s) λr=>
ai (b==(List.length e.l:Int)) λq=>
ai (r&&q) λp=>
bif p then (
some (2,0,0)) else (
ai (decide (15<=e.op)) λo=>
ai ((i64.wrap (b+c))==(List.length e.l:Int)) λn=>
ai (o&&n) λm=>
bif m then (
some (3,0,0)) else (
some (0,4,e.at_)))))
def o7(a:Ex->Ex)(c:Sh->(R:Type)->Option R->Option R)(b:Ex->Option kW)(e:Ex):Option kW:=
aj (FQ a c b e) au (0,0,0,0)
def xL:TK1->TK1:=λk1 s=>jj k1 s
theorem CM(k1:TK1)(b:OK1 k1):(lv (xL k1)).Ok X0.P X0.Γ:=
 eB (.l ⟨[(false,5,aq),(false,6,aq),(false,7,aq),(false,8,aq)],[]⟩ (.c (.c .o (.j ⟨[(false,5,aq)],[]⟩ .o (.j ⟨[(false,6,aq)],[]⟩ .o .o))) .o)) call85 func85 (aw b ax) ax ax λs=>(show _=o7 lJ eD k1 s from by kernel_rfl).trans ((congrArg (λa=>o7 a eD k1 s) dX).trans ((congrArg (λd=>o7 id d k1 s) fJ).trans (by kernel_rfl)))
theorem u7:Ko xT:=(show xT=lv (aj (xL) au) by kernel_rfl)▸nZ (X:=X0) (E:=lv) ⟨call85,λ_ _ h=>nomatch h⟩ (CM) au
def FB:aA:=⟨85,[(.dat .ex [some 292])],(.cW [aq,aq,aq]),[],λs=>iO s⟩
def B7(j:Ex->Ex)(G:Sh->(R:Type)->Option R->Option R)(e:Ex)(f:F8->Option kW):Int×Int×Int×Int->Option kW:=λ⟨a,b,c,h⟩=>
bif decide (h<(List.length e.l:Int)) then (idx e.l h).bind λk=>
(dO (j k)).bind λd=>
bif d.2.1 != 0 then some (0,d.2.1,d.2.2) else ai (λ(i:Int)=>tK b c h f d i) λg=>
bif d.1==1 then g (i64.wrap (a+1)) else g a else ai (decide (e.op<=6)) λF=>
ai (a==(List.length e.l:Int)) λE=>
ai (F&&E) λD=>
bif D then (
some (1,0,0)) else (
ai (decide (7<=e.op)) λC=>
ai (decide (e.op<=12)) λB=>
ai (C&&B) λA=>
ai (a==(List.length e.l:Int)) λz=>
ai (A&&z) λy=>
ai (e.op==13) λx=>
ai (y||x) λw=>
ai (e.op==14) λv=>
ai (w||v) λu=>
bif u then (
some (2,0,0)) else (
ai (decide (15<=e.op)) λt=>
ai (decide (e.op<=19)) λs=>
ai (t&&s) λr=>
ai (b==(List.length e.l:Int)) λq=>
ai (r&&q) λp=>
bif p then (
some (2,0,0)) else (
ai (decide (15<=e.op)) λo=>
ai ((i64.wrap (b+c))==(List.length e.l:Int)) λn=>
ai (o&&n) λm=>
bif m then (
some (3,0,0)) else (
some (0,4,e.at_)))))
def nL(a:Ex->Ex)(b:Sh->(R:Type)->Option R->Option R)(e:Ex):Option kW:=
aj (B7 a b e) au (0,0,0,0)
theorem Cc:Ko FB:=
 eB (.l ⟨[(false,5,aq),(false,6,aq),(false,7,aq),(false,8,aq)],[]⟩ (.c (.c .o (.j ⟨[(false,5,aq)],[]⟩ .o (.j ⟨[(false,6,aq)],[]⟩ .o .o))) .o)) call85 func85 (aw u7 ax) ax ax λs=>(show _=nL lJ eD s from by kernel_rfl).trans ((congrArg (λa=>nL a eD s) dX).trans ((congrArg (λb=>nL id b s) fJ).trans (by kernel_rfl)))
def xz:aA:=⟨79,[Zc,aq],Vq,[(true,0,YY)],λs=>cE (d8 s).2 s.1 s.2.1 s.2.2.1 s.2.2.2.1 s.2.2.2.2.1 s.2.2.2.2.2.1 s.2.2.2.2.2.2.1 s.2.2.2.2.2.2.2.1 s.2.2.2.2.2.2.2.2.1⟩
def vn(b:Ex->Ex)(e:Sh->(R:Type)->Option R->Option R)(a:fD)(d:Int)(c:Int):Option fD:=
some ((b a.1),a.2.1,d,c)
def jh(p:Ex->Ex)(q:Sh->(R:Type)->Option R->Option R)(j:Int)(l:Q7)(at_:Int)(c:bp)(b:Q4)(h:Q1)(d:bp)(aT:Q5)(f:Int)(a:Int):Option fD:=
bif f != 0 then some ((Ex.mk 0 0 0 []),at_,f,a) else (fy l at_ c).bind λe=>
bif e.2.2.1 != 0 then (aJ e.2.2.1 e.2.2.2 l at_ c b h d aT f a).bind λo=>
some ((Ex.mk 0 0 0 []),at_,o.1,o.2) else (iO (p e.1)).bind λi=>
ai (λ(k:Int×Int)=>vn p q e k.1 k.2) λg=>
bif i.2.1 != 0 then (aJ i.2.1 i.2.2 l at_ c b h d aT f a).bind λn=>
g (n.1,n.2) else bif i.1 != j then (aJ 4 e.1.at_ l at_ c b h d aT f a).bind λm=>
g (m.1,m.2) else g (f,a)
theorem vo:Ko xz:=
 eB (.c .o (.r [0,40000] (.c .o (.s (.j ⟨[(true,0,Nh)],[]⟩ .o .o))))) call79 func79 (aw Bq (aw cK (aw Cc ax))) ax ax λs=>(show _=jh lJ eD (d8 s).2 s.1 s.2.1 s.2.2.1 s.2.2.2.1 s.2.2.2.2.1 s.2.2.2.2.2.1 s.2.2.2.2.2.2.1 s.2.2.2.2.2.2.2.1 s.2.2.2.2.2.2.2.2.1 from by kernel_rfl).trans ((congrArg (λa=>jh a eD (d8 s).2 s.1 s.2.1 s.2.2.1 s.2.2.2.1 s.2.2.2.2.1 s.2.2.2.2.2.1 s.2.2.2.2.2.2.1 s.2.2.2.2.2.2.2.1 s.2.2.2.2.2.2.2.2.1) dX).trans ((congrArg (λb=>jh id b (d8 s).2 s.1 s.2.1 s.2.2.1 s.2.2.2.1 s.2.2.2.2.1 s.2.2.2.2.2.1 s.2.2.2.2.2.2.1 s.2.2.2.2.2.2.2.1 s.2.2.2.2.2.2.2.2.1) fJ).trans (by kernel_rfl)))
def AK:aA:=⟨51,[(.bx 130 0 true [(.own vg 132 false),aq,S4,(.own lA 112 false),ZA,S4,(.own Cm 180 true),aq,aq])],ix,[(true,0,aqZ)],U9 iC⟩
def xx(k:Ex->Ex)(p:Sh->(R:Type)->Option R->Option R)(l:Q7)(e:bp)(b:Q4)(f:Q1)(d:bp)(aT:Q5)(j:Sg)(c:W8->Option u5)(i:Int)(o:Int)(n:Int)(m:Int):Option u5:=
(bN [61] l m e b f d aT o n).bind λh=>
(cE 1 l h.1 e b f d aT h.2.1 h.2.2).bind λa=>
aN (aH (List.length j+List.length ([(i,(k a.1))]:List (Int×Ex))) 56)<|
(bU 3 [44] l a.2.1 e b f d aT a.2.2.1 a.2.2.2).bind λg=>
bif g then (
c ((i64.wrap (a.2.1+1)),a.2.2.1,a.2.2.2,(j++([(i,(k a.1))]:List (Int×Ex))),g)) else (
c (a.2.1,a.2.2.1,a.2.2.2,(j++([(i,(k a.1))]:List (Int×Ex))),g))
def xt(m:Ex->Ex)(o:Sh->(R:Type)->Option R->Option R)(l:Q7)(e:bp)(b:Q4)(h:Q1)(d:bp)(aT:Q5)(g:Int)(k:Sg)(a:W8->Option u5)(j:Int)(f:Int)(n:Int):Option u5:=
ai (λ(i:Int)=>xx m o l e b h d aT k a j f n i) λc=>
bif f==0 then c (i64.wrap (g+1)) else c g
def xr(v:Ex->Ex)(z:Sh->(R:Type)->Option R->Option R)(l:Q7)(d:bp)(b:Q4)(h:Q1)(c:bp)(aT:Q5)(r:Int)(q:Int)(p:Int)(m:Sg)(g:W8->Option u5)(o:tD)(k:Int)(f:Fe->Option u5):Bool×Int->Option u5:=λ⟨a,n⟩=>
bif decide (n<(m.length:Int)) then bC (!a) (0,(Ex.mk 0 0 0 [])) (idx m n) λw=>
ai (w.1==k) λy=>
ai (a||y) λx=>
f (x,(i64.wrap (n+1))) else ai (λ(s:Int×Int)=>xt v z l d b h c aT r m g k s.1 s.2) λe=>
bif o.1 != 1 then (aJ 2 o.2.2.2 l r d b h c aT q p).bind λj=>
e (j.1,j.2) else ai (decide (k<0)) λu=>
ai (u||a) λt=>
bif t then (
(aJ 3 o.2.2.2 l r d b h c aT q p).bind λi=>
e (i.1,i.2)) else (
e (q,p))
def xA(i:Ex->Ex)(s:Sh->(R:Type)->Option R->Option R)(l:Q7)(b:bp)(c:Q4)(g:Q1)(a:bp)(aT:Q5)(m:fD)(e:W8->Option u5):Int×Int×Int×Sg×Bool->Option u5:=λ⟨k,j,o,h,f⟩=>
ai (j==0) λr=>
ai (f&&r) λq=>
bif q then (
(idx l k).bind λn=>
(cQ b n.2.1).bind λp=>
aj (xr i s l b c g a aT k j o h e n p) au (false,0)) else (
(bN [59] l k b c g a aT j o).bind λd=>
aN (aH (List.length aT+List.length ([((i64.wrap ((a.length:Int)-1)),(i m.1),h)]:List Q52)) 80)<|
some (d.1,(aT++([((i64.wrap ((a.length:Int)-1)),(i m.1),h)]:List Q52)),d.2.1,d.2.2))
def xy(g:Ex->Ex)(j:Sh->(R:Type)->Option R->Option R)(l:Q7)(at_:Int)(c:bp)(a:Q4)(d:Q1)(b:bp)(aT:Q5)(i:Int)(h:Int):Option u5:=
(cE 2 l at_ c a d b aT i h).bind λe=>
(bN [58] l e.2.1 c a d b aT e.2.2.1 e.2.2.2).bind λf=>
aj (xA g j l c a d b aT e) au (f.1,f.2.1,f.2.2,[],true)
def kh(k:Ex->Ex)(m:Sh->(R:Type)->Option R->Option R)(l:Q7)(at_:Int)(d:bp)(a:Q4)(f:Q1)(c:bp)(aT:Q5)(i:Int)(b:Int):Option u5:=
ai (λ(g:Int×Int)=>xy k m l at_ d a f c aT g.1 g.2) λe=>
bif decide (256<=(aT.length:Int)) then (bq l at_ d a f c aT i b).bind λj=>
(aJ 9 j l at_ d a f c aT i b).bind λh=>
e (h.1,h.2) else e (i,b)
theorem xv:Ko AK:=
 eB (.j ⟨[(true,0,Nh)],[]⟩ .o (.l ⟨[(true,0,YY),(true,2,(.bx 180 0 true [.same,.same,.same,.same,.same,(.own (.p bf .ex) 183 true)])),(false,3,.bool)],[]⟩ (.c (.r [] (.r [0] (.l ⟨[(false,6,.bool),(false,7,aq)],[]⟩ (.c .o (.j ⟨[(true,0,Nh)],[4]⟩ .o (.j ⟨[(true,0,al9)],[]⟩ .o .o)))))) (.r [0,2] .o)))) call51 func51 (aw vo (aw ki (aw rC (aw iF (aw cK (aw gG ax)))))) ax ax λs=>(show _=kh lJ eD s.1 s.2.1 s.2.2.1 s.2.2.2.1 s.2.2.2.2.1 s.2.2.2.2.2.1 s.2.2.2.2.2.2.1 s.2.2.2.2.2.2.2.1 s.2.2.2.2.2.2.2.2 from by kernel_rfl).trans ((congrArg (λa=>kh a eD s.1 s.2.1 s.2.2.1 s.2.2.2.1 s.2.2.2.2.1 s.2.2.2.2.2.1 s.2.2.2.2.2.2.1 s.2.2.2.2.2.2.2.1 s.2.2.2.2.2.2.2.2) dX).trans ((congrArg (λb=>kh id b s.1 s.2.1 s.2.2.1 s.2.2.2.1 s.2.2.2.2.1 s.2.2.2.2.2.1 s.2.2.2.2.2.2.1 s.2.2.2.2.2.2.2.1 s.2.2.2.2.2.2.2.2) fJ).trans (by kernel_rfl)))
def BV:aA:=⟨75,[Zc],aq,[(true,0,YY)],U9 dZ⟩
theorem ye:Ko BV:=
 aG (.s (.s (.j ⟨[(true,0,al9)],[]⟩ .o (.r [] (.j ⟨[(true,0,Nh)],[]⟩ .o .o))))) call75 func75 (aw iF (aw cK ax))
def I7:aA:=⟨76,[jV],.bool,[],λs=>nz s⟩
theorem Fb:Ko I7:=
 aG (.c .o (.l ⟨[(false,3,aq)],[]⟩ .o)) call76 func76 ax
def yV:aA:=⟨48,[(.bx 130 0 true [(.own vg 132 false),aq,(.own .s 9 true),(.own lA 112 true),lB,S4,(.own Cm 180 false),aq,aq])],ix,[(true,0,aqG)],U9 gZ⟩
theorem wg:Ko yV:=
 aG (.s (.s (.s (.s (.s (.s (.s (.s (.j ⟨[(true,0,Nh)],[]⟩ .o (.r [0] .o)))))))))) call48 func48 (aw rv (aw gG (aw ye (aw ki (aw Fb (aw cK ax))))))
def Jd:aA:=⟨26,[.str],(.cW [alV,aq,aq]),[],λs=>fE s⟩
theorem Ez:Ko Jd:=
 aG (.c .o (.l ⟨[(true,8,(.bx 130 0 true [.same,aq,(.own .s 9 true),(.own lA 112 true),lB,(.own .s 9 true),(.own Cm 180 true),aq,aq]))],[]⟩ (.c (.s (.s (.j ⟨[(true,8,Nh)],[]⟩ .o (.j ⟨[(true,8,al9)],[]⟩ .o (.j ⟨[(true,8,aqG)],[]⟩ .o (.c (.l ⟨[(true,8,aqZ),(false,12,.bool)],[]⟩ .o) .o)))))) (.j ⟨[(true,8,Nh)],[]⟩ .o (.c (.r [2] .o) .o))))) call26 func26 (aw CK (aw iF (aw rv (aw ki (aw xv (aw wg (aw gG (aw cK ax))))))))
def Nc:aA:=⟨12,[.str],(.cW [alV,.bool]),[],λs=>mX s⟩
theorem wZ:Ko Nc:=
 aG .o call12 func12 (aw Ez ax)
def ON:aA:=⟨62,[(.dat lA [])],.bool,[],λs=>tf s⟩
theorem J8:Ko ON:=
 aG .o call62 func62 ax
def MD:aA:=⟨61,[jV,(.fn 62 [] [])],(.own .bo 4 true),[],λs=>rL s⟩
theorem H5:Ko MD:=
 aG (.l ⟨[(true,5,(.own .bo 4 true)),(false,13,aq)],[]⟩ .o) call61 func61 (aw J8 ax)
def Fg:aA:=⟨86,[(.sli .bo),.bool],aq,[],U2 po⟩
theorem Br:Ko Fg:=
 aG (.l ⟨[(false,8,aq)],[]⟩ .o) call86 func86 ax
def BE:aA:=⟨60,[(.sli .bo),.bool],.bool,[],U2 jc⟩
theorem xR:Ko BE:=
 aG .o call60 func60 (aw Br ax)
def U5:aA:=⟨36,[jV],.bool,[],λs=>tX s⟩
theorem Cy:Ko U5:=
 aG .o call36 func36 (aw H5 (aw xR ax))
def vl:aA:=⟨37,[jV],(.own lA 112 true),[],λs=>cL s⟩
def vz(s:Q4):Option Q4:=
Az s (
some []) (
aN (aH (List.length ([]:List jk)+List.length s) 16)<|
some (([]:List jk)++s))
theorem km:Ko vl:=
 eB .o call37 func37 ax ax ax λs=>(show _=vz s from by kernel_rfl).trans oE
def XL:aA:=⟨22,[sP,pb],(.cW [(.own lA 112 true),aq]),[],U2 vC⟩
theorem PS:Ko XL:=
 aG (.c .o (.r [40000] .o)) call22 func22 (aw Cy (aw km ax))
def XN:aA:=⟨38,[],(.sli .n),[],λ_=>ct⟩
theorem ER:Ko XN:=
 aG .o call38 func38 ax
def Pb:aA:=⟨166,[aq],(.cW [(.dat gM [some 149,some 7]),aq]),[],λs=>oQ s⟩
theorem AQ:Ko Pb:=
 aG .o call166 func166 ax
def af7:aA:=⟨161,[aq],(.cW [(.dat (.p gM mb) [some 149,some 7,some 11]),aq]),[],λs=>KV s⟩
theorem Yi:Ko af7:=
 aG .o call161 func161 (aw AQ ax)
def LC:aA:=⟨155,[pR,px,Qp],(.cW [(.dat UA [none,some 149,some 7,some 11,none,none,none,none,none,none,none,none,none,none,none,none,none,none,none]),aq]),[],U3 jM⟩
theorem GR:Ko LC:=
 aG .o call155 func155 (aw Yi ax)
def Jo:aA:=⟨201,[jV,aq],(.cW [(.dat ZO [some 147,some 149,some 7,some 11]),aq]),[],U2 Jz⟩
def XB(f:Nat)(s:Q4)(most:Int)(e:(Q6×Int))(a:((List Q6)×Int)->Option (Ab×Int)):(List Q6)×Int->Option (Ab×Int):=λ⟨b,c⟩=>
bif decide (c<(i64.wrap (Int.tdiv (i64.wrap ((i64.wrap ((s.length:Int)+2))-1)) 2))) then (oQ most).bind λd=>
aN (aH (List.length b+List.length ([d.1]:List Q6)) 56)<|
a ((b++([d.1]:List Q6)),(i64.wrap (c+1))) else some ((b,e.1,[]),0)
def aeO(fl:Nat)(s:Q4)(most:Int):Option (Ab×Int):=
(oQ most).bind λa=>
bif a.2 != 0 then some (([],(0,[],[]),[]),a.2) else aj (XB fl s most a) fl ([],0)
theorem V2(fl:Nat)(s:fK (rH Jo.ps)):abt { X0 with fl:=fl } [Pb] [] [] (.c .o (.l ⟨[(true,4,agI),(true,8,ae4),(false,27,aq)],[]⟩ .o)) Tryz.f201 Jo s=aeO fl s.1 s.2:=by kernel_rfl
theorem XH:Ko Jo:=
 eB (.c .o (.l ⟨[(true,4,agI),(true,8,ae4),(false,27,aq)],[]⟩ .o)) call201 func201 (aw AQ ax) ax ax λs=>(V2 au s).trans (by kernel_rfl)
def KD:aA:=⟨195,[pR,px,Qp],(.cW [(.dat UA [none,none,none,none,some 147,some 149,some 7,some 11,none,none,none,none,none,none,none,none,none,none,none]),aq]),[],U3 iP⟩
theorem FU:Ko KD:=
 aG .o call195 func195 (aw XH ax)
def acT:aA:=⟨223,[aq],(.cW [(.dat gM [some 149,some 7]),aq]),[],λs=>LP s⟩
theorem Vs:Ko acT:=
 aG .o call223 func223 (aw AQ ax)
def PG:aA:=⟨224,[aq],aq,[],λs=>wU s⟩
def PQ:TK2->TK2:=λa s=>sA a s
theorem P0(a:TK2)(b:OK2 a):(x9 (PQ a)).Ok X0.P X0.Γ:=
 aG .o call224 func224 (aw b ax)
theorem Aw:Ko PG:=(show PG=x9 (aj (PQ) au) by kernel_rfl)▸nZ (X:=X0) (E:=x9) ⟨call224,λ_ _ h=>nomatch h⟩ (P0) au
def afT:aA:=⟨219,[jV,aq],(.cW [(.dat Zp [some 541,some 11]),aq]),[],U2 KZ⟩
theorem XK:Ko afT:=
 aG (.c .o (.r [30000,20006] (.l ⟨[(true,4,(.bx 82 0 true [.same,.same])),(true,8,(.bx 82 0 true [(.own gM 270 true),.same])),(false,23,aq)],[]⟩ .o))) call219 func219 (aw Vs (aw Aw ax))
def Kn:aA:=⟨213,[pR,px,Qp],(.cW [(.dat UA [none,none,none,none,none,none,none,none,some 541,some 11,none,none,none,none,none,none,none,none,none]),aq]),[],U3 iT⟩
theorem FG:Ko Kn:=
 aG .o call213 func213 (aw XK ax)
def acX:aA:=⟨185,[Kt],aq,[],λs=>BT s⟩
theorem Ir:Ko acX:=
 aG (.l ⟨[(false,0,Kt),(false,3,aq)],[]⟩ .o) call185 func185 ax
def MF:aA:=⟨177,[(.dat lA [])],aq,[],λs=>kf s⟩
theorem Is:Ko MF:=
 aG .o call177 func177 (aw Ir ax)
def OK:aA:=⟨176,[jV,(.fn 177 [] [])],lB,[],λs=>oA s⟩
theorem yv:Ko OK:=
 aG (.l ⟨[(true,5,lB),(false,13,aq)],[]⟩ .o) call176 func176 (aw Is ax)
def Ye:aA:=⟨188,[jV],aq,[],λs=>A6 s⟩
theorem Re:Ko Ye:=
 aG (.l ⟨[(false,3,aq),(false,9,aq)],[]⟩ .o) call188 func188 (aw yv ax)
def Va:aA:=⟨179,[jV],aq,[],λs=>pW s⟩
theorem Ct:Ko Va:=
 aG .o call179 func179 (aw Re ax)
def ajL:aA:=⟨246,[aq],(.cW [(.dat Ak [some 547,some 7]),aq]),[],λs=>Ob s⟩
theorem aaz:Ko ajL:=
 aG .o call246 func246 ax
def Lv:aA:=⟨240,[pR,px,Qp],JC,[],U3 gT⟩
theorem HA:Ko Lv:=
 aG (.c .o (.l ⟨[(true,4,(.bx 91 0 true [.same,.same,.same,.same,.same,.same,.same,.same,.same,.same,.same,.same,.same,.same,aq,(.sli tS),aq,aq,aY,aq,(.sli tS),aq,aq,aY,aq,(.sli tS),aq,aq,aY,.same,.same,.same,.same,.same,.same])),(true,6,(.bx 91 0 true [.same,.same,.same,.same,.same,.same,.same,.same,.same,.same,.same,.same,.same,.same,.same,.same,.same,.same,.same,.same,.same,.same,.same,.same,.same,.same,.same,.same,.same,.same,.same,.same,.same,.same,.same])),(false,18,aq)],[]⟩ .o)) call240 func240 (aw Ct (aw aaz ax))
def ag7:aA:=⟨280,[aq,aq,Kt],(.cW [(.dat Hg [some 11,some 11,some 11]),aq]),[],U3 Jj⟩
theorem XC:Ko ag7:=
 aG (.c .o (.l ⟨[(true,6,(.bx 89 0 true [.same,.same,.same,.same,.same,.same])),(true,8,(.bx 89 0 true [.same,.same,.same,jn,jn,jn])),(false,29,aq)],[]⟩ .o)) call280 func280 ax
def LI:aA:=⟨274,[pR,px,Qp],JC,[],U3 lN⟩
theorem GW:Ko LI:=
 aG .o call274 func274 (aw XC ax)
def acb:aA:=⟨23,[jV,Qp],JC,[],U2 gh⟩
theorem VM:Ko acb:=
 aG (.r [] (.c .o (.r [3,40000] .o))) call23 func23 (aw Cy (aw ER (aw km (aw GR (aw FU (aw FG (aw HA (aw GW ax))))))))
def ab9:aA:=⟨63,[pb,aY,aY],(.fn 87 [] [Yq,(.bx 26 0 true [(.sli (.l .ex)),(.sli sX),aY,(.sli sX)]),Yq]),[],U3 BQ⟩
theorem IK:Ko ab9:=
 aG .o call63 func63 ax
def aaw:aA:=⟨109,[.bool],aq,[],λs=>yk s⟩
theorem RH:Ko aaw:=
 aG .o call109 func109 ax
def PC:aA:=⟨102,[wN,aY],aq,[],U2 rz⟩
def Vd(s:Ex->Ex)(z:Sh->(R:Type)->Option R->Option R)(y:(Ex×Q1)->zb)(e:Ex)(q:Q1)(b:kW->zb):Int×Int×Int->zb:=λ⟨a,c,d⟩=>
bif decide (d<(List.length (aV e.l 0 (min (List.length e.l:Int) 2)):Int)) then (idx (aV e.l 0 (min (List.length e.l:Int) 2)) d).bind λu=>
(y ((s u),q)).bind λk=>
bif d==0 then b (k,c,(i64.wrap (d+1))) else bif d==1 then b (a,k,(i64.wrap (d+1))) else none else ai (λ(j:Int×Int×Bool)=>EO j.1 j.2.1 j.2.2) λp=>
ai (λ(i:Int×Int×Bool)=>Eb i.1 i.2.1 i.2.2) λo=>
ai (λ(h:Int×Int×Bool)=>EI h.1 h.2.1 h.2.2) λg=>
bif e.op==1 then some e.n else bif e.op==2 then ai (decide (e.n<0)) λCs=>
ai (decide ((q.length:Int)<=e.n)) λw=>
ai (Cs||w) λv=>
bif v then (
some 0) else (
(idx q e.n).bind λt=>
some t) else bif e.op==3 then some (i64.wrap (a+c)) else bif e.op==5 then some (i64.wrap (a*c)) else bif e.op==6 then some (i64.wrap (0-a)) else bif e.op==4 then some (i64.wrap (a-c)) else bif e.op==8 then g (a,c,true) else ai (λ(x:Unit)=>DT e a c p o) λm=>
ai (λ(r:Bool)=>EZ a c g m r) λf=>
bif e.op==7 then f (e.op==7) else f (e.op==19)
def B9(a:Ex->Ex)(d:Sh->(R:Type)->Option R->Option R)(c:(Ex×Q1)->zb)(e:Ex)(b:Q1):zb:=
aN (cZ 0 (min (List.length e.l:Int) 2) (List.length e.l))<|
aj (Vd a d c e b) au (0,0,0)
def Px:TK3->TK3:=λa s=>vD a s.1 s.2
theorem Qo(a:TK3)(d:OK3 a):(yA (Px a)).Ok X0.P X0.Γ:=
 eB (.l ⟨[(true,5,(.bx 215 0 true [aq,aq])),(false,19,aq)],[]⟩ (.c .o (.r [] (.s (.s (.s (.s (.s (.s (.s (.s (.j ⟨[(false,8,aq),(false,9,aq),(false,10,.bool)],[2]⟩ (.s (.j ⟨[(false,8,aq),(false,9,aq),(false,10,.bool)],[2]⟩ (.s (.j ⟨[(false,8,aq),(false,9,aq),(false,10,.bool)],[2]⟩ (.c .o (.c .o (.c .o (.c .o (.c .o (.c .o (.c .o (.j ⟨[],[]⟩ (.j ⟨[(false,50,.bool)],[]⟩ .o .o) .o)))))))) .o)) .o)) .o)))))))))))) call102 func102 (aw d (aw RH ax)) ax ax λs=>(show _=B9 lJ eD a s.1 s.2 from by kernel_rfl).trans ((congrArg (λb=>B9 b eD a s.1 s.2) dX).trans ((congrArg (λe=>B9 id e a s.1 s.2) fJ).trans (by kernel_rfl)))
theorem AO:Ko PC:=(show PC=yA (aj (Px) au) by kernel_rfl)▸nZ (X:=X0) (E:=yA) ⟨call102,λ_ _ h=>nomatch h⟩ (Qo) au
def Yd:aA:=⟨101,[wN,Za],.bool,[],U2 A5⟩
def B0(a:Ex->Ex)(c:Sh->(R:Type)->Option R->Option R)(e:Ex)(x:Q1):x3:=
(rz (a e) x).bind λb=>
some (b != 1)
theorem QP:Ko Yd:=
 eB .o call101 func101 (aw AO ax) ax ax λs=>(show _=B0 lJ eD s.1 s.2 from by kernel_rfl).trans ((congrArg (λa=>B0 a eD s.1 s.2) dX).trans ((congrArg (λb=>B0 id b s.1 s.2) fJ).trans (by kernel_rfl)))
def uv:aA:=⟨108,[(.sli .ex),(.fn 101 [] [Za])],aq,[],U2 gV⟩
def sg(e:Ex->Ex)(g:Sh->(R:Type)->Option R->Option R)(s:(List Ex))(c:Q1)(a:Int->zb)(b:Int):zb:=
bif decide (b<(s.length:Int)) then (idx s b).bind λf=>
(A5 (e f) c).bind λd=>
bif d then (
some b) else (
a (i64.wrap (b+1))) else some (-1)
def gi(a:Ex->Ex)(b:Sh->(R:Type)->Option R->Option R)(s:(List Ex))(c:Q1):zb:=
aj (sg a b s c) au 0
theorem sd:Ko uv:=
 eB (.l ⟨[(false,8,aq)],[]⟩ .o) call108 func108 (aw QP ax) ax ax λs=>(show _=gi lJ eD s.1 s.2 from by kernel_rfl).trans ((congrArg (λa=>gi a eD s.1 s.2) dX).trans ((congrArg (λb=>gi id b s.1 s.2) fJ).trans (by kernel_rfl)))
def su:aA:=⟨100,[(.sli .ex),(.fn 101 [] [Za])],.bool,[],U2 fW⟩
theorem pP:Ko su:=
 aG .o call100 func100 (aw sd ax)
def aeX:aA:=⟨88,[pb,aq,aY],.bool,[],U3 Fp⟩
theorem Lf:Ko aeX:=
 aG .o call88 func88 (aw pP ax)
def HF:aA:=⟨89,[aY],lB,[],λs=>bu s⟩
def HD(s:Q1):Option Q1:=
Az s (
some []) (
aN (aH (List.length ([]:zj)+List.length s) 8)<|
some (([]:zj)++s))
theorem dW:Ko HF:=
 eB .o call89 func89 ax ax ax λs=>(show _=HD s from by kernel_rfl).trans oE
def xD:aA:=⟨103,[jn,aq,aq],jn,[],U3 jX⟩
theorem vm:Ko xD:=
 aG (.s (.s (.j ⟨[(false,0,jn),(false,7,Kt)],[]⟩ .o .o))) call103 func103 (aw ahP ax)
def HV:aA:=⟨90,[jn,aq,aq],jn,[],U3 lY⟩
theorem Di:Ko HV:=
 aG .o call90 func90 (aw vm ax)
def UL:aA:=⟨64,[ZU,aY],ix,[(true,0,ZU)],λs=>tT s.2.2 s.1 s.2.1⟩
theorem CB:Ko UL:=
 aG (.j ⟨[(true,0,(.bx 161 0 true [.same,(.mp .s .bo true)]))],[]⟩ .o (.l ⟨[(true,0,(.bx 161 0 true [.same,.same])),(false,4,jn),(false,18,aq)],[]⟩ (.c .o (.r [] (.c (.r [0] .o) .o))))) call64 func64 (aw Di ax)
def acu:aA:=⟨39,[sP,pb],yw,[],U2 Bx⟩
theorem abK:(⟨87,Tryz.f87⟩:pr).Ok X0.P:=⟨call87,func87⟩
theorem Vz:Ko acu:=
 eB (.c (.c (.l ⟨[(false,9,aq),(true,10005,ZU)],[]⟩ (.c (.n 4 (.c .o .o)) .o)) .o) (.r [70000,5] .o)) call39 func39 (aw IK (aw Lf (aw dW (aw CB ax)))) ax (aw abK ax) λ_=>by kernel_rfl
def OU:aA:=⟨104,[(.dat lA []),aq],.bool,[],U2 lq⟩
theorem yM:Ko OU:=
 aG .o call104 func104 ax
def PR:aA:=⟨91,[jV,aY],aq,[],U2 fC⟩
theorem iV:Ko PR:=
 aG (.c .o (.l ⟨[(false,14,aq)],[]⟩ .o)) call91 func91 (aw yM ax)
def agY:aA:=⟨92,[px],.ifn,[],λs=>dJ s⟩
theorem BX:Ko agY:=
 aG (.r [1] .o) call92 func92 (aw ER ax)
def Xy:aA:=⟨181,[eO],jn,[],λs=>vN s⟩
def Xv(b:Q1):Option Q1:=
Az b (
some []) (
aN (aH (List.length ([]:zj)+List.length b) 1)<|
some (([]:zj)++b))
theorem DK:Ko Xy:=
 eB .o call181 func181 ax ax ax λs=>(show _=Xv s from by kernel_rfl).trans oE
def ahK:aA:=⟨186,[(.dat wj [none])],afv,[],λs=>V9 s⟩
theorem Y9:Ko ahK:=
 aG .o call186 func186 (aw DK ax)
def V6:aA:=⟨187,[afv,.bool],ix,[(true,0,afv)],λs=>yn s.2.2 s.1 s.2.1⟩
theorem O1:Ko V6:=
 aG (.j ⟨[(true,0,(.bx 317 0 true [jn,.same]))],[]⟩ .o (.j ⟨[(true,0,(.bx 317 0 true [jn,.same]))],[]⟩ (.c (.r [0] .o) .o) .o)) call187 func187 ax
def afi:aA:=⟨178,[(.dat wj [none]),Kt,aq],(.cW [(.dat wj [none]),aq]),[],U3 JI⟩
theorem Xs:Ko afi:=
 aG (.c .o (.c .o (.l ⟨[(true,6,(.bx 296 0 true [.same,.same])),(true,8,afv),(false,9,aq)],[]⟩ (.c (.r [8] .o) .o)))) call178 func178 (aw Ir (aw Y9 (aw O1 ax)))
def F7:aA:=⟨169,[jV,aY],(.cW [jn,aq]),[],U2 lE⟩
theorem tL:Ko F7:=
 aG (.c .o (.l ⟨[(true,7,(.bx 296 0 true [eO,aq])),(false,20,aq)],[]⟩ (.c (.r [7] .o) .o))) call169 func169 (aw iV (aw yv (aw Xs (aw Ct ax))))
def ac2:aA:=⟨163,[px,aY],eO,[],U2 eR⟩
theorem fz:Ko ac2:=
 aG .o call163 func163 (aw tL ax)
def X7:aA:=⟨192,[PW],ix,[(true,0,PW)],λs=>Ph s⟩
theorem Qd:Ko X7:=
 aG .o call192 func192 ax
def Xw:aA:=⟨193,[PW],ix,[(true,0,PW)],λs=>PD s⟩
theorem QA:Ko Xw:=
 aG .o call193 func193 ax
def XQ:aA:=⟨194,[PW],ix,[(true,0,PW)],λs=>Pf s⟩
theorem Qe:Ko XQ:=
 aG .o call194 func194 ax
def ag0:aA:=⟨190,[eO,Kt],Kt,[],U2 DL⟩
theorem Cp:Ko ag0:=
 aG (.l ⟨[(true,5,PW),(false,15,aq)],[]⟩ (.c .o (.n 50 .o))) call190 func190 (aw Qd (aw QA (aw Qe ax)))
def acN:aA:=⟨189,[Kt,aq],aq,[],U2 wW⟩
theorem As:Ko acN:=
 aG .o call189 func189 ax
def Xx:aA:=⟨191,[eO,eO],.bool,[],U2 vG⟩
theorem Ft:Ko Xx:=
 aG .o call191 func191 ax
def O3:aA:=⟨183,[Hf,eO],aq,[],U2 fO⟩
theorem yQ:Ko O3:=
 aG (.n 0 (.j ⟨[(false,5,aq)],[]⟩ .o .o)) call183 func183 (aw Cp (aw As (aw Ft ax)))
def OZ:aA:=⟨184,[Hf,eO],QI,[],U2 yd⟩
theorem Ki:Ko OZ:=
 aG .o call184 func184 (aw yQ ax)
def aag:aA:=⟨175,[Hf,eO],QI,[],U2 dP⟩
theorem oN:Ko aag:=
 aG .o call175 func175 (aw Ki ax)
def KN:aA:=⟨183,[(.dat gM [some 148,some 6]),eO],aq,[],U2 oK⟩
theorem FF:Ko KN:=
 aG (.n 0 (.j ⟨[(false,5,aq)],[]⟩ .o .o)) call183 func183 (aw Cp (aw As (aw Ft ax)))
def L9:aA:=⟨182,[(.bx 306 0 true [aq,(.own mb 74 true),aY]),aq],ix,[(true,0,(.bx 306 0 true [.same,(.own mb 74 true),aY]))],λs=>sa s.2.2.2 s.1 s.2.1 s.2.2.1⟩
theorem Iv:Ko L9:=
 aG (.l ⟨[(true,0,(.bx 306 0 true [.same,(.own mb 74 true),lB])),(false,18,(.slr 1)),(false,20,aq)],[]⟩ (.c (.r [0] .o) .o)) call182 func182 (aw FF ax)
def HY:aA:=⟨170,[Hf,eO],(.cW [Hf,aq,.bool,aq]),[],U2 cj⟩
theorem vq:Ko HY:=
 aG (.c .o (.c .o (.s (.s (.j ⟨[(true,11,(.bx 306 0 true [.same,(.own mb 74 true),aY]))],[2]⟩ (.c .o (.r [11] .o)) .o))))) call170 func170 (aw oN (aw DK (aw Iv (aw dW (aw yQ ax)))))
def XW:aA:=⟨164,[PU,eO],(.cW [PU,.bool,aq]),[],U2 A9⟩
theorem PZ:Ko XW:=
 aG (.c .o (.r [4,40000] .o)) call164 func164 (aw vq ax)
def Kj:aA:=⟨157,[pR,px,aY],UK,[],U3 kJ⟩
theorem FM:Ko Kj:=
 aG (.r [40000] .o) call157 func157 (aw fz (aw PZ ax))
def Lo:aA:=⟨209,[jV,aY],(.fn 212 [] [(.bx 32 0 true [jV]),Yq]),[],U2 vS⟩
theorem Ej:Ko Lo:=
 aG .o call209 func209 ax
def K9:aA:=⟨210,[jn,aY],jn,[],U2 vP⟩
theorem E4:Ko K9:=
 aG (.l ⟨[(false,0,jn),(false,10,aq)],[]⟩ (.c (.l ⟨[(false,0,jn),(false,14,aq)],[]⟩ .o) .o)) call210 func210 ax
def Po:aA:=⟨206,[LQ,jV,aY],aq,[],U3 tY⟩
theorem W2:(⟨212,Tryz.f212⟩:pr).Ok X0.P:=⟨call212,func212⟩
theorem Iq:Ko Po:=
 eB (.c (.c (.l ⟨[(false,4,aq),(true,10006,(.bx 3 0 true [aq])),(true,10007,(.bx 74 0 true [jn]))],[]⟩ .o) .o) (.r [70000,6,7] .o)) call206 func206 (aw Ej (aw tL (aw oN (aw E4 ax)))) ax (aw W2 ax) λ_=>by kernel_rfl
def ZR:aA:=⟨211,[Hf],aq,[],λs=>x6 s⟩
theorem F3:Ko ZR:=
 aG .o call211 func211 ax
def Pu:aA:=⟨207,[LQ],aq,[],λs=>BN s⟩
theorem Wc:Ko Pu:=
 aG .o call207 func207 (aw F3 ax)
def lK:aA:=⟨208,[(.sli gM)],(.own gM 73 true),[],λs=>dB s⟩
def vx(s:(List Q6)):Option (List Q6):=
Az s (
some []) (
aN (aH (List.length ([]:List Q6)+List.length s) 56)<|
some (([]:List Q6)++s))
theorem tu:Ko lK:=
 eB .o call208 func208 ax ax ax λs=>(show _=vx s from by kernel_rfl).trans oE
def BZ:aA:=⟨203,[LQ,jV,aY],(.cW [LQ,.bool,aq]),[],U3 Bc⟩
def Qi(n:Nat)(c:Ab)(o:Q4)(b:(Q4×Q1))(e:(Int×(List Q6)×Q1)->Option Q51):Int×(List Q6)×Q1->Option Q51:=λ⟨a,d,j⟩=>
bif decide ((i64.wrap (a*2))<(b.1.length:Int)) then aN (cZ (i64.wrap (a*2)) (min (b.1.length:Int) (i64.wrap ((i64.wrap (a+1))*2))) (List.length b.1))<|
aN (cZ (i64.wrap (a*2)) (min (b.1.length:Int) (i64.wrap ((i64.wrap (a+1))*2))) (List.length b.2))<|
(lE (aV b.1 (i64.wrap (a*2)) (min (b.1.length:Int) (i64.wrap ((i64.wrap (a+1))*2)))) (aV b.2 (i64.wrap (a*2)) (min (b.1.length:Int) (i64.wrap ((i64.wrap (a+1))*2))))).bind λk=>
(idx d a).bind λl=>
(cj l k.1).bind λf=>
(vP j ([f.2.1]:zj)).bind λg=>
(idx d a).bind λm=>
bif !true then (cj c.2.1 g).bind λi=>
aN (kE 0 (c.2.2.length:Int) (c.2.2.length:Int) (List.length c.2.2)&&((c.2.2.length:Int)==(c.2.2.length:Int)))<|
aN (aH (List.length (aV c.2.2 0 (c.2.2.length:Int))+List.length ([0]:zj)) 1)<|
some (((List.set d (Int.toNat a) f.1),i.1,((aV c.2.2 0 (c.2.2.length:Int))++([0]:zj))),true,0) else e ((i64.wrap (a+1)),(List.set d (Int.toNat a) f.1),g) else (cj c.2.1 j).bind λh=>
aN (kE 0 (c.2.2.length:Int) (c.2.2.length:Int) (List.length c.2.2)&&((c.2.2.length:Int)==(c.2.2.length:Int)))<|
aN (aH (List.length (aV c.2.2 0 (c.2.2.length:Int))+List.length ([0]:zj)) 1)<|
some ((d,h.1,((aV c.2.2 0 (c.2.2.length:Int))++([0]:zj))),true,0)
def X8(fl:Nat)(c:Ab)(s:Q4)(a:Q1):Option Q51:=
(fC s a).bind λb=>
bif b != 0 then some (c,false,b) else (tY c s a).bind λg=>
bif decide (0<=g) then some (c,false,0) else (BN c).bind λf=>
bif decide (c.2.1.1<=f) then some (c,false,7) else (dB c.1).bind λe=>
(vS s a).bind λd=>
aj (Qi fl c s d) fl (0,e,[])
theorem OV(fl:Nat)(s:fK (rH BZ.ps)):abt { X0 with fl:=fl } [PR,Po,Pu,lK,Lo,F7,HY,K9] [] [⟨212,Tryz.f212⟩] (.c .o (.c .o (.r [] (.c .o (.c (.c (.l ⟨[(false,4,aq),(true,10003,ae4),(true,10006,agI),(true,10010,(.bx 74 0 true [jn]))],[]⟩ .o) (.r [10,3] .o)) (.r [70000,3,6,10] .o)))))) Tryz.f203 BZ s=X8 fl s.1 s.2.1 s.2.2:=by kernel_rfl
theorem QV:Ko BZ:=
 eB (.c .o (.c .o (.r [] (.c .o (.c (.c (.l ⟨[(false,4,aq),(true,10003,ae4),(true,10006,agI),(true,10010,(.bx 74 0 true [jn]))],[]⟩ .o) (.r [10,3] .o)) (.r [70000,3,6,10] .o)))))) call203 func203 (aw iV (aw Iq (aw Wc (aw tu (aw Ej (aw tL (aw vq (aw E4 ax)))))))) ax (aw W2 ax) λs=>(OV au s).trans (by kernel_rfl)
def Iw:aA:=⟨197,[pR,px,aY],UK,[],U3 kc⟩
theorem D7:Ko Iw:=
 aG .o call197 func197 (aw QV ax)
def VQ:aA:=⟨231,[jV,aY],(.own (.i .u32) 237 true),[],U2 yI⟩
theorem Cw:Ko VQ:=
 aG (.l ⟨[(false,5,(.own (.i .u32) 237 true)),(false,10,aq)],[]⟩ .o) call231 func231 ax
def agj:aA:=⟨238,[sH,sH],(.dat VT []),[],U2 KE⟩
theorem Ln:Ko agj:=
 aG (.l ⟨[(true,4,(.bx 365 0 true [.same,.same,.same,.same,.same,.same,.same,.same])),(true,5,(.bx 365 0 true [nR,nR,nR,nR,nR,nR,nR,nR])),(false,7,aq)],[]⟩ (.c (.r [5] .o) .o)) call238 func238 ax
def Rg:aA:=⟨239,[(.dat VT [])],eO,[],λs=>uI s⟩
theorem y5:Ko Rg:=
 aG .o call239 func239 ax
def aaI:aA:=⟨237,[Hf,sH,sH],QI,[],U3 C9⟩
theorem Up:Ko aaI:=
 aG .o call237 func237 (aw Ln (aw y5 (aw oN ax)))
def PY:bY:=⟨233,[afM,aq,sH,sH],L3,none,false,false,sH,[],λs=>pX s.2.1 s.2.2.1 s.2.2.2 s.1⟩
theorem y6:Ll PY:=
 afF .o call233 func233 (aw Up ax)
def Ea:bY:=⟨236,[afM,aq,VB],L3,none,false,false,sH,[],λs=>uP s.2.1 s.2.2 s.1⟩
def DH:TK4->TK4:=λa s=>mU a s.1 s.2.1 s.2.2
theorem I0(a:TK4)(b:OK4 a):(pB (DH a)).Ok X0.P X0.Γ:=
 L8 (.c .o (.r [0] .o)) call236 func236 (aw Aw ax) (aw b (aw y6 ax)) ax λ_=>by kernel_rfl
theorem LN:Ll Ea:=(show Ea=pB (aj (DH) au) by kernel_rfl)▸abc (X:=X0) (E:=pB) ⟨call236,λ_ _ h=>nomatch h⟩ (I0) au
def OR:bY:=⟨230,[afM,VB],L3,none,false,false,sH,[],λs=>od s.2 s.1⟩
theorem J5:Ll OR:=
 L8 (.c (.r [0] .o) .o) call230 func230 ax (aw y6 (aw LN ax)) ax λ_=>by kernel_rfl
def ac1:aA:=⟨226,[NJ,jV,aY],QI,[],U3 xi⟩
theorem aim:(⟨232,Tryz.f232⟩:pr).Ok X0.P:=⟨call232,func232⟩
theorem Jg:Ko ac1:=
 eB .o call226 func226 (aw Cw ax) (aw J5 ax) (aw aim ax) λ_=>by kernel_rfl
def aap:aA:=⟨234,[Hf],aq,[],λs=>KU s⟩
theorem SM:Ko aap:=
 aG .o call234 func234 (aw F3 ax)
def aca:aA:=⟨227,[NJ],aq,[],λs=>Gp s⟩
theorem UM:Ko aca:=
 aG .o call227 func227 (aw SM ax)
def vp:aA:=⟨228,[(.sli gM)],(.own gM 270 true),[],λs=>fa s⟩
def ve(s:(List Q6)):Option (List Q6):=
Az s (
some []) (
aN (aH (List.length ([]:List Q6)+List.length s) 56)<|
some (([]:List Q6)++s))
theorem tq:Ko vp:=
 eB .o call228 func228 ax ax ax λs=>(show _=ve s from by kernel_rfl).trans oE
def Vp:aA:=⟨235,[Hf,sH,sH],(.cW [Hf,aq,.bool,aq]),[],U3 xH⟩
theorem OX:Ko Vp:=
 aG (.r [40000] .o) call235 func235 (aw Ln (aw y5 (aw vq ax)))
def NO:aA:=⟨229,[ae9,aq,sH,sH],sH,[(true,0,ag5)],λs=>mT s.2.1 s.2.2.1 s.2.2.2 s.1⟩
theorem wR:Ko NO:=
 aG (.r [0] .o) call229 func229 (aw OX ax)
def Ag:aA:=⟨236,[ae9,aq,VB],sH,[(true,0,ag5)],λs=>vf s.2.1 s.2.2 s.1⟩
def y7:TK5->TK5:=λa s=>j8 a s.1 s.2.1 s.2.2
theorem DM(a:TK5)(b:OK5 a):(mh (y7 a)).Ok X0.P X0.Γ:=
 aG (.c .o (.r [0] .o)) call236 func236 (aw b (aw Aw (aw wR ax)))
theorem Hd:Ko Ag:=(show Ag=mh (aj (y7) au) by kernel_rfl)▸nZ (X:=X0) (E:=mh) ⟨call236,λ_ _ h=>nomatch h⟩ (DM) au
def KS:aA:=⟨230,[ae9,VB],sH,[(true,0,ag5)],λs=>oI s.2 s.1⟩
theorem Fu:Ko KS:=
 aG (.c (.r [0] .o) .o) call230 func230 (aw wR (aw Hd ax))
def Xr:aA:=⟨221,[NJ,jV,aY],(.cW [NJ,.bool,aq]),[],U3 Bn⟩
theorem QG:Ko Xr:=
 aG (.c .o (.c .o (.r [] (.c .o (.r [6,40000] .o))))) call221 func221 (aw iV (aw Jg (aw UM (aw tq (aw Cw (aw Fu ax))))))
def H2:aA:=⟨215,[pR,px,aY],UK,[],U3 ka⟩
theorem EP:Ko H2:=
 aG .o call215 func215 (aw QG ax)
def Qf:aA:=⟨263,[nR],.bool,[],λs=>uB s⟩
theorem LO:Ko Qf:=
 aG .o call263 func263 ax
def Np:aA:=⟨257,[nR,nR],aq,[],U2 mL⟩
theorem xn:Ko Np:=
 aG .o call257 func257 (aw LO ax)
def acS:aA:=⟨256,[(.dat nT []),nR],aq,[],U2 BC⟩
theorem Vm:Ko acS:=
 aG .o call256 func256 (aw xn ax)
def mP:aA:=⟨255,[(.sli nT),nR,(.fn 256 [] [])],QI,[],U2 bD⟩
theorem fB:Ko mP:=
 aG (.l ⟨[(false,9,aq),(false,10,aq)],[]⟩ .o) call255 func255 (aw Vm ax)
def alz:aA:=⟨251,[ab3,aq,nR],aq,[],U3 Bo⟩
theorem acs:Ko alz:=
 aG .o call251 func251 (aw fB ax)
def aiL:aA:=⟨248,[ab3,eO],.bool,[],U2 pL⟩
theorem yR:Ko aiL:=
 aG (.l ⟨[(false,5,aq),(false,12,aq)],[]⟩ .o) call248 func248 (aw acs ax)
def aeQ:aA:=⟨249,[ab3],aq,[],λs=>Jh s⟩
theorem XV:Ko aeQ:=
 aG .o call249 func249 ax
def wF:aA:=⟨252,[(.sli tS)],(.own tS 273 true),[],λs=>dM s⟩
def wE(s:cD):Option cD:=
Az s (
some []) (
aN (aH (List.length ([]:List (Q4×Int))+List.length s) 32)<|
some (([]:List (Q4×Int))++s))
theorem uR:Ko wF:=
 eB .o call252 func252 ax ax ax λs=>(show _=wE s from by kernel_rfl).trans oE
def wI:aA:=⟨269,[(.sli nT),(.sli nT)],.bool,[],U2 fT⟩
theorem uD:Ko wI:=
 aG (.c .o (.l ⟨[(false,13,aq)],[]⟩ .o)) call269 func269 ax
def RQ:aA:=⟨264,[(.bx 379 0 false [aq,(.own tS 273 false),aq,aq,ZA,(.mp bf .bo false)]),(.sli nT)],QI,[],λs=>Ci s.2.2.2.2.2.2 s.1 s.2.1 s.2.2.1 s.2.2.2.1 s.2.2.2.2.1 s.2.2.2.2.2.1⟩
theorem NN:Ko RQ:=
 aG (.l ⟨[(false,14,aq)],[]⟩ .o) call264 func264 (aw uD ax)
def Ju:aA:=⟨296,[ZA],aq,[],λs=>kS s⟩
theorem uV:Ko Ju:=
 aG .o call296 func296 ax
def H6:aA:=⟨298,[lB,aq,aq],ix,[(true,0,lB)],U3 ij⟩
theorem ng:Ko H6:=
 aG (.r [0] .o) call298 func298 ax
def Ij:aA:=⟨297,[ZA,aq,aq],.bool,[],U3 ie⟩
theorem uw:Ko Ij:=
 aG .o call297 func297 ax
def IV:aA:=⟨272,[G7,aq,aq],.bool,[(true,0,G7)],λs=>sN s.2.1 s.2.2 s.1⟩
theorem Em:Ko IV:=
 aG (.l ⟨[(true,0,G7),(false,7,aq)],[]⟩ (.c .o (.s (.j ⟨[(false,9,aq)],[]⟩ .o .o)))) call272 func272 (aw uw (aw ng ax))
def OI:aA:=⟨299,[aft],L3,[(true,0,aft)],λs=>yS s⟩
theorem K0:Ko OI:=
 aG .o call299 func299 ax
def JZ:aA:=⟨270,[G7],L3,[(true,0,G7)],λs=>oL s⟩
theorem FA:Ko JZ:=
 aG .o call270 func270 (aw uV (aw ng (aw Em (aw K0 ax))))
def QU:aA:=⟨265,[amB],aq,[(true,0,aa0)],U6 uC⟩
theorem LH:Ko QU:=
 aG .o call265 func265 (aw FA ax)
def S8:aA:=⟨258,[alG,(.sli nT)],aq,[(true,0,alU)],λs=>sn s.2.2.2.2.2.2 s.1 s.2.1 s.2.2.1 s.2.2.2.1 s.2.2.2.2.1 s.2.2.2.2.2.1⟩
theorem Na:Ko S8:=
 aG (.c .o (.l ⟨[(true,0,(.bx 379 0 true [.same,(.own tS 273 true),.same,.same,.same,.same])),(false,35,aq)],[]⟩ (.c (.r [0] .o) .o))) call258 func258 (aw NN (aw LH ax))
def ac0:aA:=⟨251,[(.dat Ak [some 546,some 6]),aq,nR],aq,[],U3 LZ⟩
theorem Wa:Ko ac0:=
 aG .o call251 func251 (aw fB ax)
def OL:aA:=⟨260,[(.dat nT []),nR],aq,[],U2 xV⟩
theorem Jt:Ko OL:=
 aG .o call260 func260 (aw xn ax)
def lQ:aA:=⟨255,[(.own nT 384 false),nR,(.fn 260 [] [])],QI,[],U2 cq⟩
theorem kI:Ko lQ:=
 aG (.l ⟨[(false,9,aq),(false,10,aq)],[]⟩ .o) call255 func255 (aw Jt ax)
def we:aA:=⟨259,[(.sli nT)],(.own nT 384 true),[],λs=>fQ s⟩
def wo(s:Q4):Option Q4:=
Az s (
some []) (
aN (aH (List.length ([]:List jk)+List.length s) 16)<|
some (([]:List jk)++s))
theorem uL:Ko we:=
 eB .o call259 func259 ax ax ax λs=>(show _=wo s from by kernel_rfl).trans oE
def Jb:aA:=⟨253,[alG,aq,eO],aq,[(true,0,alU)],λs=>yO s.2.2.2.2.2.2.1 s.2.2.2.2.2.2.2 s.1 s.2.1 s.2.2.1 s.2.2.2.1 s.2.2.2.2.1 s.2.2.2.2.2.1⟩
def IQ:TK6->TK6:=λa s=>mF a s.1 s.2.1 s.2.2.1 s.2.2.2.1 s.2.2.2.2.1 s.2.2.2.2.2.1 s.2.2.2.2.2.2.1 s.2.2.2.2.2.2.2
theorem LB(a:TK6)(b:OK6 a):(s8 (IQ a)).Ok X0.P X0.Γ:=
 aG (.c .o (.s (.j ⟨[(false,7,(.own nT 384 true))],[]⟩ .o (.r [0,40000] (.s (.j ⟨[(false,7,(.own nT 384 true))],[8]⟩ .o .o)))))) call253 func253 (aw Na (aw Wa (aw b (aw kI (aw acA (aw uL ax))))))
theorem O0:Ko Jb:=(show Jb=s8 (aj (IQ) au) by kernel_rfl)▸nZ (X:=X0) (E:=s8) ⟨call253,λ_ _ h=>nomatch h⟩ (LB) au
def NA:aA:=⟨300,[aft,L3],ix,[(true,0,aft)],λs=>wm s.2 s.1⟩
theorem IP:Ko NA:=
 aG (.r [0] .o) call300 func300 ax
def Hc:aA:=⟨268,[G7,aq],ix,[(true,0,G7)],λs=>rF s.2 s.1⟩
theorem Dm:Ko Hc:=
 aG (.l ⟨[(true,0,G7),(false,1,aq)],[]⟩ .o) call268 func268 (aw uw (aw ng ax))
def IT:aA:=⟨262,[G7,L3],ix,[(true,0,G7)],λs=>nu s.2 s.1⟩
theorem Fa:Ko IT:=
 aG .o call262 func262 (aw IP (aw uV (aw Dm ax)))
def EW:aA:=⟨254,[amB,aq],ix,[(true,0,aa0)],λs=>uz s.2.2.2.2.2.2 s.1 s.2.1 s.2.2.1 s.2.2.2.1 s.2.2.2.2.1 s.2.2.2.2.2.1⟩
def E9:TK7->TK7:=λa s=>rV a s.1 s.2.1 s.2.2.1 s.2.2.2.1 s.2.2.2.2.1 s.2.2.2.2.2.1 s.2.2.2.2.2.2
theorem Io(a:TK7)(b:OK7 a):(pI (E9 a)).Ok X0.P X0.Γ:=
 aG (.c .o (.l ⟨[(true,0,aa0),(false,42,aq)],[]⟩ .o)) call254 func254 (aw b (aw Fa ax))
theorem Lw:Ko EW:=(show EW=pI (aj (E9) au) by kernel_rfl)▸nZ (X:=X0) (E:=pI) ⟨call254,λ_ _ h=>nomatch h⟩ (Io) au
def aah:aA:=⟨250,[ab3,eO],(.cW [ab3,.bool,aq]),[],U2 fU⟩
theorem Ga:Ko aah:=
 aG (.c .o (.c .o (.r [7] (.r [7] (.j ⟨[(true,7,aa0)],[]⟩ .o .o))))) call250 func250 (aw yR (aw uR (aw dW (aw O0 (aw Lw ax)))))
def JU:aA:=⟨242,[pR,px,aY],UK,[],U3 kQ⟩
theorem Fy:Ko JU:=
 aG .o call242 func242 (aw fz (aw yR (aw XV (aw Ga ax))))
def YI:aA:=⟨291,[eO,Kt,aq,aq],lB,[],U4 oh⟩
theorem oB:Ko YI:=
 aG (.l ⟨[(false,9,lB),(false,13,aq)],[]⟩ .o) call291 func291 (aw Cp (aw As ax))
def acB:aA:=⟨288,[yG,eO,(.nK (.int .i64 0)),UY],ix,[(true,3,UY)],U3 M9⟩
theorem UB:Ko acB:=
 aG (.l ⟨[(true,3,UY),(false,19,aq)],[]⟩ (.c (.r [3] .o) .o)) call288 func288 (aw oB ax)
def afz:aA:=⟨285,[yG,eO,(.nK (.int .i64 0))],.bool,[],U2 Qm⟩
theorem XS:Ko afz:=
 aG .o call285 func285 (aw UB ax)
def XR:aA:=⟨286,[yG,eO],.bool,[],U2 vO⟩
theorem Ey:Ko XR:=
 aG .o call286 func286 (aw XS ax)
def Ef:aA:=⟨173,[eO],jn,[],λs=>cu s⟩
def DZ(s:Q1):Option Q1:=
Az s (
some []) (
aN (aH (List.length ([]:zj)+List.length s) 1)<|
some (([]:zj)++s))
theorem eQ:Ko Ef:=
 eB .o call173 func173 ax ax ax λs=>(show _=DZ s from by kernel_rfl).trans oE
def VG:aA:=⟨288,[(.dat Hg [some 11,none,none]),eO,(.nK (.int .i64 0)),(.fn 290 [] [])],ix,[(true,0,(.agg [.same,.same,.same,jn,.same,.same]))],U2 yh⟩
theorem Cq:Ko VG:=
 aG (.l ⟨[(true,0,(.agg [.same,.same,.same,jn,.same,.same])),(false,19,aq)],[]⟩ (.c (.r [4,0] .o) .o)) call288 func288 (aw oB ax)
def agd:aA:=⟨287,[yG,eO,(.nK (.int .i64 0))],(.dat Hg [some 11,none,none]),[],U2 Qa⟩
theorem XI:Ko agd:=
 aG .o call287 func287 (aw eQ (aw Cq ax))
def Yf:aA:=⟨282,[yG,eO],(.cW [yG,.bool]),[],U2 Bi⟩
theorem Rd:Ko Yf:=
 aG .o call282 func282 (aw Ey (aw XI ax))
def Kb:aA:=⟨276,[pR,px,aY],UK,[],U3 kR⟩
theorem FL:Ko Kb:=
 aG (.r [40000] .o) call276 func276 (aw fz (aw Rd ax))
def VU:aA:=⟨65,[px,aY],UK,[],U2 dD⟩
theorem OO:Ko VU:=
 aG (.c .o (.r [2,4] .o)) call65 func65 (aw iV (aw BX (aw FM (aw D7 (aw EP (aw Fy (aw FL ax)))))))
def LG:bY:=⟨40,[V5,aY],Rp,none,false,false,.bool,[(true,0,Ka)],λs=>jJ (d8 (d8 (d8 (d8 (d8 s))))).2.2.2.2.2 s.1 s.2.1 s.2.2.1 s.2.2.2.1 s.2.2.2.2.1 s.2.2.2.2.2.1 s.2.2.2.2.2.2.1 s.2.2.2.2.2.2.2.1 s.2.2.2.2.2.2.2.2.1 (d8 s).2.1 (d8 s).2.2.1 (d8 s).2.2.2.1 (d8 s).2.2.2.2.1 (d8 s).2.2.2.2.2.1 (d8 s).2.2.2.2.2.2.1 (d8 s).2.2.2.2.2.2.2.1 (d8 (d8 s)).1 (d8 (d8 s)).2.1 (d8 (d8 s)).2.2.1 (d8 (d8 s)).2.2.2.1 (d8 (d8 s)).2.2.2.2.1 (d8 (d8 s)).2.2.2.2.2.1 (d8 (d8 s)).2.2.2.2.2.2.1 (d8 (d8 s)).2.2.2.2.2.2.2.1 (d8 (d8 (d8 s))).1 (d8 (d8 (d8 s))).2.1 (d8 (d8 (d8 s))).2.2.1 (d8 (d8 (d8 s))).2.2.2.1 (d8 (d8 (d8 s))).2.2.2.2.1 (d8 (d8 (d8 s))).2.2.2.2.2.1 (d8 (d8 (d8 s))).2.2.2.2.2.2.1 (d8 (d8 (d8 s))).2.2.2.2.2.2.2.1 (d8 (d8 (d8 (d8 s)))).1 (d8 (d8 (d8 (d8 s)))).2.1 (d8 (d8 (d8 (d8 s)))).2.2.1 (d8 (d8 (d8 (d8 s)))).2.2.2.1 (d8 (d8 (d8 (d8 s)))).2.2.2.2.1 (d8 (d8 (d8 (d8 s)))).2.2.2.2.2.1 (d8 (d8 (d8 (d8 s)))).2.2.2.2.2.2.1 (d8 (d8 (d8 (d8 s)))).2.2.2.2.2.2.2.1 (d8 (d8 (d8 (d8 (d8 s))))).1 (d8 (d8 (d8 (d8 (d8 s))))).2.1 (d8 (d8 (d8 (d8 (d8 s))))).2.2.1 (d8 (d8 (d8 (d8 (d8 s))))).2.2.2.1 (d8 (d8 (d8 (d8 (d8 s))))).2.2.2.2.1⟩
theorem pa:Ll LG:=
 afF (.s (.s (.j ⟨[],[]⟩ .o .o))) call40 func40 (aw OO ax)
def abD:aA:=⟨94,[aY],(.cW [aY,aq]),[],λs=>xK s⟩
theorem Gd:Ko abD:=
 aG .o call94 func94 ax
def aa8:aA:=⟨111,[sP,aY],(.fn 121 [] [(.bx 35 0 true [(.sli .s),jV,aY,(.sli .s),(.sli Cm)]),Yq]),[],U2 JO⟩
theorem SQ:Ko aa8:=
 aG .o call111 func111 ax
def VK:aA:=⟨122,[sP,aY],lB,[],U2 Fi⟩
def OM(f:Ex->Ex)(h:Sh->(R:Type)->Option R->Option R)(m:iS)(d:Q1)(a:fR->Option Q1):Q1×Int->Option Q1:=λ⟨b,c⟩=>
bif decide (c<(m.2.2.2.2.length:Int)) then (idx m.2.2.2.2 c).bind λg=>
(rz (f g.2.1) d).bind λe=>
bif e==1 then aN (aH (List.length b+List.length ([c]:zj)) 8)<|
a ((b++([c]:zj)),(i64.wrap (c+1))) else a (b,(i64.wrap (c+1))) else some b
def AI(b:Ex->Ex)(c:Sh->(R:Type)->Option R->Option R)(m:iS)(a:Q1):Option Q1:=
aj (OM b c m a) au ([],0)
theorem O4:Ko VK:=
 eB (.l ⟨[(false,5,lB),(false,11,aq)],[]⟩ .o) call122 func122 (aw AO ax) ax ax λs=>(show _=AI lJ eD s.1 s.2 from by kernel_rfl).trans ((congrArg (λa=>AI a eD s.1 s.2) dX).trans ((congrArg (λb=>AI id b s.1 s.2) fJ).trans (by kernel_rfl)))
def Vy:aA:=⟨91,[jV,ZA],aq,[],U2 tP⟩
theorem O2:Ko Vy:=
 aG (.c .o (.l ⟨[(false,14,aq)],[]⟩ .o)) call91 func91 (aw yM ax)
def ack:aA:=⟨123,[sP,aY,aq],(.cW [lB,aq]),[],U3 GB⟩
def Vv(i:Ex->Ex)(k:Sh->(R:Type)->Option R->Option R)(m:iS)(f:Q1)(e:Q52)(a:fR->Option fR):Q1×Int->Option fR:=λ⟨b,c⟩=>
bif decide (c<(e.2.2.length:Int)) then (idx e.2.2 c).bind λd=>
(rz (i d.2) f).bind λh=>
(idx b d.1).bind λj=>
a ((List.set b (Int.toNat d.1) h),(i64.wrap (c+1))) else (tP m.2.1 b).bind λg=>
bif g != 0 then some ([],6) else some (b,0)
def HC(c:Ex->Ex)(g:Sh->(R:Type)->Option R->Option R)(m:iS)(a:Q1)(k:Int):Option fR:=
ai (decide (k<0)) λh=>
ai (decide ((m.2.2.2.2.length:Int)<=k)) λf=>
ai (h||f) λe=>
bif e then (
some ([],10)) else (
(bu a).bind λb=>
(idx m.2.2.2.2 k).bind λd=>
aj (Vv c g m a d) au (b,0))
theorem UE:Ko ack:=
 eB (.c .o (.l ⟨[(true,8,lB),(false,29,aq)],[]⟩ (.c (.r [8] .o) .o))) call123 func123 (aw dW (aw AO (aw O2 ax))) ax ax λs=>(show _=HC lJ eD s.1 s.2.1 s.2.2 from by kernel_rfl).trans ((congrArg (λa=>HC a eD s.1 s.2.1 s.2.2) dX).trans ((congrArg (λb=>HC id b s.1 s.2.1 s.2.2) fJ).trans (by kernel_rfl)))
def BK:aA:=⟨136,[(.bx 243 0 true [.sfp,(.own aW 5 false)])],ix,[(true,0,(.bx 243 0 true [.sfp,.same]))],U2 je⟩
theorem oy:Ko BK:=
 aG .o call136 func136 ax
def yX:aA:=⟨130,[VC,.str],(.cW [aq,(.nK (.raw .nilIface))]),[(true,0,VC)],λs=>gY s.2.2 s.1 s.2.1⟩
theorem wC:Ko yX:=
 aG .o call130 func130 (aw oy ax)
def Bv:aA:=⟨132,[VC,nR],(.nK (.raw .nilIface)),[(true,0,VC)],λs=>iZ s.2.2 s.1 s.2.1⟩
theorem yf:Ko Bv:=
 aG .o call132 func132 (aw oy ax)
def DF:aA:=⟨133,[VC],.str,[],U2 kB⟩
theorem BD:Ko DF:=
 aG (.r [0] .o) call133 func133 ax
def acL:aA:=⟨124,[aY],.str,[],λs=>Nv s⟩
theorem VV:Ko acL:=
 aG (.l ⟨[(true,3,VC),(false,8,aq)],[]⟩ .o) call124 func124 (aw aji (aw wC (aw yf (aw BD ax))))
def RF:aA:=⟨112,[akx,aY],ix,[(true,0,akx)],λs=>n8 s.2.2 s.1 s.2.1⟩
theorem Mf:Ko RF:=
 aG (.j ⟨[(true,0,(.bx 218 0 true [.same,(.mp .s .bo true)]))],[]⟩ .o .o) call112 func112 (aw VV ax)
def acv:aA:=⟨105,[sP,aY],Rw,[],U2 Gn⟩
theorem ajj:(⟨121,Tryz.f121⟩:pr).Ok X0.P:=⟨call121,func121⟩
theorem VJ:Ko acv:=
 eB (.c (.c (.l ⟨[(false,10,aq),(true,10004,(.bx 23 0 true [.same])),(true,10005,(.bx 42 0 true [aq])),(true,10006,akx)],[]⟩ .o) .o) (.r [70000,4,5,6] .o)) call105 func105 (aw SQ (aw O4 (aw UE (aw Mf (aw dW ax))))) ax (aw ajj ax) λ_=>by kernel_rfl
def acy:aA:=⟨93,[sP,pb,aY],Rw,[],U3 xg⟩
theorem Ve:Ko acy:=
 eB (.c .o (.l ⟨[(true,12,ZU),(false,32,aq)],[]⟩ (.c (.r [] (.c (.c (.l ⟨[(false,9,aq),(true,10012,ZU)],[]⟩ (.c (.n 4 (.c .o .o)) .o)) .o) (.r [70000,12] .o))) .o))) call93 func93 (aw Gd (aw VJ (aw IK (aw Lf (aw dW (aw CB ax)))))) ax (aw abK ax) λ_=>by kernel_rfl
def IY:bY:=⟨66,[(.bx 100 0 false QL4),(.own B6 171 true),aY],Rp,none,false,false,(.own B6 171 true),[],λs=>fH (d8 (d8 (d8 (d8 (d8 s))))).2.2.2.2.2.1 (d8 (d8 (d8 (d8 (d8 s))))).2.2.2.2.2.2 s.1 s.2.1 s.2.2.1 s.2.2.2.1 s.2.2.2.2.1 s.2.2.2.2.2.1 s.2.2.2.2.2.2.1 s.2.2.2.2.2.2.2.1 s.2.2.2.2.2.2.2.2.1 (d8 s).2.1 (d8 s).2.2.1 (d8 s).2.2.2.1 (d8 s).2.2.2.2.1 (d8 s).2.2.2.2.2.1 (d8 s).2.2.2.2.2.2.1 (d8 s).2.2.2.2.2.2.2.1 (d8 (d8 s)).1 (d8 (d8 s)).2.1 (d8 (d8 s)).2.2.1 (d8 (d8 s)).2.2.2.1 (d8 (d8 s)).2.2.2.2.1 (d8 (d8 s)).2.2.2.2.2.1 (d8 (d8 s)).2.2.2.2.2.2.1 (d8 (d8 s)).2.2.2.2.2.2.2.1 (d8 (d8 (d8 s))).1 (d8 (d8 (d8 s))).2.1 (d8 (d8 (d8 s))).2.2.1 (d8 (d8 (d8 s))).2.2.2.1 (d8 (d8 (d8 s))).2.2.2.2.1 (d8 (d8 (d8 s))).2.2.2.2.2.1 (d8 (d8 (d8 s))).2.2.2.2.2.2.1 (d8 (d8 (d8 s))).2.2.2.2.2.2.2.1 (d8 (d8 (d8 (d8 s)))).1 (d8 (d8 (d8 (d8 s)))).2.1 (d8 (d8 (d8 (d8 s)))).2.2.1 (d8 (d8 (d8 (d8 s)))).2.2.2.1 (d8 (d8 (d8 (d8 s)))).2.2.2.2.1 (d8 (d8 (d8 (d8 s)))).2.2.2.2.2.1 (d8 (d8 (d8 (d8 s)))).2.2.2.2.2.2.1 (d8 (d8 (d8 (d8 s)))).2.2.2.2.2.2.2.1 (d8 (d8 (d8 (d8 (d8 s))))).1 (d8 (d8 (d8 (d8 (d8 s))))).2.1 (d8 (d8 (d8 (d8 (d8 s))))).2.2.1 (d8 (d8 (d8 (d8 (d8 s))))).2.2.2.1 (d8 (d8 (d8 (d8 (d8 s))))).2.2.2.2.1⟩
theorem tH:Ll IY:=
 afF (.s (.j ⟨[],[]⟩ .o (.r [] (.j ⟨[],[]⟩ .o .o)))) call66 func66 (aw Ve ax)
def HM:aA:=⟨106,[aY,aq],aq,[],U2 rT⟩
theorem CW:Ko HM:=
 aG (.l ⟨[(false,8,aq)],[]⟩ .o) call106 func106 ax
def CN:aA:=⟨95,[aY,aq],.bool,[],U2 nM⟩
theorem AU:Ko CN:=
 aG .o call95 func95 (aw CW ax)
def abV:aA:=⟨67,[pb,aY],.bool,[],U2 x7⟩
theorem SS:Ko abV:=
 aG .o call67 func67 (aw Gd (aw AU ax))
def Da:aA:=⟨72,[Vn],ix,[],λs=>uX s⟩
theorem Al:Ko Da:=
 aG .o call72 func72 ax
def HI:aA:=⟨69,[aY,aY],.bool,[],U2 l8⟩
theorem C7:Ko HI:=
 aG (.c .o (.l ⟨[(false,13,aq)],[]⟩ .o)) call69 func69 ax
def XY:aA:=⟨70,[(.sli B6)],yw,[],λs=>Bh s⟩
theorem Rr:Ko XY:=
 aG (.l ⟨[(false,3,yw),(false,8,aq)],[]⟩ .o) call70 func70 ax
def C0:bY:=⟨68,[Vn,aY,Za,(.bx 123 0 false [Vn])],aab,none,false,true,ix,[],U4 jY⟩
theorem AJ:Ll C0:=
 afF (.c (.r [80000] .o) .o) call68 func68 (aw C7 (aw Rr ax))
def afA:aA:=⟨174,[aq],nR,[],λs=>EX s⟩
theorem Lq:Ko afA:=
 aG .o call174 func174 ax
def Yb:aA:=⟨168,[aq,nR,afZ,Yl],ix,[(true,3,Yl)],U7 GQ⟩
theorem Qg:Ko Yb:=
 aG .o call168 func168 ax
def aiy:aA:=⟨167,[PU,eO,aq,(.fn 168 [] [afZ,Yl])],aq,[(true,3,(.fn 168 [] [.same,Yl]))],U8 VY⟩
theorem aaK:Ko aiy:=
 aG .o call167 func167 (aw Lq (aw oN (aw Qg ax)))
def agV:aA:=⟨162,[PU,eO,aq],Hh,[],U3 KJ⟩
theorem Yc:Ko agV:=
 aG .o call162 func162 (aw aaK ax)
def OW:aA:=⟨156,[pR,px,aY,aq],Hh,[],U4 oP⟩
theorem J3:Ko OW:=
 aG (.r [5] .o) call156 func156 (aw fz (aw Yc ax))
def aid:aA:=⟨205,[LQ,jV,aY,aq],(.cW [aq,aq]),[],U4 Dt⟩
theorem Mj:Ko aid:=
 aG .o call205 func205 (aw iV (aw Iq ax))
def ahb:aA:=⟨202,[LQ,jV,aY,aq],Hh,[],U4 Jr⟩
theorem X9:Ko ahb:=
 aG .o call202 func202 (aw Mj ax)
def Mn:aA:=⟨196,[pR,px,aY,aq],Hh,[],U4 nb⟩
theorem I8:Ko Mn:=
 aG .o call196 func196 (aw X9 ax)
def ahF:aA:=⟨225,[NJ,jV,aY,aq],(.cW [aq,aq]),[],U4 DC⟩
theorem Nu:Ko ahF:=
 aG .o call225 func225 (aw iV (aw Jg ax))
def agp:aA:=⟨220,[NJ,jV,aY,aq],Hh,[],U4 JA⟩
theorem XU:Ko agp:=
 aG .o call220 func220 (aw Nu ax)
def ML:aA:=⟨214,[pR,px,aY,aq],Hh,[],U4 mZ⟩
theorem IU:Ko ML:=
 aG .o call214 func214 (aw XU ax)
def RY:aA:=⟨247,[px,aY,aq],aq,[],U3 sf⟩
theorem BR:Ko RY:=
 aG (.c .o (.r [3] .o)) call247 func247 (aw fz (aw yR ax))
def OP:aA:=⟨241,[pR,px,aY,aq],Hh,[],U4 oJ⟩
theorem JD:Ko OP:=
 aG (.c .o (.r [5] .o)) call241 func241 (aw BR (aw fz (aw yR ax)))
def ag8:aA:=⟨284,[yG,eO,aq],aq,[],U3 Ee⟩
theorem La:Ko ag8:=
 aG .o call284 func284 (aw Ey ax)
def Vx:aA:=⟨288,[yG,eO,aq,UY],ix,[(true,3,UY)],U4 Fh⟩
theorem O6:Ko Vx:=
 aG (.l ⟨[(true,3,UY),(false,19,aq)],[]⟩ (.c (.r [3] .o) .o)) call288 func288 (aw oB ax)
def XF:aA:=⟨285,[yG,eO,aq],.bool,[],U3 Bf⟩
theorem Qw:Ko XF:=
 aG .o call285 func285 (aw O6 ax)
def agG:aA:=⟨281,[yG,eO,aq],Hh,[],U3 Jy⟩
theorem XG:Ko agG:=
 aG .o call281 func281 (aw La (aw Qw ax))
def OQ:aA:=⟨275,[pR,px,aY,aq],Hh,[],U4 oG⟩
theorem JJ:Ko OQ:=
 aG (.r [5] .o) call275 func275 (aw fz (aw XG ax))
def acZ:aA:=⟨96,[px,aY,aq],Hh,[],U3 dR⟩
theorem Vg:Ko acZ:=
 aG (.c .o (.r [3] .o)) call96 func96 (aw iV (aw BX (aw J3 (aw I8 (aw IU (aw JD (aw JJ ax)))))))
def Xu:aA:=⟨172,[aq,nR,afZ,akg],ix,[(true,3,(.bx 76 0 true [.same,.same,.same,eO]))],λs=>Hw s.1 s.2.1 s.2.2.1 s.2.2.2.1 s.2.2.2.2.1 s.2.2.2.2.2.1 s.2.2.2.2.2.2.1 s.2.2.2.2.2.2.2.1 s.2.2.2.2.2.2.2.2.1 (d8 s).2⟩
theorem Rm:Ko Xu:=
 aG .o call172 func172 (aw eQ ax)
def YF:aA:=⟨167,[PU,eO,aq,(.fn 172 [] [afZ,akg])],aq,[(true,3,(.fn 172 [] [.same,akg]))],λs=>J0 s.1 s.2.1 s.2.2.1 s.2.2.2.1 s.2.2.2.2.1 s.2.2.2.2.2.1 s.2.2.2.2.2.2.1 s.2.2.2.2.2.2.2.1 s.2.2.2.2.2.2.2.2.1 (d8 s).2.1 (d8 s).2.2⟩
theorem Su:Ko YF:=
 aG .o call167 func167 (aw Lq (aw oN (aw Rm ax)))
def aeV:aA:=⟨165,[PU,eO,aq],(.cW [PU,aq]),[],U3 Ku⟩
theorem XP:Ko aeV:=
 aG .o call165 func165 (aw Su ax)
def O5:aA:=⟨160,[pR,px,aY,aq],JC,[],U4 oM⟩
theorem KX:Ko O5:=
 aG (.r [40000] .o) call160 func160 (aw fz (aw XP ax))
def aeP:aA:=⟨204,[LQ,jV,aY,aq],(.cW [LQ,aq]),[],U4 Kv⟩
theorem Xq:Ko aeP:=
 aG (.c .o (.r [4] .o)) call204 func204 (aw Mj (aw eQ ax))
def Mu:aA:=⟨200,[pR,px,aY,aq],JC,[],U4 nj⟩
theorem H4:Ko Mu:=
 aG .o call200 func200 (aw Xq ax)
def ahd:aA:=⟨222,[NJ,jV,aY,aq],(.cW [NJ,aq]),[],U4 Jm⟩
theorem Yj:Ko ahd:=
 aG (.c .o (.r [4] .o)) call222 func222 (aw Nu (aw eQ ax))
def Nj:aA:=⟨218,[pR,px,aY,aq],JC,[],U4 nc⟩
theorem IN:Ko Nj:=
 aG .o call218 func218 (aw Yj ax)
def OS:aA:=⟨245,[pR,px,aY,aq],JC,[],U4 ot⟩
theorem KR:Ko OS:=
 aG (.c .o (.r [5] .o)) call245 func245 (aw BR (aw fz (aw Ga ax)))
def Vb:aA:=⟨288,[(.dat Hg [none,some 11,none]),eO,(.nK (.int .i64 1)),(.fn 290 [] [])],ix,[(true,0,(.agg [.same,.same,.same,.same,jn,.same]))],U2 D9⟩
theorem OJ:Ko Vb:=
 aG (.l ⟨[(true,0,(.agg [.same,.same,.same,.same,jn,.same])),(false,19,aq)],[]⟩ (.c (.r [4,0] .o) .o)) call288 func288 (aw oB ax)
def VA:aA:=⟨288,[(.dat Hg [none,none,some 11]),eO,(.nK (.int .i64 2)),(.fn 290 [] [])],ix,[(true,0,(.agg [.same,.same,.same,.same,.same,jn]))],U2 EH⟩
theorem OY:Ko VA:=
 aG (.l ⟨[(true,0,(.agg [.same,.same,.same,.same,.same,jn])),(false,19,aq)],[]⟩ (.c (.r [4,0] .o) .o)) call288 func288 (aw oB ax)
def Ya:aA:=⟨287,[yG,eO,aq],yG,[],U3 Be⟩
theorem PT:Ko Ya:=
 aG (.r [60000,2,0,0,1,2] (.c .o (.c .o (.c .o (.n 77777 .o))))) call287 func287 (aw eQ (aw Cq (aw OJ (aw OY ax))))
def afL:aA:=⟨283,[yG,eO,aq],(.cW [yG,aq]),[],U3 Km⟩
theorem XT:Ko afL:=
 aG .o call283 func283 (aw La (aw PT ax))
def OH:aA:=⟨279,[pR,px,aY,aq],JC,[],U4 oR⟩
theorem J7:Ko OH:=
 aG (.r [40000] .o) call279 func279 (aw fz (aw XT ax))
def acO:aA:=⟨97,[px,aY,aq],JC,[],U3 gA⟩
theorem Vr:Ko acO:=
 aG (.c .o (.r [3,6] .o)) call97 func97 (aw iV (aw BX (aw KX (aw H4 (aw IN (aw KR (aw J7 ax)))))))
def LD:bY:=⟨71,[V5,aY],Rp,none,false,false,.bool,[(true,0,Ka)],λs=>pH (d8 (d8 (d8 (d8 (d8 s))))).2.2.2.2.2 s.1 s.2.1 s.2.2.1 s.2.2.2.1 s.2.2.2.2.1 s.2.2.2.2.2.1 s.2.2.2.2.2.2.1 s.2.2.2.2.2.2.2.1 s.2.2.2.2.2.2.2.2.1 (d8 s).2.1 (d8 s).2.2.1 (d8 s).2.2.2.1 (d8 s).2.2.2.2.1 (d8 s).2.2.2.2.2.1 (d8 s).2.2.2.2.2.2.1 (d8 s).2.2.2.2.2.2.2.1 (d8 (d8 s)).1 (d8 (d8 s)).2.1 (d8 (d8 s)).2.2.1 (d8 (d8 s)).2.2.2.1 (d8 (d8 s)).2.2.2.2.1 (d8 (d8 s)).2.2.2.2.2.1 (d8 (d8 s)).2.2.2.2.2.2.1 (d8 (d8 s)).2.2.2.2.2.2.2.1 (d8 (d8 (d8 s))).1 (d8 (d8 (d8 s))).2.1 (d8 (d8 (d8 s))).2.2.1 (d8 (d8 (d8 s))).2.2.2.1 (d8 (d8 (d8 s))).2.2.2.2.1 (d8 (d8 (d8 s))).2.2.2.2.2.1 (d8 (d8 (d8 s))).2.2.2.2.2.2.1 (d8 (d8 (d8 s))).2.2.2.2.2.2.2.1 (d8 (d8 (d8 (d8 s)))).1 (d8 (d8 (d8 (d8 s)))).2.1 (d8 (d8 (d8 (d8 s)))).2.2.1 (d8 (d8 (d8 (d8 s)))).2.2.2.1 (d8 (d8 (d8 (d8 s)))).2.2.2.2.1 (d8 (d8 (d8 (d8 s)))).2.2.2.2.2.1 (d8 (d8 (d8 (d8 s)))).2.2.2.2.2.2.1 (d8 (d8 (d8 (d8 s)))).2.2.2.2.2.2.2.1 (d8 (d8 (d8 (d8 (d8 s))))).1 (d8 (d8 (d8 (d8 (d8 s))))).2.1 (d8 (d8 (d8 (d8 (d8 s))))).2.2.1 (d8 (d8 (d8 (d8 (d8 s))))).2.2.2.1 (d8 (d8 (d8 (d8 (d8 s))))).2.2.2.2.1⟩
theorem HU:Ll LD:=
 L8 .o call71 func71 (aw Vg (aw Vr ax)) (aw pa ax) ax λ_=>by kernel_rfl
def Ik:bY:=⟨41,[V5,aY,(.fn 71 [(.ptr 0 0)] []),(.fn 68 [] [Za,(.bx 123 0 false [Vn])]),(.fn 72 [] [])],Rp,some aab,false,true,ix,[(true,0,Ka)],λs=>nC (d8 (d8 (d8 (d8 (d8 s))))).2.2.2.2.2.1 s.1 s.2.1 s.2.2.1 s.2.2.2.1 s.2.2.2.2.1 s.2.2.2.2.2.1 s.2.2.2.2.2.2.1 s.2.2.2.2.2.2.2.1 s.2.2.2.2.2.2.2.2.1 (d8 s).2.1 (d8 s).2.2.1 (d8 s).2.2.2.1 (d8 s).2.2.2.2.1 (d8 s).2.2.2.2.2.1 (d8 s).2.2.2.2.2.2.1 (d8 s).2.2.2.2.2.2.2.1 (d8 (d8 s)).1 (d8 (d8 s)).2.1 (d8 (d8 s)).2.2.1 (d8 (d8 s)).2.2.2.1 (d8 (d8 s)).2.2.2.2.1 (d8 (d8 s)).2.2.2.2.2.1 (d8 (d8 s)).2.2.2.2.2.2.1 (d8 (d8 s)).2.2.2.2.2.2.2.1 (d8 (d8 (d8 s))).1 (d8 (d8 (d8 s))).2.1 (d8 (d8 (d8 s))).2.2.1 (d8 (d8 (d8 s))).2.2.2.1 (d8 (d8 (d8 s))).2.2.2.2.1 (d8 (d8 (d8 s))).2.2.2.2.2.1 (d8 (d8 (d8 s))).2.2.2.2.2.2.1 (d8 (d8 (d8 s))).2.2.2.2.2.2.2.1 (d8 (d8 (d8 (d8 s)))).1 (d8 (d8 (d8 (d8 s)))).2.1 (d8 (d8 (d8 (d8 s)))).2.2.1 (d8 (d8 (d8 (d8 s)))).2.2.2.1 (d8 (d8 (d8 (d8 s)))).2.2.2.2.1 (d8 (d8 (d8 (d8 s)))).2.2.2.2.2.1 (d8 (d8 (d8 (d8 s)))).2.2.2.2.2.2.1 (d8 (d8 (d8 (d8 s)))).2.2.2.2.2.2.2.1 (d8 (d8 (d8 (d8 (d8 s))))).1 (d8 (d8 (d8 (d8 (d8 s))))).2.1 (d8 (d8 (d8 (d8 (d8 s))))).2.2.1 (d8 (d8 (d8 (d8 (d8 s))))).2.2.2.1 (d8 (d8 (d8 (d8 (d8 s))))).2.2.2.2.1 (d8 (d8 (d8 (d8 (d8 s))))).2.2.2.2.2.2.1 (d8 (d8 (d8 (d8 (d8 s))))).2.2.2.2.2.2.2⟩
theorem D8:Ll Ik:=
 L8 (.l ⟨[(true,0,Ka),(false,11,(.own B6 171 true))],[]⟩ .o) call41 func41 (aw Al ax) (aw tH (aw AJ (aw HU ax))) ax λ_=>by kernel_rfl
def Hx:bY:=⟨43,[V5,Vn],Rp,some aab,false,true,ix,[(true,0,Ka)],λs=>mg (d8 (d8 (d8 (d8 (d8 s))))).2.2.2.2.2 s.1 s.2.1 s.2.2.1 s.2.2.2.1 s.2.2.2.2.1 s.2.2.2.2.2.1 s.2.2.2.2.2.2.1 s.2.2.2.2.2.2.2.1 s.2.2.2.2.2.2.2.2.1 (d8 s).2.1 (d8 s).2.2.1 (d8 s).2.2.2.1 (d8 s).2.2.2.2.1 (d8 s).2.2.2.2.2.1 (d8 s).2.2.2.2.2.2.1 (d8 s).2.2.2.2.2.2.2.1 (d8 (d8 s)).1 (d8 (d8 s)).2.1 (d8 (d8 s)).2.2.1 (d8 (d8 s)).2.2.2.1 (d8 (d8 s)).2.2.2.2.1 (d8 (d8 s)).2.2.2.2.2.1 (d8 (d8 s)).2.2.2.2.2.2.1 (d8 (d8 s)).2.2.2.2.2.2.2.1 (d8 (d8 (d8 s))).1 (d8 (d8 (d8 s))).2.1 (d8 (d8 (d8 s))).2.2.1 (d8 (d8 (d8 s))).2.2.2.1 (d8 (d8 (d8 s))).2.2.2.2.1 (d8 (d8 (d8 s))).2.2.2.2.2.1 (d8 (d8 (d8 s))).2.2.2.2.2.2.1 (d8 (d8 (d8 s))).2.2.2.2.2.2.2.1 (d8 (d8 (d8 (d8 s)))).1 (d8 (d8 (d8 (d8 s)))).2.1 (d8 (d8 (d8 (d8 s)))).2.2.1 (d8 (d8 (d8 (d8 s)))).2.2.2.1 (d8 (d8 (d8 (d8 s)))).2.2.2.2.1 (d8 (d8 (d8 (d8 s)))).2.2.2.2.2.1 (d8 (d8 (d8 (d8 s)))).2.2.2.2.2.2.1 (d8 (d8 (d8 (d8 s)))).2.2.2.2.2.2.2.1 (d8 (d8 (d8 (d8 (d8 s))))).1 (d8 (d8 (d8 (d8 (d8 s))))).2.1 (d8 (d8 (d8 (d8 (d8 s))))).2.2.1 (d8 (d8 (d8 (d8 (d8 s))))).2.2.2.1 (d8 (d8 (d8 (d8 (d8 s))))).2.2.2.2.1⟩
theorem CY:Ll Hx:=
 L8 .o call43 func43 (aw SS ax) (aw D8 ax) ax λ_=>by kernel_rfl
def CF:aA:=⟨42,[Vn,aY],ix,[],U2 u4⟩
theorem AN:Ko CF:=
 aG .o call42 func42 ax
def LX:bY:=⟨41,[V5,aY,(.fn 40 [(.ptr 0 0)] []),(.fn 42 [] []),(.fn 43 [(.ptr 0 0)] [])],Rp,some aab,false,false,ix,[(true,0,Ka)],λs=>wv (d8 (d8 (d8 (d8 (d8 s))))).2.2.2.2.2 s.1 s.2.1 s.2.2.1 s.2.2.2.1 s.2.2.2.2.1 s.2.2.2.2.2.1 s.2.2.2.2.2.2.1 s.2.2.2.2.2.2.2.1 s.2.2.2.2.2.2.2.2.1 (d8 s).2.1 (d8 s).2.2.1 (d8 s).2.2.2.1 (d8 s).2.2.2.2.1 (d8 s).2.2.2.2.2.1 (d8 s).2.2.2.2.2.2.1 (d8 s).2.2.2.2.2.2.2.1 (d8 (d8 s)).1 (d8 (d8 s)).2.1 (d8 (d8 s)).2.2.1 (d8 (d8 s)).2.2.2.1 (d8 (d8 s)).2.2.2.2.1 (d8 (d8 s)).2.2.2.2.2.1 (d8 (d8 s)).2.2.2.2.2.2.1 (d8 (d8 s)).2.2.2.2.2.2.2.1 (d8 (d8 (d8 s))).1 (d8 (d8 (d8 s))).2.1 (d8 (d8 (d8 s))).2.2.1 (d8 (d8 (d8 s))).2.2.2.1 (d8 (d8 (d8 s))).2.2.2.2.1 (d8 (d8 (d8 s))).2.2.2.2.2.1 (d8 (d8 (d8 s))).2.2.2.2.2.2.1 (d8 (d8 (d8 s))).2.2.2.2.2.2.2.1 (d8 (d8 (d8 (d8 s)))).1 (d8 (d8 (d8 (d8 s)))).2.1 (d8 (d8 (d8 (d8 s)))).2.2.1 (d8 (d8 (d8 (d8 s)))).2.2.2.1 (d8 (d8 (d8 (d8 s)))).2.2.2.2.1 (d8 (d8 (d8 (d8 s)))).2.2.2.2.2.1 (d8 (d8 (d8 (d8 s)))).2.2.2.2.2.2.1 (d8 (d8 (d8 (d8 s)))).2.2.2.2.2.2.2.1 (d8 (d8 (d8 (d8 (d8 s))))).1 (d8 (d8 (d8 (d8 (d8 s))))).2.1 (d8 (d8 (d8 (d8 (d8 s))))).2.2.1 (d8 (d8 (d8 (d8 (d8 s))))).2.2.2.1 (d8 (d8 (d8 (d8 (d8 s))))).2.2.2.2.1⟩
theorem Ja:Ll LX:=
 L8 (.l ⟨[(true,0,Ka),(false,11,(.own B6 171 true))],[]⟩ .o) call41 func41 (aw AN ax) (aw tH (aw CY (aw pa ax))) ax λ_=>by kernel_rfl
def LK:bY:=⟨25,[V5],Rp,some aab,false,false,ix,[(true,0,Ka)],λs=>pK s.1 s.2.1 s.2.2.1 s.2.2.2.1 s.2.2.2.2.1 s.2.2.2.2.2.1 s.2.2.2.2.2.2.1 s.2.2.2.2.2.2.2.1 s.2.2.2.2.2.2.2.2.1 (d8 s).2.1 (d8 s).2.2.1 (d8 s).2.2.2.1 (d8 s).2.2.2.2.1 (d8 s).2.2.2.2.2.1 (d8 s).2.2.2.2.2.2.1 (d8 s).2.2.2.2.2.2.2.1 (d8 (d8 s)).1 (d8 (d8 s)).2.1 (d8 (d8 s)).2.2.1 (d8 (d8 s)).2.2.2.1 (d8 (d8 s)).2.2.2.2.1 (d8 (d8 s)).2.2.2.2.2.1 (d8 (d8 s)).2.2.2.2.2.2.1 (d8 (d8 s)).2.2.2.2.2.2.2.1 (d8 (d8 (d8 s))).1 (d8 (d8 (d8 s))).2.1 (d8 (d8 (d8 s))).2.2.1 (d8 (d8 (d8 s))).2.2.2.1 (d8 (d8 (d8 s))).2.2.2.2.1 (d8 (d8 (d8 s))).2.2.2.2.2.1 (d8 (d8 (d8 s))).2.2.2.2.2.2.1 (d8 (d8 (d8 s))).2.2.2.2.2.2.2.1 (d8 (d8 (d8 (d8 s)))).1 (d8 (d8 (d8 (d8 s)))).2.1 (d8 (d8 (d8 (d8 s)))).2.2.1 (d8 (d8 (d8 (d8 s)))).2.2.2.1 (d8 (d8 (d8 (d8 s)))).2.2.2.2.1 (d8 (d8 (d8 (d8 s)))).2.2.2.2.2.1 (d8 (d8 (d8 (d8 s)))).2.2.2.2.2.2.1 (d8 (d8 (d8 (d8 s)))).2.2.2.2.2.2.2.1 (d8 (d8 (d8 (d8 (d8 s))))).1 (d8 (d8 (d8 (d8 (d8 s))))).2.1 (d8 (d8 (d8 (d8 (d8 s))))).2.2.1 (d8 (d8 (d8 (d8 (d8 s))))).2.2.2.1 (d8 (d8 (d8 (d8 (d8 s))))).2.2.2.2⟩
theorem G5:Ll LK:=
 L8 (.r [] (.l ⟨[(true,0,Ka),(false,14,aq)],[]⟩ .o)) call25 func25 (aw Vz ax) (aw pa (aw Ja ax)) ax λ_=>by kernel_rfl
def acr:aA:=⟨10,[sP,pb,Qp],(.cW [.bool,(.dat Hi [none,none]),aq,aY]),[],U3 jP⟩
theorem aly:(⟨24,Tryz.f24⟩:pr).Ok X0.P:=⟨call24,func24⟩
theorem Ip:Ko acr:=
 eB (.c (.r [6,7,8,9] .o) .o) call10 func10 (aw PS (aw VM ax)) (aw G5 ax) (aw aly ax) λ_=>by kernel_rfl
def L7:aA:=⟨81,[jV,aY],aq,[],U2 EK⟩
theorem IA:Ko L7:=
 aG (.c .o (.l ⟨[(false,5,aq)],[]⟩ .o)) call81 func81 ax
def Mz:aA:=⟨54,[sP,aY],.bool,[],U2 Ei⟩
theorem ID:Ko Mz:=
 aG .o call54 func54 (aw IA ax)
def Mq:aA:=⟨28,[sP,pb,aY],.bool,[],U3 DE⟩
theorem IF:Ko Mq:=
 aG .o call28 func28 (aw ID ax)
def IG:aA:=⟨99,[.bool],aq,[],λs=>bd s⟩
theorem E8:Ko IG:=
 aG .o call99 func99 ax
def yz:aA:=⟨80,[wN,aY],aq,[],U2 eS⟩
def FP(d:Ex->Ex)(j:Sh->(R:Type)->Option R->Option R)(h:(Ex×Q1)->zb)(e:Ex)(g:Q1)(i:Int):zb:=
ai (λ(b:Int)=>ld e g i b) λa=>
bif decide (1<(List.length e.l:Int)) then (idx e.l 1).bind λf=>
(h ((d f),g)).bind λc=>
a c else a 0
def pg(d:Ex->Ex)(i:Sh->(R:Type)->Option R->Option R)(h:(Ex×Q1)->zb)(e:Ex)(g:Q1):zb:=
ai (λ(b:Int)=>FP d i h e g b) λa=>
bif decide (0<(List.length e.l:Int)) then (idx e.l 0).bind λf=>
(h ((d f),g)).bind λc=>
a c else a 0
def yE:TK8->TK8:=λa s=>mf a s.1 s.2
theorem De(a:TK8)(c:OK8 a):(kT (yE a)).Ok X0.P X0.Γ:=
 eB (.s (.s (.s (.j ⟨[(false,5,aq)],[]⟩ .o (.j ⟨[(false,6,aq)],[]⟩ .o .o))))) call80 func80 (aw E8 (aw c ax)) ax ax λs=>(show _=pg lJ eD a s.1 s.2 from by kernel_rfl).trans ((congrArg (λb=>pg b eD a s.1 s.2) dX).trans ((congrArg (λd=>pg id d a s.1 s.2) fJ).trans (by kernel_rfl)))
theorem nN:Ko yz:=(show yz=kT (aj (yE) au) by kernel_rfl)▸nZ (X:=X0) (E:=kT) ⟨call80,λ_ _ h=>nomatch h⟩ (De) au
def Jn:aA:=⟨82,[pb,aq,aY],.bool,[],U3 tN⟩
def FH(e:Ex->Ex)(j:Sh->(R:Type)->Option R->Option R)(a:Q9)(q:Int)(h:Q1)(b:Int->x3)(d:Int):x3:=
(idx a.1 q).bind λi=>
bif decide (d<(i.length:Int)) then (idx a.1 q).bind λg=>
(idx g d).bind λf=>
(eS (e f) h).bind λc=>
bif c != 1 then some false else b (i64.wrap (d+1)) else some true
def rZ(b:Ex->Ex)(d:Sh->(R:Type)->Option R->Option R)(a:Q9)(q:Int)(c:Q1):x3:=
aj (FH b d a q c) au 0
theorem FK:Ko Jn:=
 eB (.l ⟨[(false,7,aq)],[]⟩ .o) call82 func82 (aw nN ax) ax ax λs=>(show _=rZ lJ eD s.1 s.2.1 s.2.2 from by kernel_rfl).trans ((congrArg (λa=>rZ a eD s.1 s.2.1 s.2.2) dX).trans ((congrArg (λb=>rZ id b s.1 s.2.1 s.2.2) fJ).trans (by kernel_rfl)))
def Lz:aA:=⟨32,[aY,aY],.bool,[],U2 gR⟩
theorem vK:Ko Lz:=
 aG (.c .o (.l ⟨[(false,5,aq)],[]⟩ .o)) call32 func32 ax
def DX:aA:=⟨16,[(.own sX 24 false),aY],aq,[],U2 dm⟩
theorem hZ:Ko DX:=
 aG (.l ⟨[(false,5,aq)],[]⟩ .o) call16 func16 (aw vK ax)
def Hj:aA:=⟨55,[yw,pb,aY,aY],yw,[],U4 mz⟩
theorem sT:Ko Hj:=
 aG (.l ⟨[(false,0,yw),(false,9,aq)],[]⟩ (.c (.r [40000] .o) .o)) call55 func55 (aw FK (aw hZ ax))
def KI:aA:=⟨29,[sP,pb],yw,[],U2 kO⟩
theorem uT:Ko KI:=
 aG .o call29 func29 (aw sT ax)
def IW:aA:=⟨16,[(.sli sX),aY],aq,[],U2 sE⟩
theorem uk:Ko IW:=
 aG (.l ⟨[(false,5,aq)],[]⟩ .o) call16 func16 (aw vK ax)
def Fv:aA:=⟨52,[sP,aY],lB,[],U2 pO⟩
def Cj(f:Ex->Ex)(h:Sh->(R:Type)->Option R->Option R)(m:iS)(d:Q1)(a:fR->Option Q1):Q1×Int->Option Q1:=λ⟨b,c⟩=>
bif decide (c<(m.2.2.2.2.length:Int)) then (idx m.2.2.2.2 c).bind λg=>
(eS (f g.2.1) d).bind λe=>
bif e==1 then aN (aH (List.length b+List.length ([c]:zj)) 8)<|
a ((b++([c]:zj)),(i64.wrap (c+1))) else a (b,(i64.wrap (c+1))) else some b
def nP(b:Ex->Ex)(c:Sh->(R:Type)->Option R->Option R)(m:iS)(a:Q1):Option Q1:=
aj (Cj b c m a) au ([],0)
theorem BY:Ko Fv:=
 eB (.l ⟨[(false,5,lB),(false,6,aq)],[]⟩ .o) call52 func52 (aw nN ax) ax ax λs=>(show _=nP lJ eD s.1 s.2 from by kernel_rfl).trans ((congrArg (λa=>nP a eD s.1 s.2) dX).trans ((congrArg (λb=>nP id b s.1 s.2) fJ).trans (by kernel_rfl)))
def Kl:aA:=⟨53,[sP,aY,aq],(.cW [lB,aq]),[],U3 og⟩
def FE(g:Ex->Ex)(l:Sh->(R:Type)->Option R->Option R)(m:iS)(e:Q1)(k:Int)(a:fR->Option fR):Q1×Int->Option fR:=λ⟨b,c⟩=>
(idx m.2.2.2.2 k).bind λi=>
bif decide (c<(i.2.2.length:Int)) then (idx m.2.2.2.2 k).bind λh=>
(idx h.2.2 c).bind λd=>
(eS (g d.2) e).bind λf=>
(idx b d.1).bind λj=>
a ((List.set b (Int.toNat d.1) f),(i64.wrap (c+1))) else aj (iW m b) au 0
def rU(b:Ex->Ex)(e:Sh->(R:Type)->Option R->Option R)(m:iS)(a:Q1)(k:Int):Option fR:=
ai (decide (k<0)) λf=>
ai (decide ((m.2.2.2.2.length:Int)<=k)) λd=>
ai (f||d) λc=>
bif c then (
some ([],10)) else (
aN (aH (List.length ([]:zj)+List.length a) 8)<|
aj (FE b e m a k) au ((([]:zj)++a),0))
theorem Fw:Ko Kl:=
 eB (.c .o (.l ⟨[(true,8,lB),(false,9,aq)],[]⟩ (.c (.r [8] .o) (.l ⟨[(false,11,aq)],[]⟩ .o)))) call53 func53 (aw nN ax) ax ax λs=>(show _=rU lJ eD s.1 s.2.1 s.2.2 from by kernel_rfl).trans ((congrArg (λa=>rU a eD s.1 s.2.1 s.2.2) dX).trans ((congrArg (λb=>rU id b s.1 s.2.1 s.2.2) fJ).trans (by kernel_rfl)))
def J9:aA:=⟨27,[sP,aY],Rw,[],U2 oz⟩
theorem Fz:Ko J9:=
 aG (.c .o (.l ⟨[(false,7,yw),(false,8,aq)],[]⟩ .o)) call27 func27 (aw BY (aw Fw (aw hZ ax)))
def JV:aA:=⟨31,[sP,pb,aY],Rw,[],U3 kN⟩
theorem u6:Ko JV:=
 aG (.r [] (.c .o (.l ⟨[(false,11,yw),(false,12,aq)],[]⟩ (.c (.r [11] .o) .o)))) call31 func31 (aw Fz (aw sT ax))
def Lu:aA:=⟨30,[sP,pb,aY,aY],.bool,[],U4 vd⟩
theorem Ht:Ko Lu:=
 aG .o call30 func30 (aw u6 (aw uk ax))
def Ie:aA:=⟨20,[pb,aY],.bool,[],U2 Af⟩
theorem E3:Ko Ie:=
 aG (.l ⟨[(false,5,aq)],[]⟩ .o) call20 func20 ax
def Ih:aA:=⟨14,[sP,pb,(.dat Hi [none,none])],.bool,[],U3 yZ⟩
theorem EC:Ko Ih:=
 aG (.r [] (.c .o (.l ⟨[(false,8,aq)],[]⟩ (.c .o (.r [20007] (.c .o (.l ⟨[(false,10,aq)],[]⟩ (.c .o (.r [] (.l ⟨[(false,13,.bool),(false,14,aq)],[]⟩ .o)))))))))) call14 func14 (aw IF (aw uT (aw uk (aw Ht (aw E3 ax)))))
def H8:aA:=⟨7,[],.bool,[],λ_=>sK⟩
theorem DQ:Ko H8:=
 aG .o call7 func7 (aw wZ (aw Ip (aw EC ax)))
def yF:aA:=⟨83,[wN,aq],aq,[],U2 kM⟩
def FX(d:Ex->Ex)(m:Sh->(R:Type)->Option R->Option R)(j:xl->zb)(e:Ex)(most:Int)(a:jk->zb):Int×Int->zb:=λ⟨g,c⟩=>
ai (decide (c<(List.length e.l:Int))) λk=>
ai (decide (1<most)) λi=>
ai (k&&i) λh=>
bif h then (
(idx e.l c).bind λf=>
(j ((d f),(i64.wrap (most-1)))).bind λb=>
bif decide (g<(i64.wrap (1+b))) then a ((i64.wrap (1+b)),(i64.wrap (c+1))) else a (g,(i64.wrap (c+1)))) else (
some g)
def o6(a:Ex->Ex)(c:Sh->(R:Type)->Option R->Option R)(b:xl->zb)(e:Ex)(most:Int):zb:=
aj (FX a c b e most) au (1,0)
def yH:TK9->TK9:=λa s=>jx a s.1 s.2
theorem Dj(a:TK9)(c:OK9 a):(ln (yH a)).Ok X0.P X0.Γ:=
 eB (.l ⟨[(false,5,aq),(false,6,aq)],[]⟩ .o) call83 func83 (aw c ax) ax ax λs=>(show _=o6 lJ eD a s.1 s.2 from by kernel_rfl).trans ((congrArg (λb=>o6 b eD a s.1 s.2) dX).trans ((congrArg (λd=>o6 id d a s.1 s.2) fJ).trans (by kernel_rfl)))
theorem FO:Ko yF:=(show yF=ln (aj (yH) au) by kernel_rfl)▸nZ (X:=X0) (E:=ln) ⟨call83,λ_ _ h=>nomatch h⟩ (Dj) au
def xM:aA:=⟨84,[wN,aq],aq,[],U2 kP⟩
def FD(f:Ex->Ex)(m:Sh->(R:Type)->Option R->Option R)(j:xl->zb)(e:Ex)(most:Int)(a:jk->zb):Int×Int->zb:=λ⟨c,d⟩=>
ai (decide (d<(List.length e.l:Int))) λk=>
ai (decide (c<most)) λi=>
ai (k&&i) λh=>
bif h then (
(idx e.l d).bind λg=>
(j ((f g),most)).bind λb=>
a ((i64.wrap (c+b)),(i64.wrap (d+1)))) else (
some c)
def ph(a:Ex->Ex)(c:Sh->(R:Type)->Option R->Option R)(b:xl->zb)(e:Ex)(most:Int):zb:=
aj (FD a c b e most) au (1,0)
def yD:aak->aak:=λa s=>jo a s.1 s.2
theorem CS(a:aak)(b:asC a):(lz (yD a)).Ok X0.P X0.Γ:=
 eB (.l ⟨[(false,5,aq),(false,6,aq)],[]⟩ .o) call84 func84 (aw b ax) ax ax λs=>(show _=ph lJ eD a s.1 s.2 from by kernel_rfl).trans ((congrArg (λc=>ph c eD a s.1 s.2) dX).trans ((congrArg (λd=>ph id d a s.1 s.2) fJ).trans (by kernel_rfl)))
theorem FJ:Ko xM:=(show xM=lz (aj (yD) au) by kernel_rfl)▸nZ (X:=X0) (E:=lz) ⟨call84,λ_ _ h=>nomatch h⟩ (CS) au
def Ly:aA:=⟨56,[wN],.bool,[],λs=>cB s⟩
def sO(a:Ex->Ex)(h:Sh->(R:Type)->Option R->Option R)(e:Ex):x3:=
(kM (a e) 45).bind λg=>
(kP (a e) 300).bind λf=>
ai (decide (g<45)) λd=>
ai (decide (f<300)) λc=>
ai (d&&c) λb=>
some b
theorem G8:Ko Ly:=
 eB .o call56 func56 (aw FO (aw FJ ax)) ax ax λs=>(show _=sO lJ eD s from by kernel_rfl).trans ((congrArg (λa=>sO a eD s) dX).trans ((congrArg (λb=>sO id b s) fJ).trans (by kernel_rfl)))
def Lt:aA:=⟨33,[pb,aq],.bool,[],U2 pJ⟩
def He(h:Ex->Ex)(m:Sh->(R:Type)->Option R->Option R)(a:Q9)(g:Int)(e:Int)(c:jk->x3)(l:(List Ex))(b:Int->x3)(d:Int):x3:=
(idx a.1 e).bind λk=>
bif decide (d<(k.length:Int)) then (idx a.1 e).bind λj=>
(idx j d).bind λi=>
(cB (h i)).bind λf=>
bif !f then some false else b (i64.wrap (d+1)) else c ((i64.wrap (g+(l.length:Int))),(i64.wrap (e+1)))
def Hy(e:Ex->Ex)(o:Sh->(R:Type)->Option R->Option R)(a:Q9)(most:Int)(b:jk->x3):Int×Int->x3:=λ⟨c,d⟩=>
ai (decide (d<(a.1.length:Int))) λn=>
ai (decide (c<4000)) λm=>
ai (n&&m) λl=>
bif l then (
(idx a.1 d).bind λf=>
aj (He e o a c d b f) au 0) else (
ai (decide (c<4000)) λk=>
ai (decide ((a.1.length:Int)<=most)) λj=>
ai (k&&j) λi=>
ai (decide ((a.2.1.length:Int)<=most)) λh=>
ai (i&&h) λg=>
some g)
def Hn(e:Ex->Ex)(j:Sh->(R:Type)->Option R->Option R)(a:Q9)(most:Int)(b:jk->x3):Int×Int->x3:=λ⟨c,d⟩=>
ai (decide (d<(a.2.2.2.length:Int))) λi=>
ai (decide (c<4000)) λh=>
ai (i&&h) λg=>
bif g then (
(idx a.2.2.2 d).bind λf=>
b ((i64.wrap (c+(f.length:Int))),(i64.wrap (d+1)))) else (
aj (Hy e j a most) au (c,0))
def GS(e:Ex->Ex)(i:Sh->(R:Type)->Option R->Option R)(a:Q9)(most:Int)(b:jk->x3):Int×Int->x3:=λ⟨c,d⟩=>
ai (decide (d<(a.2.1.length:Int))) λj=>
ai (decide (c<4000)) λh=>
ai (j&&h) λg=>
bif g then (
(idx a.2.1 d).bind λf=>
b ((i64.wrap (c+(f.length:Int))),(i64.wrap (d+1)))) else (
aj (Hn e i a most) au (c,0))
def sR(b:Ex->Ex)(c:Sh->(R:Type)->Option R->Option R)(a:Q9)(most:Int):x3:=
aj (GS b c a most) au ((i64.wrap ((a.2.2.1.length:Int)+(a.2.2.2.length:Int))),0)
theorem Hl:Ko Lt:=
 eB (.l ⟨[(false,5,aq),(false,6,aq)],[]⟩ (.c .o (.l ⟨[(false,5,aq),(false,7,aq)],[]⟩ (.c .o (.l ⟨[(false,5,aq),(false,8,aq)],[]⟩ (.c (.l ⟨[(false,9,aq)],[]⟩ .o) .o)))))) call33 func33 (aw G8 ax) ax ax λs=>(show _=sR lJ eD s.1 s.2 from by kernel_rfl).trans ((congrArg (λa=>sR a eD s.1 s.2) dX).trans ((congrArg (λb=>sR id b s.1 s.2) fJ).trans (by kernel_rfl)))
def GO:aA:=⟨57,[aY,aq],.bool,[],U2 eY⟩
theorem C5:Ko GO:=
 aG (.l ⟨[(false,5,aq)],[]⟩ .o) call57 func57 ax
def LA:aA:=⟨58,[wN],.bool,[],λs=>lO s⟩
def sI(a:Ex->Ex)(f:Sh->(R:Type)->Option R->Option R)(e:Ex):x3:=
(dO (a e)).bind λd=>
ai (d.2.1==0) λb8=>
ai (d.1==2) λc=>
ai (b8&&c) λb=>
some b
theorem G4:Ko LA:=
 eB .o call58 func58 (aw u7 ax) ax ax λs=>(show _=sI lJ eD s from by kernel_rfl).trans ((congrArg (λa=>sI a eD s) dX).trans ((congrArg (λb=>sI id b s) fJ).trans (by kernel_rfl)))
def Iy:aA:=⟨34,[pb],.bool,[],λs=>nF s⟩
def ED(g:Ex->Ex)(k:Sh->(R:Type)->Option R->Option R)(a:Q9)(d:Int)(c:Int->x3)(b:Int->x3)(e:Int):x3:=
(idx a.1 d).bind λj=>
bif decide (e<(j.length:Int)) then (idx a.1 d).bind λi=>
(idx i e).bind λh=>
(lO (g h)).bind λf=>
bif !f then some false else b (i64.wrap (e+1)) else c (i64.wrap (d+1))
def Ew(e:Ex->Ex)(g:Sh->(R:Type)->Option R->Option R)(a:Q9)(b:Int->x3)(c:Int):x3:=
bif decide (c<(a.1.length:Int)) then (idx a.2.1 c).bind λf=>
(eY f (a.1.length:Int)).bind λd=>
bif !d then some false else aj (ED e g a c b) au 0 else aj (iw a) au 0
def rm(b:Ex->Ex)(f:Sh->(R:Type)->Option R->Option R)(a:Q9):x3:=
(eY a.2.2.1 (a.1.length:Int)).bind λe=>
ai (!e) λb8=>
ai ((a.2.1.length:Int) != (a.1.length:Int)) λd=>
ai (b8||d) λc=>
bif c then (
some false) else (
aj (Ew b f a) au 0)
theorem E7:Ko Iy:=
 eB (.c .o (.l ⟨[(false,5,aq)],[]⟩ (.c (.c .o (.l ⟨[(false,7,aq)],[]⟩ .o)) (.l ⟨[(false,9,aq)],[]⟩ .o)))) call34 func34 (aw C5 (aw G4 ax)) ax ax λs=>(show _=rm lJ eD s from by kernel_rfl).trans ((congrArg (λa=>rm a eD s) dX).trans ((congrArg (λb=>rm id b s) fJ).trans (by kernel_rfl)))
def yY:aA:=⟨59,[wN,aq],.bool,[],U2 pC⟩
def Ho(g:Ex->Ex)(j:Sh->(R:Type)->Option R->Option R)(i:xl->x3)(e:Ex)(d:Int)(b:Int)(a:Int->x3)(c:Int):x3:=
bif decide (c<b) then (idx e.l c).bind λh=>
(i ((g h),d)).bind λf=>
bif !f then some false else a (i64.wrap (c+1)) else some true
def Hz(c:Ex->Ex)(y:Sh->(R:Type)->Option R->Option R)(z:xl->x3)(e:Ex)(b:Int)(a:Int):x3:=
ai (decide (e.op<1)) λB=>
ai (decide (24<e.op)) λA=>
ai (B||A) λx=>
ai ((List.length e.l:Int) != a) λw=>
ai (x||w) λv=>
bif v then (
some false) else (
ai (e.op==1) λu=>
ai (decide (e.n<0)) λt=>
ai (decide (1073741824<e.n)) λs=>
ai (t||s) λr=>
ai (u&&r) λq=>
ai (e.op==2) λp=>
ai (decide (e.n<0)) λo=>
ai (decide (b<=e.n)) λm=>
ai (o||m) λk=>
ai (p&&k) λj=>
ai (q||j) λi=>
ai (decide (2<e.op)) λh=>
ai (e.n != 0) λg=>
ai (h&&g) λf=>
ai (i||f) λd=>
bif d then (
some false) else (
aj (Ho c y z e b a) au 0))
def rk(g:Ex->Ex)(h:Sh->(R:Type)->Option R->Option R)(i:xl->x3)(e:Ex)(b:Int):x3:=
ai (λ(f:Int)=>Hz g h i e b f) λc=>
ai (λ(d:Bool)=>rY e c d) λa=>
bif e.op==1 then a (e.op==1) else bif e.op==2 then a (e.op==2) else bif e.op==13 then a (e.op==13) else a (e.op==14)
def Ah:aaV->aaV:=λa s=>ig a s.1 s.2
theorem EN(a:aaV)(b:asJ a):(me (Ah a)).Ok X0.P X0.Γ:=
 eB (.s (.s (.j ⟨[(false,5,aq)],[]⟩ (.s (.j ⟨[(false,10,.bool)],[]⟩ .o (.c .o (.j ⟨[(false,15,.bool)],[]⟩ .o .o)))) (.c .o (.c .o (.l ⟨[(false,6,aq)],[]⟩ .o)))))) call59 func59 (aw b ax) ax ax λs=>(show _=rk lJ eD a s.1 s.2 from by kernel_rfl).trans ((congrArg (λd=>rk d eD a s.1 s.2) dX).trans ((congrArg (λe=>rk id e a s.1 s.2) fJ).trans (by kernel_rfl)))
theorem GU:Ko yY:=(show yY=me (aj (Ah) au) by kernel_rfl)▸nZ (X:=X0) (E:=me) ⟨call59,λ_ _ h=>nomatch h⟩ (EN) au
def LL:aA:=⟨35,[pb,aq],.bool,[],U2 vu⟩
def GY(h:Ex->Ex)(l:Sh->(R:Type)->Option R->Option R)(a:Q9)(e:Int)(g:Int)(c:Int->x3)(b:Int->x3)(d:Int):x3:=
(idx a.1 g).bind λk=>
bif decide (d<(k.length:Int)) then (idx a.1 g).bind λj=>
(idx j d).bind λi=>
(pC (h i) e).bind λf=>
bif !f then some false else b (i64.wrap (d+1)) else c (i64.wrap (g+1))
def HJ(d:Ex->Ex)(f:Sh->(R:Type)->Option R->Option R)(a:Q9)(c:Int)(b:Int->x3)(e:Int):x3:=
bif decide (e<(a.1.length:Int)) then aj (GY d f a c e b) au 0 else some true
def sG(c:Ex->Ex)(d:Sh->(R:Type)->Option R->Option R)(a:Q9)(b:Int):x3:=
aj (HJ c d a b) au 0
theorem Hp:Ko LL:=
 eB (.l ⟨[(false,5,aq)],[]⟩ (.c (.l ⟨[(false,6,aq)],[]⟩ .o) .o)) call35 func35 (aw GU ax) ax ax λs=>(show _=sG lJ eD s.1 s.2 from by kernel_rfl).trans ((congrArg (λa=>sG a eD s.1 s.2) dX).trans ((congrArg (λb=>sG id b s.1 s.2) fJ).trans (by kernel_rfl)))
def G3:aA:=⟨17,[anK,pb],.bool,[],U2 l6⟩
theorem Dc:Ko G3:=
 aG .o call17 func17 (aw Hl (aw E7 (aw Hp ax)))
def ES:aA:=⟨18,[anK,aq],.bool,[],U2 pj⟩
theorem Bt:Ko ES:=
 aG (.l ⟨[(false,5,aq),(false,6,aq)],[]⟩ .o) call18 func18 ax
def GX:aA:=⟨8,[.str,pb],(.cW [alV,.bool]),[],U2 lX⟩
theorem C4:Ko GX:=
 aG (.r [4] .o) call8 func8 (aw wZ (aw Dc (aw Bt ax)))
def It:aA:=⟨15,[sP,pb,aq],Rw,[],U3 nE⟩
theorem DG:Ko It:=
 aG (.l ⟨[(false,8,yw),(false,9,aq)],[]⟩ (.c (.c .o (.r [] (.c .o (.l ⟨[(false,8,yw),(false,12,aq)],[]⟩ .o)))) .o)) call15 func15 (aw uT (aw u6 (aw hZ ax)))
end
end Go.Proofs.YtcgihjbfppkcfaaGreatDoor
