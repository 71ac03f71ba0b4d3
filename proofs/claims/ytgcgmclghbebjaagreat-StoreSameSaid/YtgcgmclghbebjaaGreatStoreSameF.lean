/-
  Own texts for the statement StoreSame, cut down to what it needs: Model, B34, KIn, KIe. (cut and joined by a program)
-/
import Derived.Test.YtgcgmclghbebjaaGreatStoreSameA
import Derived.Test.YtgcgmclghbebjaaGreatStoreSameB
import Derived.Test.YtgcgmclghbebjaaGreatStoreSameC
import Derived.Test.YtgcgmclghbebjaaGreatStoreSameD
import Derived.Test.YtgcgmclghbebjaaGreatStoreSameE
import Derived.Test.YtgcgmclghbebjaaGreatProg
namespace Go.Proofs.YtgcgmclghbebjaaGreat
abbrev Q1:=(Int×(List (List Int))×(List Int))
abbrev Q2:=((Int×(List ((List (Int×Int))×Int))×Int×Int×(List Int))×(Int×(List ((List (Int×Int))×Int))×Int×Int×(List Int))×(Int×(List ((List (Int×Int))×Int))×Int×Int×(List Int)))
abbrev Q3:=(Int×(List (Int×Int))×Int×(Q1×(List Int))×((List Q1)×Q1×(List Int))×((List Q1)×(List Int))×Q2×(Int×Int×Int×((List Int)×(List Int)×(List Int))))
abbrev Q4:=(List Int)
abbrev Q5:=(List (Int×Int))
abbrev Q6:=(List (Q5×Int))
abbrev Q7:=(Int×Int×Int×(Q4×Q4×Q4))
abbrev Q8:=(Option (List (Int×Bool)))
abbrev Q9:=(Int×Q5×Int×Int×(List Q4)×Q4×Q4×(List Q1)×Int×(List Q4)×Q4×Q4×(List Q1)×Q4×Int×Q6×Int×Int×Q4×Int×Q6×Int×Int×Q4×Int×Q6×Int×Int×Q4×Int×Int×Int×Q4×Q4×Q4×(List Q4)×Int)
abbrev Q10:=((List Q1)×Q1×Q4)
abbrev Q11:=(Int×Q6×Int×Int×Q4)
abbrev Q12:=(Int×Q6×Q4×Q8)
abbrev Q13:=(Int×Int)
abbrev Q14:=(Int×Int×Int×Int×Int×Int)
abbrev Q15:=(Q4×Int)
abbrev Q16:=((List Q1)×Q4)
abbrev Q17:=(Int×Int×Int×Int×Int×Int×Int×Int)
abbrev Q18:=(Bool×Int)
abbrev Q19:=(Int×Q4×Int×Q6×Int×Int×Q4×Q8)
abbrev Q20:=(Int×Bool)
abbrev Q21:=(Int×Int×Q6×Int×Int×Q4×Q8)
abbrev Q22:=(Q3×Bool×Int)
abbrev Q23:=(List (Int×Q4×Int))
abbrev Q24:=(Int×Q4×(List Q1))
abbrev Q25:=(Q3×Int)
abbrev Q26:=(Q10×Bool×Int)
abbrev Q27:=(Int×(List Q1))
abbrev Q28:=((List Q3)×Int)
noncomputable section
def Be {α:Type} (b:Nat) (s:List α) (k:Int) (y:List α):Option (List α):=match y with
 | []=>none
 | y0::ys=>chk (oE k (List.length s)&&aB (List.length s+List.length (y0::ys)) b) (some (fU s k (y0::ys)))
def K5 (x0:Int) (x1:Int) (y0:Int) (y1:Int):Bool:=x0==y0&&x1==y1
def jz (f:Q13):Option Bool:= al (decide (f.1<(-1073741824))) fun b5=> al (decide (1073741824<f.2)) fun b7=> al (b5||b7) fun b9=> al (!b9) fun b11=> al (decide (f.1≤f.2)) fun b13=> al (b11&&b13) fun b15=> al (decide ((IntKind.i64.wrap (f.2-f.1))<65536)) fun b17=> al (b15&&b17) fun b19=> some b19
def jv (s:Q5) (again12:((List Bool)×Int)→Option (List Bool)):(List Bool)×Int→Option (List Bool):=fun ⟨l10,t11⟩=> bif (decide (t11<(List.length s:Int))) then ( (idx s t11).bind fun e14=> (jz e14).bind fun r19=> (idx l10 t11).bind fun _e22=> again12 ((List.set l10 (Int.toNat t11) r19),(IntKind.i64.wrap (t11+1)))) else ( some l10)
def iZ (s:Q5):Option (List Bool):= chk (decide (0≤(List.length s:Int)))<| chk (aB (Int.toNat (List.length s:Int)) 1)<| aq (jv s) az ((List.replicate (Int.toNat (List.length s:Int)) false),0)
def cN (s:(List Bool)) (v3:Bool) (again5:Int→Option Int) (t4:Int):Option Int:= bif (decide (t4<(List.length s:Int))) then ( (idx s t4).bind fun e7=> bif (v3==e7) then ( some t4) else ( again5 (IntKind.i64.wrap (t4+1)))) else ( some (-1))
def ic (s:(List Bool)) (v3:Bool):Option Int:= aq (cN s v3) az 0
def dK (s:(List Bool)) (v3:Bool):Option Bool:= (ic s v3).bind fun r3=> some (decide (0≤r3))
def mw (s:Q5):Option Bool:= al (decide (1≤(List.length s:Int))) fun b3=> al (decide ((List.length s:Int)≤17)) fun b5=> al (b3&&b5) fun b7=> bY b7 default (iZ s) fun r9=> bY b7 default (dK r9 false) fun r18=> al (!r18) fun b24=> al (b7&&b24) fun b26=> some b26
def aC:Option (List Nat):= some ([133,134,135,136,137]:List Nat)
def cB (s:Q5):Option Q5:= chk (aB (List.length s) 16)<| some s
def gD (most:Int):Option (Q1×Int):= al (decide (most<0)) fun b10=> al (decide (1048576<most)) fun b12=> al (b10||b12) fun b14=> bif b14 then ( some ((0,[],[]),1)) else ( chk (decide (0≤8))<| chk (aB (Int.toNat 8) 8)<| some ((most,[],(List.replicate (Int.toNat 8) 0)),0))
def tS (most:Int):Option ((Q1×Q4)×Int):= (gD most).bind fun r12=> some ((r12.1,[]),r12.2)
def dX (_x:Unit) (t:Q3) (o:Q14):Option Q25:= (tS o.2.1).bind fun r49=> some ((t.1,t.2.1,t.2.2.1,r49.1,t.2.2.2.2.1,t.2.2.2.2.2.1,t.2.2.2.2.2.2.1,t.2.2.2.2.2.2.2),r49.2)
def rW (s:Q5) (most:Int) (r14:(Q1×Int)) (again34:((List Q1)×Int)→Option (Q10×Int)):(List Q1)×Int→Option (Q10×Int):=fun ⟨l30,t33⟩=> bif (decide (t33<(IntKind.i64.wrap (Int.tdiv (IntKind.i64.wrap ((IntKind.i64.wrap ((List.length s:Int)+2))-1)) 2)))) then ( (gD most).bind fun r36=> chk (aB (List.length l30+List.length ([r36.1]:List Q1)) 56)<| again34 ((l30++([r36.1]:List Q1)),(IntKind.i64.wrap (t33+1)))) else ( some ((l30,r14.1,[]),0))
def uN (s:Q5) (most:Int):Option (Q10×Int):= (gD most).bind fun r14=> bif (r14.2 != 0) then ( some (([],(0,[],[]),[]),r14.2)) else ( aq (rW s most r14) az ([],0))
def dF (_x:Unit) (t:Q3) (o:Q14):Option Q25:= (uN t.2.1 o.2.1).bind fun r49=> some ((t.1,t.2.1,t.2.2.1,t.2.2.2.1,r49.1,t.2.2.2.2.2.1,t.2.2.2.2.2.2.1,t.2.2.2.2.2.2.2),r49.2)
def wH (most:Int):Option (Q1×Int):= (gD most).bind fun r10=> some (r10.1,r10.2)
def jm (x7:Int→Option Int) (n:Int):Option Int:= bif (decide (n<2)) then ( some 0) else ( (x7 (IntKind.i64.wrap (Int.tdiv (IntKind.i64.wrap (n+1)) 2))).bind fun r4=> (x7 (IntKind.i64.wrap (n-(IntKind.i64.wrap (Int.tdiv (IntKind.i64.wrap (n+1)) 2))))).bind fun r7=> some (IntKind.i64.wrap ((IntKind.i64.wrap (1+r4))+r7)))
def lB (n:Int):Option Int:=
 aq (fun k (s:Int)=>jm k s) az n
def rU (_s:Q5) (r10:(Q1×Int)) (r25:Int) (again33:((List Q1)×Int)→Option (Q16×Int)):(List Q1)×Int→Option (Q16×Int):=fun ⟨l29,t32⟩=> bif (decide (t32<(max 1 r25))) then ( chk (aB (List.length l29+List.length ([r10.1]:List Q1)) 56)<| again33 ((l29++([r10.1]:List Q1)),(IntKind.i64.wrap (t32+1)))) else ( some ((l29,[]),0))
def tC (s:Q5) (most:Int):Option (Q16×Int):= (wH most).bind fun r10=> bif (r10.2 != 0) then ( some (([],[]),r10.2)) else ( (lB (List.length s:Int)).bind fun r25=> aq (rU s r10 r25) az ([],0))
def dJ (_x:Unit) (t:Q3) (o:Q14):Option Q25:= (tC t.2.1 o.2.1).bind fun r49=> some ((t.1,t.2.1,t.2.2.1,t.2.2.2.1,t.2.2.2.2.1,r49.1,t.2.2.2.2.2.2.1,t.2.2.2.2.2.2.2),r49.2)
def pO (again6:Q13→Option Int):Int×Int→Option Int:=fun ⟨n4,k5⟩=> bif (decide (0<n4)) then ( again6 ((ar .u64 n4 1),(IntKind.i64.wrap (k5+1)))) else ( some k5)
def oy (n:Int):Option Int:= aq pO az (n,0)
def iV (f:Q13):Option Int:= (oy (IntKind.u64.wrap (IntKind.i64.wrap (f.2-f.1)))).bind fun r5=> some r5
def jP (s:Q5) (again12:Q15→Option Q4):Q4×Int→Option Q4:=fun ⟨l10,t11⟩=> bif (decide (t11<(List.length s:Int))) then ( (idx s t11).bind fun e14=> (iV e14).bind fun r19=> (idx l10 t11).bind fun _e22=> again12 ((List.set l10 (Int.toNat t11) r19),(IntKind.i64.wrap (t11+1)))) else ( some l10)
def gR (s:Q5):Option Q4:= chk (decide (0≤(List.length s:Int)))<| chk (aB (Int.toNat (List.length s:Int)) 8)<| aq (jP s) az ((List.replicate (Int.toNat (List.length s:Int)) 0),0)
def m9 (_s:Q5) (r3:Q4) (again11:Q13→Option Int):Int×Int→Option Int:=fun ⟨n9,t10⟩=> bif (decide (t10<(List.length r3:Int))) then ( (idx r3 t10).bind fun e13=> again11 ((IntKind.i64.wrap (n9+e13)),(IntKind.i64.wrap (t10+1)))) else ( some n9)
def nR (s:Q5):Option Int:= (gR s).bind fun r3=> aq (m9 s r3) az (0,0)
def iA (s:Q5):Option Int:= (nR s).bind fun r3=> some (max 1 (IntKind.i64.wrap (Int.tdiv (IntKind.i64.wrap (r3+7)) 8)))
def w6 (wide:Int):Option (Q11×Int):= al (decide (wide<1)) fun b10=> al (decide (64<wide)) fun b12=> al (b10||b12) fun b14=> bif b14 then ( some ((0,[],0,0,[]),1)) else ( some ((wide,[],(-1),0,[]),0))
def dS (_x:Unit) (t:Q3) (again80:(Int×Q6×Int×Int×Q4×Int×Q6×Int×Int×Q4×Int×Q6×Int×Int×Q4×Int)→Option Q25):Int×Q6×Int×Int×Q4×Int×Q6×Int×Int×Q4×Int×Q6×Int×Int×Q4×Int→Option Q25:=fun ⟨c58,c59,c61,c62,c63,c65,c66,c68,c69,c70,c72,c73,c75,c76,c77,t79⟩=> bif (decide (t79<3)) then ( (iA t.2.1).bind fun r82=> (w6 r82).bind fun r85=> bif (t79==0) then ( again80 (r85.1.1,r85.1.2.1,r85.1.2.2.1,r85.1.2.2.2.1,r85.1.2.2.2.2,c65,c66,c68,c69,c70,c72,c73,c75,c76,c77,(IntKind.i64.wrap (t79+1)))) else ( bif (t79==1) then ( again80 (c58,c59,c61,c62,c63,r85.1.1,r85.1.2.1,r85.1.2.2.1,r85.1.2.2.2.1,r85.1.2.2.2.2,c72,c73,c75,c76,c77,(IntKind.i64.wrap (t79+1)))) else ( bif (t79==2) then ( again80 (c58,c59,c61,c62,c63,c65,c66,c68,c69,c70,r85.1.1,r85.1.2.1,r85.1.2.2.1,r85.1.2.2.2.1,r85.1.2.2.2.2,(IntKind.i64.wrap (t79+1)))) else ( none)))) else ( some ((t.1,t.2.1,t.2.2.1,t.2.2.2.1,t.2.2.2.2.1,t.2.2.2.2.2.1,((c58,c59,c61,c62,c63),(c65,c66,c68,c69,c70),(c72,c73,c75,c76,c77)),t.2.2.2.2.2.2.2),0))
def dn (x:Unit) (t:Q3) (o:Q14):Option Q25:= al (decide (o.2.1<0)) fun b49=> al (decide (1048576<o.2.1)) fun b51=> al (b49||b51) fun b53=> bif b53 then ( some (t,1)) else ( aq (dS x t) az (t.2.2.2.2.2.2.1.1.1,t.2.2.2.2.2.2.1.1.2.1,t.2.2.2.2.2.2.1.1.2.2.1,t.2.2.2.2.2.2.1.1.2.2.2.1,t.2.2.2.2.2.2.1.1.2.2.2.2,t.2.2.2.2.2.2.1.2.1.1,t.2.2.2.2.2.2.1.2.1.2.1,t.2.2.2.2.2.2.1.2.1.2.2.1,t.2.2.2.2.2.2.1.2.1.2.2.2.1,t.2.2.2.2.2.2.1.2.1.2.2.2.2,t.2.2.2.2.2.2.1.2.2.1,t.2.2.2.2.2.2.1.2.2.2.1,t.2.2.2.2.2.2.1.2.2.2.2.1,t.2.2.2.2.2.2.1.2.2.2.2.2.1,t.2.2.2.2.2.2.1.2.2.2.2.2.2,0))
def GD (m:Int) (k:Int) (seed:Int) (again42:(Q4×Q4×Q4×Int)→Option (Q7×Int)):Q4×Q4×Q4×Int→Option (Q7×Int):=fun ⟨l32,l35,l38,t41⟩=> bif (decide (t41<3)) then ( chk (decide (0≤(IntKind.i64.wrap (Int.tdiv (IntKind.i64.wrap (m+7)) 8))))<| chk (aB (Int.toNat (IntKind.i64.wrap (Int.tdiv (IntKind.i64.wrap (m+7)) 8))) 1)<| bif (t41==0) then ( again42 ((List.replicate (Int.toNat (IntKind.i64.wrap (Int.tdiv (IntKind.i64.wrap (m+7)) 8))) 0),l35,l38,(IntKind.i64.wrap (t41+1)))) else ( bif (t41==1) then ( again42 (l32,(List.replicate (Int.toNat (IntKind.i64.wrap (Int.tdiv (IntKind.i64.wrap (m+7)) 8))) 0),l38,(IntKind.i64.wrap (t41+1)))) else ( bif (t41==2) then ( again42 (l32,l35,(List.replicate (Int.toNat (IntKind.i64.wrap (Int.tdiv (IntKind.i64.wrap (m+7)) 8))) 0),(IntKind.i64.wrap (t41+1)))) else ( none)))) else ( some ((m,k,seed,(l32,l35,l38)),0))
def ET (m:Int) (k:Int) (seed:Int):Option (Q7×Int):= al (decide (m<1)) fun b12=> al (decide (4194304<m)) fun b14=> al (b12||b14) fun b16=> al (decide (k<1)) fun b18=> al (b16||b18) fun b20=> al (decide (16<k)) fun b22=> al (b20||b22) fun b24=> bif b24 then ( some ((0,0,0,([],[],[])),1)) else ( aq (GD m k seed) az ([],[],[],0))
def im (_x:Unit) (t:Q3) (o:Q14):Option Q25:= al (decide (o.2.1<0)) fun b49=> al (decide (1048576<o.2.1)) fun b51=> al (b49||b51) fun b53=> bif b53 then ( some (t,1)) else ( (ET o.2.2.2.2.1 o.2.2.2.2.2 o.2.2.2.1).bind fun r57=> some ((t.1,t.2.1,t.2.2.1,t.2.2.2.1,t.2.2.2.2.1,t.2.2.2.2.2.1,t.2.2.2.2.2.2.1,r57.1),r57.2))
def dG (s:Q5) (o:Q14):Option Q25:= (mw s).bind fun r29=> al (!r29) fun b32=> al (decide (o.1<0)) fun b34=> al (b32||b34) fun b36=> bY (!b36) default (aC) fun r38=> al (decide ((List.length r38:Int)≤o.1)) fun b46=> al (b36||b46) fun b48=> bif b48 then ( some ((0,[],0,((0,[],[]),[]),([],(0,[],[]),[]),([],[]),((0,[],0,0,[]),(0,[],0,0,[]),(0,[],0,0,[])),(0,0,0,([],[],[]))),1)) else ( (aC).bind fun r54=> (idx r54 o.1).bind fun e58=> (cB s).bind fun r60=> bif (Nat.beq e58 133) then ( (dX () (o.1,r60,o.2.1,((0,[],[]),[]),([],(0,[],[]),[]),([],[]),((0,[],0,0,[]),(0,[],0,0,[]),(0,[],0,0,[])),(0,0,0,([],[],[]))) o).bind fun r65=> bif (r65.2 != 0) then ( some ((0,[],0,((0,[],[]),[]),([],(0,[],[]),[]),([],[]),((0,[],0,0,[]),(0,[],0,0,[]),(0,[],0,0,[])),(0,0,0,([],[],[]))),r65.2)) else ( some (r65.1,0))) else ( bif (Nat.beq e58 134) then ( (dF () (o.1,r60,o.2.1,((0,[],[]),[]),([],(0,[],[]),[]),([],[]),((0,[],0,0,[]),(0,[],0,0,[]),(0,[],0,0,[])),(0,0,0,([],[],[]))) o).bind fun r96=> bif (r96.2 != 0) then ( some ((0,[],0,((0,[],[]),[]),([],(0,[],[]),[]),([],[]),((0,[],0,0,[]),(0,[],0,0,[]),(0,[],0,0,[])),(0,0,0,([],[],[]))),r96.2)) else ( some (r96.1,0))) else ( bif (Nat.beq e58 135) then ( (dJ () (o.1,r60,o.2.1,((0,[],[]),[]),([],(0,[],[]),[]),([],[]),((0,[],0,0,[]),(0,[],0,0,[]),(0,[],0,0,[])),(0,0,0,([],[],[]))) o).bind fun r128=> bif (r128.2 != 0) then ( some ((0,[],0,((0,[],[]),[]),([],(0,[],[]),[]),([],[]),((0,[],0,0,[]),(0,[],0,0,[]),(0,[],0,0,[])),(0,0,0,([],[],[]))),r128.2)) else ( some (r128.1,0))) else ( bif (Nat.beq e58 136) then ( (dn () (o.1,r60,o.2.1,((0,[],[]),[]),([],(0,[],[]),[]),([],[]),((0,[],0,0,[]),(0,[],0,0,[]),(0,[],0,0,[])),(0,0,0,([],[],[]))) o).bind fun r158=> bif (r158.2 != 0) then ( some ((0,[],0,((0,[],[]),[]),([],(0,[],[]),[]),([],[]),((0,[],0,0,[]),(0,[],0,0,[]),(0,[],0,0,[])),(0,0,0,([],[],[]))),r158.2)) else ( some (r158.1,0))) else ( bif (Nat.beq e58 137) then ( (im () (o.1,r60,o.2.1,((0,[],[]),[]),([],(0,[],[]),[]),([],[]),((0,[],0,0,[]),(0,[],0,0,[]),(0,[],0,0,[])),(0,0,0,([],[],[]))) o).bind fun r186=> bif (r186.2 != 0) then ( some ((0,[],0,((0,[],[]),[]),([],(0,[],[]),[]),([],[]),((0,[],0,0,[]),(0,[],0,0,[]),(0,[],0,0,[])),(0,0,0,([],[],[]))),r186.2)) else ( some (r186.1,0))) else ( none))))))
def jw (f:Q13) (n:Int):Option Bool:= al (decide (f.1≤n)) fun b5=> al (decide (n≤f.2)) fun b7=> al (b5&&b7) fun b9=> some b9
def jK (s:Q5) (v3:Q4) (again6:Int→Option Int) (t5:Int):Option Int:= bif (decide (t5<(List.length v3:Int))) then ( (idx v3 t5).bind fun e8=> (idx s t5).bind fun e10=> (jw e10 e8).bind fun r12=> bif (!r12) then ( some 5) else ( again6 (IntKind.i64.wrap (t5+1)))) else ( some 0)
def bQ (s:Q5) (v3:Q4):Option Int:= bif ((List.length v3:Int) != (List.length s:Int)) then ( some 1) else ( aq (jK s v3) az 0)
def aT (t:Q3):Option Nat:= (aC).bind fun r7=> (idx r7 t.1).bind fun e12=> some e12
def kM (b:Q4):Option Q4:= chk (aB (List.length b) 1)<| some b
def Bf (w1:Q15):Option Q15:= (kM w1.1).bind fun r5=> some (r5,w1.2)
def qQ (N:Int) (l11:Q4):Option Q15:= some (l11,(IntKind.i64.wrap (N+1)))
def mJ (one:Bool) (N:Int) (c7:Q4):Option Q15:= al (fun (s14:Q4)=>qQ N s14) fun kk13=> bif one then ( (idx c7 (IntKind.i64.wrap (Int.tdiv N 8))).bind fun e18=> chk (decide (0≤(Int.tmod N 8)))<| (idx c7 (IntKind.i64.wrap (Int.tdiv N 8))).bind fun _e21=> kk13 (List.set c7 (Int.toNat (IntKind.i64.wrap (Int.tdiv N 8))) (orI .u8 e18 (ar .u8 128 (Int.tmod N 8))))) else ( kk13 c7)
def mP (one:Bool) (B:Q4) (N:Int):Option Q15:= al (fun (s25:Q4)=>mJ one N s25) fun kk24=> bif ((Int.tmod N 8)==0) then ( chk (aB (List.length B+List.length ([0]:List Int)) 1)<| kk24 (B++([0]:List Int))) else ( kk24 B)
def rR (n:Int) (again35:(Q4×Int×Int)→Option (Q15×Int)):Q4×Int×Int→Option (Q15×Int):=fun ⟨c30,c33,i34⟩=> bif (decide (0≤i34)) then ( chk (decide (0≤i34))<| (mP ((iD .u64 (ar .u64 n i34) 1)==1) c30 c33).bind fun r40=> again35 (r40.1,r40.2,(IntKind.i64.wrap (i34-1)))) else ( some ((c30,c33),0))
def tL (w1:Q15) (n:Int) (wide:Int):Option (Q15×Int):= al (decide (wide<0)) fun b10=> al (decide (64<wide)) fun b12=> al (b10||b12) fun b14=> bif b14 then ( some (w1,1)) else ( (oy n).bind fun r18=> bif (decide (wide<r18)) then ( some (w1,5)) else ( (Bf w1).bind fun r23=> aq (rR n) az (r23.1,r23.2,(IntKind.i64.wrap (wide-1)))))
def lg (s:Q5) (v3:Q4) (r14:Q4) (again24:(Q4×Int×Int)→Option Q15):Q4×Int×Int→Option Q15:=fun ⟨c20,c22,t23⟩=> bif (decide (t23<(List.length r14:Int))) then ( (idx r14 t23).bind fun e26=> (idx v3 t23).bind fun e30=> (idx s t23).bind fun e32=> (tL (c20,c22) (IntKind.u64.wrap (IntKind.i64.wrap (e30-e32.1))) e26).bind fun r34=> again24 (r34.1.1,r34.1.2,(IntKind.i64.wrap (t23+1)))) else ( (iA s).bind fun r39=> chk (decide (0≤r39))<| chk (aB (Int.toNat r39) 1)<| some ((lZ (List.replicate (Int.toNat r39) 0) c20),0))
def fg (s:Q5) (v3:Q4):Option Q15:= (bQ s v3).bind fun r8=> bif (r8 != 0) then ( some ([],r8)) else ( (gR s).bind fun r14=> aq (lg s v3 r14) az ([],0,0))
def bR (t:Q3) (v39:Q4):Option Q4:= (fg t.2.1 v39).bind fun r7=> some r7.1
def rO (x:Int):Option Int:= some (pW .u64 x (ar .u64 x 29))
def rh (x:Int):Option Int:= some (IntKind.u64.wrap (x*13787848793156543929))
def rC (x:Int):Option Int:= some (pW .u64 x (ar .u64 x 32))
def rA (b:Q4) (again9:Q13→Option Int):Int×Int→Option Int:=fun ⟨c7,t8⟩=> bif (decide (t8<(List.length b:Int))) then ( (idx b t8).bind fun e11=> again9 ((IntKind.u64.wrap ((pW .u64 c7 (IntKind.u64.wrap e11))*1099511628211)),(IntKind.i64.wrap (t8+1)))) else ( (rO c7).bind fun r17=> (rh r17).bind fun r20=> (rC r20).bind fun r23=> some r23)
def nC (b:Q4) (seed:Int):Option Int:= aq (rA b) az ((pW .u64 seed 11400714819323198485),0)
def lU (h:Int) (n:Int):Option Int:= bif (decide (n<1)) then ( some 0) else ( chk ((IntKind.u64.wrap n) != 0)<| some (IntKind.i64.wrap (Int.tmod h (IntKind.u64.wrap n))))
def kK (a:Q4) (b:Q4):Option Bool:= some ((strOf a)==(strOf b))
def cV (v1:Q1) (key:Q4) (again15:Int→Option Int) (at14:Int):Option Int:= (idx v1.2.2 at14).bind fun e16=> al (e16==0) fun b18=> bY (!b18) [] (idx v1.2.1 (IntKind.i64.wrap (e16-1))) fun e20=> bY (!b18) default (kK e20 key) fun r26=> al (b18||r26) fun b32=> bif b32 then ( some at14) else ( chk ((List.length v1.2.2:Int) != 0)<| again15 (Int.tmod (IntKind.i64.wrap (at14+1)) (List.length v1.2.2:Int)))
def cK (v1:Q1) (key:Q4):Option Int:= (nC key 0).bind fun r7=> (lU r7 (List.length v1.2.2:Int)).bind fun r10=> aq (cV v1 key) az r10
def l7 (v1:Q1) (key:Q4):Option Q20:= bif ((List.length v1.2.2:Int)==0) then ( some (0,false)) else ( (cK v1 key).bind fun r9=> (idx v1.2.2 r9).bind fun e12=> some ((max (IntKind.i64.wrap (e12-1)) 0),(decide (0<e12))))
def bM (t:Q1) (key:Q4):Option Q20:= (l7 t key).bind fun r6=> some (r6.1,r6.2)
def lJ (v1:Q1) (key:Q4) (again15:Int→Option Int) (at14:Int):Option Int:= (idx v1.2.2 at14).bind fun e16=> al (e16==0) fun b18=> bY (!b18) [] (idx v1.2.1 (IntKind.i64.wrap (e16-1))) fun e20=> bY (!b18) default (kK e20 key) fun r26=> al (b18||r26) fun b32=> bif b32 then ( some at14) else ( chk ((List.length v1.2.2:Int) != 0)<| again15 (Int.tmod (IntKind.i64.wrap (at14+1)) (List.length v1.2.2:Int)))
def gH (v1:Q1) (key:Q4):Option Int:= (nC key 0).bind fun r7=> (lU r7 (List.length v1.2.2:Int)).bind fun r10=> aq (lJ v1 key) az r10
def ga (Cap:Int) (Keys:(List Q4)) (again15:((List Q4)×Q4×Int)→Option ((List Q4)×Q4)):(List Q4)×Q4×Int→Option ((List Q4)×Q4):=fun ⟨l12,l13,t14⟩=> bif (decide (t14<(List.length Keys:Int))) then ( (idx l12 t14).bind fun e17=> (gH (Cap,l12,l13) e17).bind fun r25=> (idx ((Cap,l12,l13).2.2) r25).bind fun _e28=> again15 ((Cap,l12,l13).2.1,(List.set ((Cap,l12,l13).2.2) (Int.toNat r25) (IntKind.i64.wrap (t14+1))),(IntKind.i64.wrap (t14+1)))) else ( some (l12,l13))
def jf (n:Int) (Cap:Int) (Keys:(List Q4)) (_Slot:Q4):Option ((List Q4)×Q4):= chk (decide (0≤n))<| chk (aB (Int.toNat n) 8)<| aq (ga Cap Keys) az (Keys,(List.replicate (Int.toNat n) 0),0)
def cZ (s:Q4):Option Q4:= chk (aB (List.length s) 8)<| some s
def qX (t:Q1) (l41:(List Q4)) (c42:Q4):Option (Q1×Int×Bool×Int):= some ((t.1,l41,c42),(List.length t.2.1:Int),true,0)
def bd (t:Q1) (key:Q4):Option (Q1×Int×Bool×Int):= (bM t key).bind fun r14=> bif r14.2 then ( some (t,r14.1,false,0)) else ( bif (decide (t.1≤(List.length t.2.1:Int))) then ( some (t,0,false,7)) else ( chk (gL 0 (List.length t.2.1:Int) (List.length t.2.1:Int) (List.length t.2.1)&&((List.length t.2.1:Int)==(List.length t.2.1:Int)))<| (kM key).bind fun r28=> chk (aB (List.length (ba t.2.1 0 (List.length t.2.1:Int))+List.length ([r28]:List Q4)) 24)<| al (fun (s46:(List Q4)×Q4)=>qX t s46.1 s46.2) fun kk45=> bif (decide ((max (List.length t.2.2:Int) 8)<(IntKind.i64.wrap (2*(IntKind.i64.wrap ((List.length t.2.1:Int)+1)))))) then ( (jf (IntKind.i64.wrap (2*(max (List.length t.2.2:Int) 8))) t.1 ((ba t.2.1 0 (List.length t.2.1:Int))++([r28]:List Q4)) t.2.2).bind fun r48=> kk45 (r48.1,r48.2)) else ( (cZ t.2.2).bind fun r52=> (cK t key).bind fun r60=> (idx r52 r60).bind fun _e63=> kk45 (((ba t.2.1 0 (List.length t.2.1:Int))++([r28]:List Q4)),(List.set r52 (Int.toNat r60) (IntKind.i64.wrap ((List.length t.2.1:Int)+1)))))))
def nY (s:(Q1×Q4)) (key:Q4):Option ((Q1×Q4)×Bool×Int):= (bd s.1 key).bind fun r15=> bif (!r15.2.2.1) then ( some (s,false,r15.2.2.2)) else ( chk (gL 0 (List.length s.2:Int) (List.length s.2:Int) (List.length s.2)&&((List.length s.2:Int)==(List.length s.2:Int)))<| chk (aB (List.length (ba s.2 0 (List.length s.2:Int))+List.length ([0]:List Int)) 1)<| some ((r15.1,((ba s.2 0 (List.length s.2:Int))++([0]:List Int))),true,0))
def eT (_x:Unit) (t:Q3) (v39:Q4):Option Q22:= (bR t v39).bind fun r52=> (nY t.2.2.2.1 r52).bind fun r56=> some ((t.1,t.2.1,t.2.2.1,r56.1,t.2.2.2.2.1,t.2.2.2.2.2.1,t.2.2.2.2.2.2.1,t.2.2.2.2.2.2.2),r56.2.1,r56.2.2)
def gZ (s:Q5) (v3:Q4):Option (Q5×Q4):= some (s,v3)
def kj (t10:Int) (again11:Q15→Option Q4) (e13:Int) (again20:Q15→Option Q4):Q4×Int→Option Q4:=fun ⟨row16,t19⟩=> bif (decide (t19<4)) then ( chk (decide (0≤(IntKind.i64.wrap (8*t19))))<| chk (aB (List.length row16+List.length ([(IntKind.u8.wrap (ar .i64 e13 (IntKind.i64.wrap (8*t19))))]:List Int)) 1)<| again20 ((row16++([(IntKind.u8.wrap (ar .i64 e13 (IntKind.i64.wrap (8*t19))))]:List Int)),(IntKind.i64.wrap (t19+1)))) else ( again11 (row16,(IntKind.i64.wrap (t10+1))))
def nD (places:Q4) (again11:Q15→Option Q4):Q4×Int→Option Q4:=fun ⟨row7,t10⟩=> bif (decide (t10<(List.length places:Int))) then ( (idx places t10).bind fun e13=> aq (kj t10 again11 e13) az (row7,0)) else ( some row7)
def jk (row:Q4) (places:Q4):Option Q4:= aq (nD places) az (row,0)
def iG (c:Q10) (_s:Q5) (r9:(Q5×Q4)) (again24:(Int×Int×Q4)→Option Int):Int×Int×Q4→Option Int:=fun ⟨s19,c20,l21⟩=> bif (decide ((IntKind.i64.wrap (s19*2))<(List.length r9.1:Int))) then ( chk (fi (IntKind.i64.wrap (s19*2)) (min (List.length r9.1:Int) (IntKind.i64.wrap ((IntKind.i64.wrap (s19+1))*2))) (List.length r9.1))<| chk (fi (IntKind.i64.wrap (s19*2)) (min (List.length r9.1:Int) (IntKind.i64.wrap ((IntKind.i64.wrap (s19+1))*2))) (List.length r9.2))<| (fg (ba r9.1 (IntKind.i64.wrap (s19*2)) (min (List.length r9.1:Int) (IntKind.i64.wrap ((IntKind.i64.wrap (s19+1))*2)))) (ba r9.2 (IntKind.i64.wrap (s19*2)) (min (List.length r9.1:Int) (IntKind.i64.wrap ((IntKind.i64.wrap (s19+1))*2))))).bind fun r36=> (idx c.1 s19).bind fun e41=> (bM e41 r36.1).bind fun r49=> bif (!r49.2) then ( bif (!false) then ( some (-1)) else ( again24 ((IntKind.i64.wrap (s19+1)),(-1),l21))) else ( (jk l21 ([r49.1]:List Int)).bind fun r57=> bif (!true) then ( (bM c.2.1 r57).bind fun r64=> bif (!r64.2) then ( some (-1)) else ( some r64.1)) else ( again24 ((IntKind.i64.wrap (s19+1)),c20,r57)))) else ( (bM c.2.1 l21).bind fun r70=> bif (!r70.2) then ( some (-1)) else ( some r70.1))
def gT (c:Q10) (s:Q5) (v11:Q4):Option Int:= (gZ s v11).bind fun r9=> aq (iG c s r9) az (0,0,[])
def gS (t:Q1):Option Int:= some (List.length t.2.1:Int)
def lI (c:Q10):Option Int:= (gS c.2.1).bind fun r5=> some r5
def bK (s:(List Q1)):Option (List Q1):= chk (aB (List.length s) 56)<| some s
def eM (c:Q10) (_s:Q5) (r42:(Q5×Q4)) (again55:(Int×(List Q1)×Q4)→Option Q26):Int×(List Q1)×Q4→Option Q26:=fun ⟨s50,l51,l52⟩=> bif (decide ((IntKind.i64.wrap (s50*2))<(List.length r42.1:Int))) then ( chk (fi (IntKind.i64.wrap (s50*2)) (min (List.length r42.1:Int) (IntKind.i64.wrap ((IntKind.i64.wrap (s50+1))*2))) (List.length r42.1))<| chk (fi (IntKind.i64.wrap (s50*2)) (min (List.length r42.1:Int) (IntKind.i64.wrap ((IntKind.i64.wrap (s50+1))*2))) (List.length r42.2))<| (fg (ba r42.1 (IntKind.i64.wrap (s50*2)) (min (List.length r42.1:Int) (IntKind.i64.wrap ((IntKind.i64.wrap (s50+1))*2)))) (ba r42.2 (IntKind.i64.wrap (s50*2)) (min (List.length r42.1:Int) (IntKind.i64.wrap ((IntKind.i64.wrap (s50+1))*2))))).bind fun r67=> (idx l51 s50).bind fun e72=> (bd e72 r67.1).bind fun r80=> (jk l52 ([r80.2.1]:List Int)).bind fun r92=> (idx l51 s50).bind fun _e97=> bif (!true) then ( (bd c.2.1 r92).bind fun r108=> chk (gL 0 (List.length c.2.2:Int) (List.length c.2.2:Int) (List.length c.2.2)&&((List.length c.2.2:Int)==(List.length c.2.2:Int)))<| chk (aB (List.length (ba c.2.2 0 (List.length c.2.2:Int))+List.length ([0]:List Int)) 1)<| some (((List.set l51 (Int.toNat s50) r80.1),r108.1,((ba c.2.2 0 (List.length c.2.2:Int))++([0]:List Int))),true,0)) else ( again55 ((IntKind.i64.wrap (s50+1)),(List.set l51 (Int.toNat s50) r80.1),r92))) else ( (bd c.2.1 l52).bind fun r127=> chk (gL 0 (List.length c.2.2:Int) (List.length c.2.2:Int) (List.length c.2.2)&&((List.length c.2.2:Int)==(List.length c.2.2:Int)))<| chk (aB (List.length (ba c.2.2 0 (List.length c.2.2:Int))+List.length ([0]:List Int)) 1)<| some ((l51,r127.1,((ba c.2.2 0 (List.length c.2.2:Int))++([0]:List Int))),true,0))
def nP (c:Q10) (s:Q5) (v11:Q4):Option Q26:= (bQ s v11).bind fun r17=> bif (r17 != 0) then ( some (c,false,r17)) else ( (gT c s v11).bind fun r22=> bif (decide (0≤r22)) then ( some (c,false,0)) else ( (lI c).bind fun r29=> bif (decide (c.2.1.1≤r29)) then ( some (c,false,7)) else ( (bK c.1).bind fun r34=> (gZ s v11).bind fun r42=> aq (eM c s r42) az (0,r34,[]))))
def eC (_x:Unit) (t:Q3) (v39:Q4):Option Q22:= (nP t.2.2.2.2.1 t.2.1 v39).bind fun r50=> some ((t.1,t.2.1,t.2.2.1,t.2.2.2.1,r50.1,t.2.2.2.2.2.1,t.2.2.2.2.2.2.1,t.2.2.2.2.2.2.2),r50.2.1,r50.2.2)
def mB (s:Q5) (v3:Q4) (again12:Q15→Option Q4):Q4×Int→Option Q4:=fun ⟨out8,t11⟩=> bif (decide (t11<(List.length v3:Int))) then ( (idx v3 t11).bind fun e14=> (idx s t11).bind fun e16=> chk (aB (List.length out8+List.length ([(IntKind.u32.wrap (IntKind.i64.wrap (e14-e16.1)))]:List Int)) 4)<| again12 ((out8++([(IntKind.u32.wrap (IntKind.i64.wrap (e14-e16.1)))]:List Int)),(IntKind.i64.wrap (t11+1)))) else ( some out8)
def jW (s:Q5) (v3:Q4):Option Q4:= aq (mB s v3) az ([],0)
def Hb (a:Int) (b:Int) (again17:(Int×Int×Int×Int×Int×Int×Int×Int×Int)→Option Q17):Int×Int×Int×Int×Int×Int×Int×Int×Int→Option Q17:=fun ⟨c8,c9,c10,c11,c12,c13,c14,c15,t16⟩=> bif (decide (t16<4)) then ( chk (decide (0≤(IntKind.i64.wrap (8*t16))))<| chk (decide (0≤(IntKind.i64.wrap (8*t16))))<| bif (t16==0) then ( bif ((IntKind.i64.wrap (4+t16))==0) then ( again17 ((IntKind.u8.wrap (ar .u32 b (IntKind.i64.wrap (8*t16)))),c9,c10,c11,c12,c13,c14,c15,(IntKind.i64.wrap (t16+1)))) else ( bif ((IntKind.i64.wrap (4+t16))==1) then ( again17 ((IntKind.u8.wrap (ar .u32 a (IntKind.i64.wrap (8*t16)))),(IntKind.u8.wrap (ar .u32 b (IntKind.i64.wrap (8*t16)))),c10,c11,c12,c13,c14,c15,(IntKind.i64.wrap (t16+1)))) else ( bif ((IntKind.i64.wrap (4+t16))==2) then ( again17 ((IntKind.u8.wrap (ar .u32 a (IntKind.i64.wrap (8*t16)))),c9,(IntKind.u8.wrap (ar .u32 b (IntKind.i64.wrap (8*t16)))),c11,c12,c13,c14,c15,(IntKind.i64.wrap (t16+1)))) else ( bif ((IntKind.i64.wrap (4+t16))==3) then ( again17 ((IntKind.u8.wrap (ar .u32 a (IntKind.i64.wrap (8*t16)))),c9,c10,(IntKind.u8.wrap (ar .u32 b (IntKind.i64.wrap (8*t16)))),c12,c13,c14,c15,(IntKind.i64.wrap (t16+1)))) else ( bif ((IntKind.i64.wrap (4+t16))==4) then ( again17 ((IntKind.u8.wrap (ar .u32 a (IntKind.i64.wrap (8*t16)))),c9,c10,c11,(IntKind.u8.wrap (ar .u32 b (IntKind.i64.wrap (8*t16)))),c13,c14,c15,(IntKind.i64.wrap (t16+1)))) else ( bif ((IntKind.i64.wrap (4+t16))==5) then ( again17 ((IntKind.u8.wrap (ar .u32 a (IntKind.i64.wrap (8*t16)))),c9,c10,c11,c12,(IntKind.u8.wrap (ar .u32 b (IntKind.i64.wrap (8*t16)))),c14,c15,(IntKind.i64.wrap (t16+1)))) else ( bif ((IntKind.i64.wrap (4+t16))==6) then ( again17 ((IntKind.u8.wrap (ar .u32 a (IntKind.i64.wrap (8*t16)))),c9,c10,c11,c12,c13,(IntKind.u8.wrap (ar .u32 b (IntKind.i64.wrap (8*t16)))),c15,(IntKind.i64.wrap (t16+1)))) else ( bif ((IntKind.i64.wrap (4+t16))==7) then ( again17 ((IntKind.u8.wrap (ar .u32 a (IntKind.i64.wrap (8*t16)))),c9,c10,c11,c12,c13,c14,(IntKind.u8.wrap (ar .u32 b (IntKind.i64.wrap (8*t16)))),(IntKind.i64.wrap (t16+1)))) else ( none))))))))) else ( bif (t16==1) then ( bif ((IntKind.i64.wrap (4+t16))==0) then ( again17 ((IntKind.u8.wrap (ar .u32 b (IntKind.i64.wrap (8*t16)))),(IntKind.u8.wrap (ar .u32 a (IntKind.i64.wrap (8*t16)))),c10,c11,c12,c13,c14,c15,(IntKind.i64.wrap (t16+1)))) else ( bif ((IntKind.i64.wrap (4+t16))==1) then ( again17 (c8,(IntKind.u8.wrap (ar .u32 b (IntKind.i64.wrap (8*t16)))),c10,c11,c12,c13,c14,c15,(IntKind.i64.wrap (t16+1)))) else ( bif ((IntKind.i64.wrap (4+t16))==2) then ( again17 (c8,(IntKind.u8.wrap (ar .u32 a (IntKind.i64.wrap (8*t16)))),(IntKind.u8.wrap (ar .u32 b (IntKind.i64.wrap (8*t16)))),c11,c12,c13,c14,c15,(IntKind.i64.wrap (t16+1)))) else ( bif ((IntKind.i64.wrap (4+t16))==3) then ( again17 (c8,(IntKind.u8.wrap (ar .u32 a (IntKind.i64.wrap (8*t16)))),c10,(IntKind.u8.wrap (ar .u32 b (IntKind.i64.wrap (8*t16)))),c12,c13,c14,c15,(IntKind.i64.wrap (t16+1)))) else ( bif ((IntKind.i64.wrap (4+t16))==4) then ( again17 (c8,(IntKind.u8.wrap (ar .u32 a (IntKind.i64.wrap (8*t16)))),c10,c11,(IntKind.u8.wrap (ar .u32 b (IntKind.i64.wrap (8*t16)))),c13,c14,c15,(IntKind.i64.wrap (t16+1)))) else ( bif ((IntKind.i64.wrap (4+t16))==5) then ( again17 (c8,(IntKind.u8.wrap (ar .u32 a (IntKind.i64.wrap (8*t16)))),c10,c11,c12,(IntKind.u8.wrap (ar .u32 b (IntKind.i64.wrap (8*t16)))),c14,c15,(IntKind.i64.wrap (t16+1)))) else ( bif ((IntKind.i64.wrap (4+t16))==6) then ( again17 (c8,(IntKind.u8.wrap (ar .u32 a (IntKind.i64.wrap (8*t16)))),c10,c11,c12,c13,(IntKind.u8.wrap (ar .u32 b (IntKind.i64.wrap (8*t16)))),c15,(IntKind.i64.wrap (t16+1)))) else ( bif ((IntKind.i64.wrap (4+t16))==7) then ( again17 (c8,(IntKind.u8.wrap (ar .u32 a (IntKind.i64.wrap (8*t16)))),c10,c11,c12,c13,c14,(IntKind.u8.wrap (ar .u32 b (IntKind.i64.wrap (8*t16)))),(IntKind.i64.wrap (t16+1)))) else ( none))))))))) else ( bif (t16==2) then ( bif ((IntKind.i64.wrap (4+t16))==0) then ( again17 ((IntKind.u8.wrap (ar .u32 b (IntKind.i64.wrap (8*t16)))),c9,(IntKind.u8.wrap (ar .u32 a (IntKind.i64.wrap (8*t16)))),c11,c12,c13,c14,c15,(IntKind.i64.wrap (t16+1)))) else ( bif ((IntKind.i64.wrap (4+t16))==1) then ( again17 (c8,(IntKind.u8.wrap (ar .u32 b (IntKind.i64.wrap (8*t16)))),(IntKind.u8.wrap (ar .u32 a (IntKind.i64.wrap (8*t16)))),c11,c12,c13,c14,c15,(IntKind.i64.wrap (t16+1)))) else ( bif ((IntKind.i64.wrap (4+t16))==2) then ( again17 (c8,c9,(IntKind.u8.wrap (ar .u32 b (IntKind.i64.wrap (8*t16)))),c11,c12,c13,c14,c15,(IntKind.i64.wrap (t16+1)))) else ( bif ((IntKind.i64.wrap (4+t16))==3) then ( again17 (c8,c9,(IntKind.u8.wrap (ar .u32 a (IntKind.i64.wrap (8*t16)))),(IntKind.u8.wrap (ar .u32 b (IntKind.i64.wrap (8*t16)))),c12,c13,c14,c15,(IntKind.i64.wrap (t16+1)))) else ( bif ((IntKind.i64.wrap (4+t16))==4) then ( again17 (c8,c9,(IntKind.u8.wrap (ar .u32 a (IntKind.i64.wrap (8*t16)))),c11,(IntKind.u8.wrap (ar .u32 b (IntKind.i64.wrap (8*t16)))),c13,c14,c15,(IntKind.i64.wrap (t16+1)))) else ( bif ((IntKind.i64.wrap (4+t16))==5) then ( again17 (c8,c9,(IntKind.u8.wrap (ar .u32 a (IntKind.i64.wrap (8*t16)))),c11,c12,(IntKind.u8.wrap (ar .u32 b (IntKind.i64.wrap (8*t16)))),c14,c15,(IntKind.i64.wrap (t16+1)))) else ( bif ((IntKind.i64.wrap (4+t16))==6) then ( again17 (c8,c9,(IntKind.u8.wrap (ar .u32 a (IntKind.i64.wrap (8*t16)))),c11,c12,c13,(IntKind.u8.wrap (ar .u32 b (IntKind.i64.wrap (8*t16)))),c15,(IntKind.i64.wrap (t16+1)))) else ( bif ((IntKind.i64.wrap (4+t16))==7) then ( again17 (c8,c9,(IntKind.u8.wrap (ar .u32 a (IntKind.i64.wrap (8*t16)))),c11,c12,c13,c14,(IntKind.u8.wrap (ar .u32 b (IntKind.i64.wrap (8*t16)))),(IntKind.i64.wrap (t16+1)))) else ( none))))))))) else ( bif (t16==3) then ( bif ((IntKind.i64.wrap (4+t16))==0) then ( again17 ((IntKind.u8.wrap (ar .u32 b (IntKind.i64.wrap (8*t16)))),c9,c10,(IntKind.u8.wrap (ar .u32 a (IntKind.i64.wrap (8*t16)))),c12,c13,c14,c15,(IntKind.i64.wrap (t16+1)))) else ( bif ((IntKind.i64.wrap (4+t16))==1) then ( again17 (c8,(IntKind.u8.wrap (ar .u32 b (IntKind.i64.wrap (8*t16)))),c10,(IntKind.u8.wrap (ar .u32 a (IntKind.i64.wrap (8*t16)))),c12,c13,c14,c15,(IntKind.i64.wrap (t16+1)))) else ( bif ((IntKind.i64.wrap (4+t16))==2) then ( again17 (c8,c9,(IntKind.u8.wrap (ar .u32 b (IntKind.i64.wrap (8*t16)))),(IntKind.u8.wrap (ar .u32 a (IntKind.i64.wrap (8*t16)))),c12,c13,c14,c15,(IntKind.i64.wrap (t16+1)))) else ( bif ((IntKind.i64.wrap (4+t16))==3) then ( again17 (c8,c9,c10,(IntKind.u8.wrap (ar .u32 b (IntKind.i64.wrap (8*t16)))),c12,c13,c14,c15,(IntKind.i64.wrap (t16+1)))) else ( bif ((IntKind.i64.wrap (4+t16))==4) then ( again17 (c8,c9,c10,(IntKind.u8.wrap (ar .u32 a (IntKind.i64.wrap (8*t16)))),(IntKind.u8.wrap (ar .u32 b (IntKind.i64.wrap (8*t16)))),c13,c14,c15,(IntKind.i64.wrap (t16+1)))) else ( bif ((IntKind.i64.wrap (4+t16))==5) then ( again17 (c8,c9,c10,(IntKind.u8.wrap (ar .u32 a (IntKind.i64.wrap (8*t16)))),c12,(IntKind.u8.wrap (ar .u32 b (IntKind.i64.wrap (8*t16)))),c14,c15,(IntKind.i64.wrap (t16+1)))) else ( bif ((IntKind.i64.wrap (4+t16))==6) then ( again17 (c8,c9,c10,(IntKind.u8.wrap (ar .u32 a (IntKind.i64.wrap (8*t16)))),c12,c13,(IntKind.u8.wrap (ar .u32 b (IntKind.i64.wrap (8*t16)))),c15,(IntKind.i64.wrap (t16+1)))) else ( bif ((IntKind.i64.wrap (4+t16))==7) then ( again17 (c8,c9,c10,(IntKind.u8.wrap (ar .u32 a (IntKind.i64.wrap (8*t16)))),c12,c13,c14,(IntKind.u8.wrap (ar .u32 b (IntKind.i64.wrap (8*t16)))),(IntKind.i64.wrap (t16+1)))) else ( none))))))))) else ( bif (t16==4) then ( bif ((IntKind.i64.wrap (4+t16))==0) then ( again17 ((IntKind.u8.wrap (ar .u32 b (IntKind.i64.wrap (8*t16)))),c9,c10,c11,(IntKind.u8.wrap (ar .u32 a (IntKind.i64.wrap (8*t16)))),c13,c14,c15,(IntKind.i64.wrap (t16+1)))) else ( bif ((IntKind.i64.wrap (4+t16))==1) then ( again17 (c8,(IntKind.u8.wrap (ar .u32 b (IntKind.i64.wrap (8*t16)))),c10,c11,(IntKind.u8.wrap (ar .u32 a (IntKind.i64.wrap (8*t16)))),c13,c14,c15,(IntKind.i64.wrap (t16+1)))) else ( bif ((IntKind.i64.wrap (4+t16))==2) then ( again17 (c8,c9,(IntKind.u8.wrap (ar .u32 b (IntKind.i64.wrap (8*t16)))),c11,(IntKind.u8.wrap (ar .u32 a (IntKind.i64.wrap (8*t16)))),c13,c14,c15,(IntKind.i64.wrap (t16+1)))) else ( bif ((IntKind.i64.wrap (4+t16))==3) then ( again17 (c8,c9,c10,(IntKind.u8.wrap (ar .u32 b (IntKind.i64.wrap (8*t16)))),(IntKind.u8.wrap (ar .u32 a (IntKind.i64.wrap (8*t16)))),c13,c14,c15,(IntKind.i64.wrap (t16+1)))) else ( bif ((IntKind.i64.wrap (4+t16))==4) then ( again17 (c8,c9,c10,c11,(IntKind.u8.wrap (ar .u32 b (IntKind.i64.wrap (8*t16)))),c13,c14,c15,(IntKind.i64.wrap (t16+1)))) else ( bif ((IntKind.i64.wrap (4+t16))==5) then ( again17 (c8,c9,c10,c11,(IntKind.u8.wrap (ar .u32 a (IntKind.i64.wrap (8*t16)))),(IntKind.u8.wrap (ar .u32 b (IntKind.i64.wrap (8*t16)))),c14,c15,(IntKind.i64.wrap (t16+1)))) else ( bif ((IntKind.i64.wrap (4+t16))==6) then ( again17 (c8,c9,c10,c11,(IntKind.u8.wrap (ar .u32 a (IntKind.i64.wrap (8*t16)))),c13,(IntKind.u8.wrap (ar .u32 b (IntKind.i64.wrap (8*t16)))),c15,(IntKind.i64.wrap (t16+1)))) else ( bif ((IntKind.i64.wrap (4+t16))==7) then ( again17 (c8,c9,c10,c11,(IntKind.u8.wrap (ar .u32 a (IntKind.i64.wrap (8*t16)))),c13,c14,(IntKind.u8.wrap (ar .u32 b (IntKind.i64.wrap (8*t16)))),(IntKind.i64.wrap (t16+1)))) else ( none))))))))) else ( bif (t16==5) then ( bif ((IntKind.i64.wrap (4+t16))==0) then ( again17 ((IntKind.u8.wrap (ar .u32 b (IntKind.i64.wrap (8*t16)))),c9,c10,c11,c12,(IntKind.u8.wrap (ar .u32 a (IntKind.i64.wrap (8*t16)))),c14,c15,(IntKind.i64.wrap (t16+1)))) else ( bif ((IntKind.i64.wrap (4+t16))==1) then ( again17 (c8,(IntKind.u8.wrap (ar .u32 b (IntKind.i64.wrap (8*t16)))),c10,c11,c12,(IntKind.u8.wrap (ar .u32 a (IntKind.i64.wrap (8*t16)))),c14,c15,(IntKind.i64.wrap (t16+1)))) else ( bif ((IntKind.i64.wrap (4+t16))==2) then ( again17 (c8,c9,(IntKind.u8.wrap (ar .u32 b (IntKind.i64.wrap (8*t16)))),c11,c12,(IntKind.u8.wrap (ar .u32 a (IntKind.i64.wrap (8*t16)))),c14,c15,(IntKind.i64.wrap (t16+1)))) else ( bif ((IntKind.i64.wrap (4+t16))==3) then ( again17 (c8,c9,c10,(IntKind.u8.wrap (ar .u32 b (IntKind.i64.wrap (8*t16)))),c12,(IntKind.u8.wrap (ar .u32 a (IntKind.i64.wrap (8*t16)))),c14,c15,(IntKind.i64.wrap (t16+1)))) else ( bif ((IntKind.i64.wrap (4+t16))==4) then ( again17 (c8,c9,c10,c11,(IntKind.u8.wrap (ar .u32 b (IntKind.i64.wrap (8*t16)))),(IntKind.u8.wrap (ar .u32 a (IntKind.i64.wrap (8*t16)))),c14,c15,(IntKind.i64.wrap (t16+1)))) else ( bif ((IntKind.i64.wrap (4+t16))==5) then ( again17 (c8,c9,c10,c11,c12,(IntKind.u8.wrap (ar .u32 b (IntKind.i64.wrap (8*t16)))),c14,c15,(IntKind.i64.wrap (t16+1)))) else ( bif ((IntKind.i64.wrap (4+t16))==6) then ( again17 (c8,c9,c10,c11,c12,(IntKind.u8.wrap (ar .u32 a (IntKind.i64.wrap (8*t16)))),(IntKind.u8.wrap (ar .u32 b (IntKind.i64.wrap (8*t16)))),c15,(IntKind.i64.wrap (t16+1)))) else ( bif ((IntKind.i64.wrap (4+t16))==7) then ( again17 (c8,c9,c10,c11,c12,(IntKind.u8.wrap (ar .u32 a (IntKind.i64.wrap (8*t16)))),c14,(IntKind.u8.wrap (ar .u32 b (IntKind.i64.wrap (8*t16)))),(IntKind.i64.wrap (t16+1)))) else ( none))))))))) else ( bif (t16==6) then ( bif ((IntKind.i64.wrap (4+t16))==0) then ( again17 ((IntKind.u8.wrap (ar .u32 b (IntKind.i64.wrap (8*t16)))),c9,c10,c11,c12,c13,(IntKind.u8.wrap (ar .u32 a (IntKind.i64.wrap (8*t16)))),c15,(IntKind.i64.wrap (t16+1)))) else ( bif ((IntKind.i64.wrap (4+t16))==1) then ( again17 (c8,(IntKind.u8.wrap (ar .u32 b (IntKind.i64.wrap (8*t16)))),c10,c11,c12,c13,(IntKind.u8.wrap (ar .u32 a (IntKind.i64.wrap (8*t16)))),c15,(IntKind.i64.wrap (t16+1)))) else ( bif ((IntKind.i64.wrap (4+t16))==2) then ( again17 (c8,c9,(IntKind.u8.wrap (ar .u32 b (IntKind.i64.wrap (8*t16)))),c11,c12,c13,(IntKind.u8.wrap (ar .u32 a (IntKind.i64.wrap (8*t16)))),c15,(IntKind.i64.wrap (t16+1)))) else ( bif ((IntKind.i64.wrap (4+t16))==3) then ( again17 (c8,c9,c10,(IntKind.u8.wrap (ar .u32 b (IntKind.i64.wrap (8*t16)))),c12,c13,(IntKind.u8.wrap (ar .u32 a (IntKind.i64.wrap (8*t16)))),c15,(IntKind.i64.wrap (t16+1)))) else ( bif ((IntKind.i64.wrap (4+t16))==4) then ( again17 (c8,c9,c10,c11,(IntKind.u8.wrap (ar .u32 b (IntKind.i64.wrap (8*t16)))),c13,(IntKind.u8.wrap (ar .u32 a (IntKind.i64.wrap (8*t16)))),c15,(IntKind.i64.wrap (t16+1)))) else ( bif ((IntKind.i64.wrap (4+t16))==5) then ( again17 (c8,c9,c10,c11,c12,(IntKind.u8.wrap (ar .u32 b (IntKind.i64.wrap (8*t16)))),(IntKind.u8.wrap (ar .u32 a (IntKind.i64.wrap (8*t16)))),c15,(IntKind.i64.wrap (t16+1)))) else ( bif ((IntKind.i64.wrap (4+t16))==6) then ( again17 (c8,c9,c10,c11,c12,c13,(IntKind.u8.wrap (ar .u32 b (IntKind.i64.wrap (8*t16)))),c15,(IntKind.i64.wrap (t16+1)))) else ( bif ((IntKind.i64.wrap (4+t16))==7) then ( again17 (c8,c9,c10,c11,c12,c13,(IntKind.u8.wrap (ar .u32 a (IntKind.i64.wrap (8*t16)))),(IntKind.u8.wrap (ar .u32 b (IntKind.i64.wrap (8*t16)))),(IntKind.i64.wrap (t16+1)))) else ( none))))))))) else ( bif (t16==7) then ( bif ((IntKind.i64.wrap (4+t16))==0) then ( again17 ((IntKind.u8.wrap (ar .u32 b (IntKind.i64.wrap (8*t16)))),c9,c10,c11,c12,c13,c14,(IntKind.u8.wrap (ar .u32 a (IntKind.i64.wrap (8*t16)))),(IntKind.i64.wrap (t16+1)))) else ( bif ((IntKind.i64.wrap (4+t16))==1) then ( again17 (c8,(IntKind.u8.wrap (ar .u32 b (IntKind.i64.wrap (8*t16)))),c10,c11,c12,c13,c14,(IntKind.u8.wrap (ar .u32 a (IntKind.i64.wrap (8*t16)))),(IntKind.i64.wrap (t16+1)))) else ( bif ((IntKind.i64.wrap (4+t16))==2) then ( again17 (c8,c9,(IntKind.u8.wrap (ar .u32 b (IntKind.i64.wrap (8*t16)))),c11,c12,c13,c14,(IntKind.u8.wrap (ar .u32 a (IntKind.i64.wrap (8*t16)))),(IntKind.i64.wrap (t16+1)))) else ( bif ((IntKind.i64.wrap (4+t16))==3) then ( again17 (c8,c9,c10,(IntKind.u8.wrap (ar .u32 b (IntKind.i64.wrap (8*t16)))),c12,c13,c14,(IntKind.u8.wrap (ar .u32 a (IntKind.i64.wrap (8*t16)))),(IntKind.i64.wrap (t16+1)))) else ( bif ((IntKind.i64.wrap (4+t16))==4) then ( again17 (c8,c9,c10,c11,(IntKind.u8.wrap (ar .u32 b (IntKind.i64.wrap (8*t16)))),c13,c14,(IntKind.u8.wrap (ar .u32 a (IntKind.i64.wrap (8*t16)))),(IntKind.i64.wrap (t16+1)))) else ( bif ((IntKind.i64.wrap (4+t16))==5) then ( again17 (c8,c9,c10,c11,c12,(IntKind.u8.wrap (ar .u32 b (IntKind.i64.wrap (8*t16)))),c14,(IntKind.u8.wrap (ar .u32 a (IntKind.i64.wrap (8*t16)))),(IntKind.i64.wrap (t16+1)))) else ( bif ((IntKind.i64.wrap (4+t16))==6) then ( again17 (c8,c9,c10,c11,c12,c13,(IntKind.u8.wrap (ar .u32 b (IntKind.i64.wrap (8*t16)))),(IntKind.u8.wrap (ar .u32 a (IntKind.i64.wrap (8*t16)))),(IntKind.i64.wrap (t16+1)))) else ( bif ((IntKind.i64.wrap (4+t16))==7) then ( again17 (c8,c9,c10,c11,c12,c13,c14,(IntKind.u8.wrap (ar .u32 b (IntKind.i64.wrap (8*t16)))),(IntKind.i64.wrap (t16+1)))) else ( none))))))))) else ( none))))))))) else ( some (c8,c9,c10,c11,c12,c13,c14,c15))
def qn (a:Int) (b:Int):Option Q17:= aq (Hb a b) az (0,0,0,0,0,0,0,0,0)
def jY (p:Q17):Option Q4:= some ([p.1,p.2.1,p.2.2.1,p.2.2.2.1,p.2.2.2.2.1,p.2.2.2.2.2.1,p.2.2.2.2.2.2.1,p.2.2.2.2.2.2.2]:List Int)
def o9 (p:Q1) (a:Int) (b:Int):Option Q20:= (qn a b).bind fun r8=> (jY r8).bind fun r11=> (bM p r11).bind fun r15=> some (r15.1,r15.2)
def iy (row:Int) (a:Int) (b2:Int) (pairs:(List Q1)):Option (Except Int Int):= (idx pairs row).bind fun e3=> (o9 e3 a b2).bind fun r11=> bif (!r11.2) then ( some (.error row)) else ( some (.ok (IntKind.u32.wrap r11.1)))
def fT (p9:Q24→Option (Except Int Int)) (row:Int) (l:Q4) (pairs:(List Q1)):Option (Except Int Int):= bif ((List.length l:Int)==1) then ( (idx l 0).bind fun e4=> some (.ok e4)) else ( chk (fi 0 (IntKind.i64.wrap (Int.tdiv (IntKind.i64.wrap ((List.length l:Int)+1)) 2)) (List.length l))<| xm (p9 ((IntKind.i64.wrap (row+1)),(ba l 0 (IntKind.i64.wrap (Int.tdiv (IntKind.i64.wrap ((List.length l:Int)+1)) 2))),pairs)) fun r10=> chk (fi (IntKind.i64.wrap (Int.tdiv (IntKind.i64.wrap ((List.length l:Int)+1)) 2)) ((List.length l):Int) (List.length l))<| (lB (IntKind.i64.wrap (Int.tdiv (IntKind.i64.wrap ((List.length l:Int)+1)) 2))).bind fun r22=> xm (p9 ((IntKind.i64.wrap ((IntKind.i64.wrap (row+1))+r22)),(ba l (IntKind.i64.wrap (Int.tdiv (IntKind.i64.wrap ((List.length l:Int)+1)) 2)) ((List.length l):Int)),pairs)) fun r25=> xm (iy row r10 r25 pairs) fun r31=> some (.ok r31))
def ka (row:Int) (l:Q4) (pairs:(List Q1)):Option (Except Int Int):=
 aq (fun k (s:Q24)=>fT k s.1 s.2.1 s.2.2) az (row,l,pairs)
def gU (l:Q4) (pairs:(List Q1)):Option (Except Int Int):= bif ((List.length l:Int)==1) then ( (idx l 0).bind fun e6=> xm (iy 0 e6 0 pairs) fun r8=> some (.ok r8)) else ( xm (ka 0 l pairs) fun r14=> some (.ok r14))
def jS (t:Q16) (s:Q5) (v7:Q4):Option Q20:= (jW s v7).bind fun r13=> Di (gU r13 t.1) (fun _p20=> some (0,false)) fun r18=> some ((IntKind.i64.wrap r18),true)
def oV (p:Q1):Option Int:= (gS p).bind fun r5=> some r5
def jN (t:Q16):Option Int:= bif ((List.length t.1:Int)==0) then ( some 0) else ( (idx t.1 0).bind fun e6=> (oV e6).bind fun r14=> some r14)
def cz (s:(List Q1)):Option (List Q1):= chk (aB (List.length s) 56)<| some s
def mR (p:Q1) (a:Int) (b:Int):Option (Q1×Int×Bool×Int):= (qn a b).bind fun r15=> (jY r15).bind fun r18=> (bd p r18).bind fun r22=> some (r22.1,r22.2.1,r22.2.2.1,r22.2.2.2)
def fN (row:Int) (a:Int) (b2:Int) (pairs:(List Q1)):Option Q27:= (idx pairs row).bind fun e4=> (mR e4 a b2).bind fun r12=> (idx pairs row).bind fun _e22=> some ((IntKind.u32.wrap r12.2.1),(List.set pairs (Int.toNat row) r12.1))
def ez (mU:Q24→Option Q27) (row:Int) (l:Q4) (pairs:(List Q1)):Option Q27:= bif ((List.length l:Int)==1) then ( (idx l 0).bind fun e5=> some (e5,pairs)) else ( chk (fi 0 (IntKind.i64.wrap (Int.tdiv (IntKind.i64.wrap ((List.length l:Int)+1)) 2)) (List.length l))<| (mU ((IntKind.i64.wrap (row+1)),(ba l 0 (IntKind.i64.wrap (Int.tdiv (IntKind.i64.wrap ((List.length l:Int)+1)) 2))),pairs)).bind fun r11=> chk (fi (IntKind.i64.wrap (Int.tdiv (IntKind.i64.wrap ((List.length l:Int)+1)) 2)) ((List.length l):Int) (List.length l))<| (lB (IntKind.i64.wrap (Int.tdiv (IntKind.i64.wrap ((List.length l:Int)+1)) 2))).bind fun r20=> (mU ((IntKind.i64.wrap ((IntKind.i64.wrap (row+1))+r20)),(ba l (IntKind.i64.wrap (Int.tdiv (IntKind.i64.wrap ((List.length l:Int)+1)) 2)) ((List.length l):Int)),r11.2)).bind fun r23=> (fN row r11.1 r23.1 r23.2).bind fun r26=> some (r26.1,r26.2))
def kB (row:Int) (l:Q4) (pairs:(List Q1)):Option Q27:=
 aq (fun k (s:Q24)=>ez k s.1 s.2.1 s.2.2) az (row,l,pairs)
def gM (l:Q4) (pairs:(List Q1)):Option Q27:= bif ((List.length l:Int)==1) then ( (idx l 0).bind fun e7=> (fN 0 e7 0 pairs).bind fun r9=> some (r9.1,r9.2)) else ( (kB 0 l pairs).bind fun r12=> some (r12.1,r12.2))
def nQ (t:Q16) (s:Q5) (v7:Q4):Option (Q16×Bool×Int):= (bQ s v7).bind fun r13=> bif (r13 != 0) then ( some (t,false,r13)) else ( (jS t s v7).bind fun r18=> bif r18.2 then ( some (t,false,0)) else ( (idx t.1 0).bind fun e25=> (jN t).bind fun r33=> bif (decide (e25.1≤r33)) then ( some (t,false,7)) else ( (cz t.1).bind fun r38=> (jW s v7).bind fun r46=> (gM r46 r38).bind fun r51=> chk (gL 0 (List.length t.2:Int) (List.length t.2:Int) (List.length t.2)&&((List.length t.2:Int)==(List.length t.2:Int)))<| chk (aB (List.length (ba t.2 0 (List.length t.2:Int))+List.length ([0]:List Int)) 1)<| some ((r51.2,((ba t.2 0 (List.length t.2:Int))++([0]:List Int))),true,0))))
def eB (_x:Unit) (t:Q3) (v39:Q4):Option Q22:= (nQ t.2.2.2.2.2.1 t.2.1 v39).bind fun r50=> some ((t.1,t.2.1,t.2.2.1,t.2.2.2.1,t.2.2.2.2.1,r50.1,t.2.2.2.2.2.2.1,t.2.2.2.2.2.2.2),r50.2.1,r50.2.2)
def kf (x:Int):Option Bool:= some (x != x)
def fM (x:Int) (y:Int):Option Int:= (kf x).bind fun r3=> (kf y).bind fun r6=> bif r3 then ( bif r6 then ( some 0) else ( some (-1))) else ( bif r6 then ( some 1) else ( bif (decide (x<y)) then ( some (-1)) else ( bif (decide (y<x)) then ( some 1) else ( some 0))))
def ob (e:Q13) (by_:Int):Option Int:= (fM e.1 by_).bind fun r5=> some r5
def bg (x:Q5) (target:Int) (again7:Q13→Option Q20):Int×Int→Option Q20:=fun ⟨i5,j6⟩=> bif (decide (i5<j6)) then ( (idx x (IntKind.i64.wrap (ar .u64 (IntKind.u64.wrap (IntKind.i64.wrap (i5+j6))) 1))).bind fun e9=> (ob e9 target).bind fun r11=> bif (decide (r11<0)) then ( again7 ((IntKind.i64.wrap ((IntKind.i64.wrap (ar .u64 (IntKind.u64.wrap (IntKind.i64.wrap (i5+j6))) 1))+1)),j6)) else ( again7 (i5,(IntKind.i64.wrap (ar .u64 (IntKind.u64.wrap (IntKind.i64.wrap (i5+j6))) 1))))) else ( al (decide (i5<(List.length x:Int))) fun b15=> bY b15 (0,0) (idx x i5) fun e17=> bY b15 default (ob e17 target) fun r19=> al (r19==0) fun b25=> al (b15&&b25) fun b27=> some (i5,b27))
def aM (x:Q5) (target:Int):Option Q20:= aq (bg x target) az (0,(List.length x:Int))
def oa (d:Q11) (at_:Int) (by_:Int):Option Int:= bif (at_==(-1)) then ( some (-1)) else ( (idx d.2.1 at_).bind fun e6=> (aM e6.1 by_).bind fun r12=> bif (!r12.2) then ( some (-1)) else ( (idx d.2.1 at_).bind fun e16=> (idx e16.1 r12.1).bind fun e22=> some e22.2))
def kc (d:Q11) (w5:Q4) (again9:Q13→Option Bool):Int×Int→Option Bool:=fun ⟨at7,t8⟩=> bif (decide (t8<(List.length w5:Int))) then ( (idx w5 t8).bind fun e11=> (oa d at7 e11).bind fun r13=> again9 (r13,(IntKind.i64.wrap (t8+1)))) else ( al ((List.length w5:Int)==d.1) fun b16=> al (decide (0<d.1)) fun b18=> al (b16&&b18) fun b20=> al (at7 != (-1)) fun b22=> al (b20&&b22) fun b24=> some b24)
def gw (d:Q11) (w5:Q4):Option Bool:= aq (kc d w5) az (d.2.2.1,0)
def pN (d:Q11):Option Int:= some d.2.2.2.1
def bW (s:Q6):Option Q6:= chk (aB (List.length s) 32)<| some s
def dy (s1:Q5) (s2:Q5) (again6:Int→Option Bool) (t5:Int):Option Bool:= bif (decide (t5<(List.length s1:Int))) then ( (idx s1 t5).bind fun e10=> (idx s2 t5).bind fun e12=> bif (!(K5 e10.1 e10.2 e12.1 e12.2)) then ( some false) else ( again6 (IntKind.i64.wrap (t5+1)))) else ( some true)
def cO (s1:Q5) (s2:Q5):Option Bool:= bif ((List.length s1:Int) != (List.length s2:Int)) then ( some false) else ( aq (dy s1 s2) az 0)
def dD (next_:Q5) (Node:Q6) (young:Q8) (again6:Int→Option Q20) (t5:Int):Option Q20:= bif (decide (t5<(List.length Node:Int))) then ( (idx Node t5).bind fun e8=> al (decide (0<e8.2)) fun b17=> al (du young t5 false) fun b19=> al (b17||b19) fun b21=> bY b21 default (cO e8.1 next_) fun r23=> al (b21&&r23) fun b29=> bif b29 then ( some (t5,true)) else ( again6 (IntKind.i64.wrap (t5+1)))) else ( some ((-1),false))
def oG (next_:Q5) (_Wide:Int) (Node:Q6) (_Root:Int) (_Many:Int) (_Free:Q4) (young:Q8):Option Q20:= aq (dD next_ Node young) az 0
def eS (h:Q4):Option Int:= some (List.length h:Int)
def cJ (h:Q4) (i:Int) (j:Int):Option Q4:= (idx h j).bind fun e5=> (idx h i).bind fun e7=> (idx h i).bind fun _e9=> (idx (List.set h (Int.toNat i) e5) j).bind fun _e12=> some (List.set (List.set h (Int.toNat i) e5) (Int.toNat j) e7)
def dx (h:Q4) (i:Int) (j:Int):Option Bool:= (idx h i).bind fun e5=> (idx h j).bind fun e7=> some (decide (e5<e7))
def hZ (i0:Int) (l5:Q4) (i6:Int) (again7:Q15→Option (Bool×Q4)) (j16:Int):Option (Bool×Q4):= (dx l5 j16 i6).bind fun r17=> bif (!r17) then ( some ((decide (i0<i6)),l5)) else ( (cJ l5 i6 j16).bind fun r21=> again7 (r21,j16))
def dz (i0:Int) (n:Int) (again7:Q15→Option (Bool×Q4)):Q4×Int→Option (Bool×Q4):=fun ⟨l5,i6⟩=> al (decide (n≤(IntKind.i64.wrap ((IntKind.i64.wrap (2*i6))+1)))) fun b8=> al (decide ((IntKind.i64.wrap ((IntKind.i64.wrap (2*i6))+1))<0)) fun b10=> al (b8||b10) fun b12=> bif b12 then ( some ((decide (i0<i6)),l5)) else ( al (fun (s25:Int)=>hZ i0 l5 i6 again7 s25) fun kk24=> al (decide ((IntKind.i64.wrap ((IntKind.i64.wrap ((IntKind.i64.wrap (2*i6))+1))+1))<n)) fun b26=> bY b26 default (dx l5 (IntKind.i64.wrap ((IntKind.i64.wrap ((IntKind.i64.wrap (2*i6))+1))+1)) (IntKind.i64.wrap ((IntKind.i64.wrap (2*i6))+1))) fun r28=> al (b26&&r28) fun b34=> bif b34 then ( kk24 (IntKind.i64.wrap ((IntKind.i64.wrap ((IntKind.i64.wrap (2*i6))+1))+1))) else ( kk24 (IntKind.i64.wrap ((IntKind.i64.wrap (2*i6))+1))))
def ju (i0:Int) (n:Int) (h:Q4):Option (Bool×Q4):= aq (dz i0 n) az (h,i0)
def my (h:Q4):Option (Int×Q4):= (idx h (IntKind.i64.wrap ((List.length h:Int)-1))).bind fun e1=> chk (fi 0 (IntKind.i64.wrap ((List.length h:Int)-1)) (List.length h))<| some (e1,(ba h 0 (IntKind.i64.wrap ((List.length h:Int)-1))))
def gF (h:Q4):Option (Int×Q4):= (eS h).bind fun r1=> (cJ h 0 (IntKind.i64.wrap (r1-1))).bind fun r4=> (ju 0 (IntKind.i64.wrap (r1-1)) r4).bind fun r7=> (my r7.2).bind fun r10=> some (r10.1,r10.2)
def j9 (_Wide:Int) (Node:Q6) (_Root:Int) (_Many:Int) (Free:Q4) (_young:Q8):Option (Int×Q6×Q4):= bif ((List.length Free:Int)==0) then ( chk (aB (List.length Node+List.length ([([],0)]:List (Q5×Int))) 32)<| some ((IntKind.i64.wrap ((List.length (Node++([([],0)]:List (Q5×Int))):Int)-1)),(Node++([([],0)]:List (Q5×Int))),Free)) else ( (gF Free).bind fun r21=> some (r21.1,Node,r21.2))
def fW (next_:Q5) (r15:(Int×Q6×Q4)) (m29:(List Q20)) (again35:(Q6×Int)→Option Q12):Q6×Int→Option Q12:=fun ⟨l33,t34⟩=> bif (decide (t34<(List.length next_:Int))) then ( (idx next_ t34).bind fun e37=> (idx l33 e37.2).bind fun e44=> (idx l33 e37.2).bind fun e50=> again35 ((List.set l33 (Int.toNat e37.2) (e50.1,(IntKind.i64.wrap (e44.2+1)))),(IntKind.i64.wrap (t34+1)))) else ( some (r15.1,l33,r15.2.2,(some (iL m29 r15.1 true))))
def jg (next_:Q5) (Wide:Int) (Node:Q6) (Root:Int) (Many:Int) (Free:Q4) (young:Q8):Option Q12:= (oG next_ Wide Node Root Many Free young).bind fun r11=> bif r11.2 then ( some (r11.1,Node,Free,young)) else ( (j9 Wide Node Root Many Free young).bind fun r15=> (idx r15.2.1 r15.1).bind fun _e22=> (young).bind fun m29=> aq (fW next_ r15 m29) az ((List.set r15.2.1 (Int.toNat r15.1) (next_,0)),0))
def wW (d:Q11) (at_:Int) (by_:Int):Option Int:= bif (at_==(-1)) then ( some (-1)) else ( (idx d.2.1 at_).bind fun e6=> (aM e6.1 by_).bind fun r12=> bif (!r12.2) then ( some (-1)) else ( (idx d.2.1 at_).bind fun e16=> (idx e16.1 r12.1).bind fun e22=> some e22.2))
def mI (e:Q13) (by_:Int):Option Int:= (fM e.1 by_).bind fun r5=> some r5
def fe (x:Q5) (target:Int) (again7:Q13→Option Q20):Int×Int→Option Q20:=fun ⟨i5,j6⟩=> bif (decide (i5<j6)) then ( (idx x (IntKind.i64.wrap (ar .u64 (IntKind.u64.wrap (IntKind.i64.wrap (i5+j6))) 1))).bind fun e9=> (mI e9 target).bind fun r11=> bif (decide (r11<0)) then ( again7 ((IntKind.i64.wrap ((IntKind.i64.wrap (ar .u64 (IntKind.u64.wrap (IntKind.i64.wrap (i5+j6))) 1))+1)),j6)) else ( again7 (i5,(IntKind.i64.wrap (ar .u64 (IntKind.u64.wrap (IntKind.i64.wrap (i5+j6))) 1))))) else ( al (decide (i5<(List.length x:Int))) fun b15=> bY b15 (0,0) (idx x i5) fun e17=> bY b15 default (mI e17 target) fun r19=> al (r19==0) fun b25=> al (b15&&b25) fun b27=> some (i5,b27))
def bh (x:Q5) (target:Int):Option Q20:= aq (fe x target) az (0,(List.length x:Int))
def cM (s:Q5):Option Q5:= chk (aB (List.length s) 16)<| some s
def mn (Wide:Int) (Root:Int) (Many:Int) (r36:Q12) (next50:Q5):Option Q12:= (jg next50 Wide r36.2.1 Root Many r36.2.2.1 r36.2.2.2).bind fun r53=> some (r53.1,r53.2.1,r53.2.2.1,r53.2.2.2)
def mQ (nk:Q19→Option Q12) (at_:Int) (word:Q4) (Wide:Int) (Node:Q6) (Root:Int) (Many:Int) (Free:Q4) (young:Q8) (next20:Q5):Option Q12:= (idx word 0).bind fun e25=> (idx word 0).bind fun e27=> chk (fi 1 ((List.length word):Int) (List.length word))<| (wW (Wide,Node,Root,Many,Free) at_ e27).bind fun r33=> (nk (r33,(ba word 1 ((List.length word):Int)),Wide,(Wide,Node,Root,Many,Free).2.1,Root,Many,(Wide,Node,Root,Many,Free).2.2.2.2,young)).bind fun r36=> (bh next20 e25).bind fun r46=> al (fun (s61:Q5)=>mn Wide Root Many r36 s61) fun kk60=> bif r46.2 then ( (idx next20 r46.1).bind fun _e63=> kk60 (List.set next20 (Int.toNat r46.1) (e25,r36.1))) else ( (Be 16 next20 r46.1 ([(e25,r36.1)]:List Q13)).bind fun r68=> kk60 r68)
def fC (nk:Q19→Option Q12) (at_:Int) (word:Q4) (Wide:Int) (Node:Q6) (Root:Int) (Many:Int) (Free:Q4) (young:Q8):Option Q12:= bif ((List.length word:Int)==0) then ( (jg [] Wide Node Root Many Free young).bind fun r12=> some (r12.1,r12.2.1,r12.2.2.1,r12.2.2.2)) else ( al (fun (s72:Q5)=>mQ nk at_ word Wide Node Root Many Free young s72) fun kk71=> bif (at_ != (-1)) then ( (idx Node at_).bind fun e74=> (cM e74.1).bind fun r80=> kk71 r80) else ( kk71 []))
def mg (at_:Int) (word:Q4) (Wide:Int) (Node:Q6) (Root:Int) (Many:Int) (Free:Q4) (young:Q8):Option Q12:=
 aq (fun k (s:Q19)=>fC k s.1 s.2.1 s.2.2.1 s.2.2.2.1 s.2.2.2.2.1 s.2.2.2.2.2.1 s.2.2.2.2.2.2.1 s.2.2.2.2.2.2.2) az (at_,word,Wide,Node,Root,Many,Free,young)
def kU (x:Int) (h:Q4):Option Q4:= chk (aB (List.length h+List.length ([x]:List Int)) 8)<| some (h++([x]:List Int))
def gm (again6:Q15→Option Q4):Q4×Int→Option Q4:=fun ⟨l4,j5⟩=> al ((IntKind.i64.wrap (Int.tdiv (IntKind.i64.wrap (j5-1)) 2))==j5) fun b7=> bY (!b7) default (dx l4 j5 (IntKind.i64.wrap (Int.tdiv (IntKind.i64.wrap (j5-1)) 2))) fun r9=> al (!r9) fun b15=> al (b7||b15) fun b17=> bif b17 then ( some l4) else ( (cJ l4 (IntKind.i64.wrap (Int.tdiv (IntKind.i64.wrap (j5-1)) 2)) j5).bind fun r20=> again6 (r20,(IntKind.i64.wrap (Int.tdiv (IntKind.i64.wrap (j5-1)) 2))))
def iX (j:Int) (h:Q4):Option Q4:= aq gm az (h,j)
def fY (x:Int) (h:Q4):Option Q4:= (kU x h).bind fun r5=> (eS r5).bind fun r10=> (iX (IntKind.i64.wrap (r10-1)) r5).bind fun r13=> some r13
def ik (kY:Q21→Option (Q6×Q4)) (i:Int) (Wide:Int) (Root:Int) (Many:Int) (young:Q8) (e27:(Q5×Int)) (again39:(Q6×Q4×Int)→Option (Q6×Q4)):Q6×Q4×Int→Option (Q6×Q4):=fun ⟨l34,c35,t38⟩=> bif (decide (t38<(List.length e27.1:Int))) then ( (idx e27.1 t38).bind fun e41=> (kY (e41.2,Wide,l34,Root,Many,c35,young)).bind fun r46=> again39 (r46.1,r46.2,(IntKind.i64.wrap (t38+1)))) else ( (idx l34 i).bind fun _e51=> (fY i c35).bind fun r61=> some ((List.set l34 (Int.toNat i) ([],0)),r61))
def iU (kY:Q21→Option (Q6×Q4)) (i:Int) (Wide:Int) (Node:Q6) (Root:Int) (Many:Int) (Free:Q4) (young:Q8):Option (Q6×Q4):= (idx Node i).bind fun e7=> (idx Node i).bind fun e13=> (idx (List.set Node (Int.toNat i) (e13.1,(IntKind.i64.wrap (e7.2-1)))) i).bind fun e20=> bif (decide (0<e20.2)) then ( some ((List.set Node (Int.toNat i) (e13.1,(IntKind.i64.wrap (e7.2-1)))),Free)) else ( (idx (List.set Node (Int.toNat i) (e13.1,(IntKind.i64.wrap (e7.2-1)))) i).bind fun e27=> aq (ik kY i Wide Root Many young e27) az ((List.set Node (Int.toNat i) (e13.1,(IntKind.i64.wrap (e7.2-1)))),Free,0))
def kh (i:Int) (Wide:Int) (Node:Q6) (Root:Int) (Many:Int) (Free:Q4) (young:Q8):Option (Q6×Q4):=
 aq (fun k (s:Q21)=>iU k s.1 s.2.1 s.2.2.1 s.2.2.2.1 s.2.2.2.2.1 s.2.2.2.2.2.1 s.2.2.2.2.2.2) az (i,Wide,Node,Root,Many,Free,young)
def oI (d:Q11) (r44:Q12) (l68:Q6) (c69:Q4):Option (Q11×Bool×Int):= some ((d.1,l68,r44.1,(IntKind.i64.wrap (d.2.2.2.1+1)),c69),true,0)
def cQ (d:Q11) (word:Q4):Option (Q11×Bool×Int):= al ((List.length word:Int) != d.1) fun b13=> al (d.1==0) fun b15=> al (b13||b15) fun b17=> bif b17 then ( some (d,false,1)) else ( (gw d word).bind fun r21=> bif r21 then ( some (d,false,0)) else ( (bW d.2.1).bind fun r32=> (cZ d.2.2.2.2).bind fun r37=> (mg d.2.2.1 word d.1 r32 d.2.2.1 d.2.2.2.1 r37 (some []:Q8)).bind fun r44=> (idx r44.2.1 r44.1).bind fun e54=> (idx r44.2.1 r44.1).bind fun e60=> al (fun (s75:Q6×Q4)=>oI d r44 s75.1 s75.2) fun kk74=> bif (d.2.2.1 != (-1)) then ( (kh d.2.2.1 d.1 (List.set r44.2.1 (Int.toNat r44.1) (e60.1,(IntKind.i64.wrap (e54.2+1)))) r44.1 d.2.2.2.1 r44.2.2.1 r44.2.2.2).bind fun r77=> kk74 (r77.1,r77.2)) else ( kk74 ((List.set r44.2.1 (Int.toNat r44.1) (e60.1,(IntKind.i64.wrap (e54.2+1)))),r44.2.2.1))))
def eQ (_x:Unit) (t:Q3) (v39:Q4):Option Q22:= (bR t v39).bind fun r50=> (gw t.2.2.2.2.2.2.1.1 r50).bind fun r54=> bif r54 then ( some (t,false,0)) else ( (pN t.2.2.2.2.2.2.1.1).bind fun r61=> bif (decide (t.2.2.1≤r61)) then ( some (t,false,7)) else ( (cQ t.2.2.2.2.2.2.1.1 r50).bind fun r66=> some ((t.1,t.2.1,t.2.2.1,t.2.2.2.1,t.2.2.2.2.1,t.2.2.2.2.2.1,(r66.1,t.2.2.2.2.2.2.1.2.1,t.2.2.2.2.2.2.1.2.2),t.2.2.2.2.2.2.2),true,0)))
def CG (b:Q4) (seed:Int) (k:Int) (n:Int) (again10:Q15→Option Q4):Q4×Int→Option Q4:=fun ⟨out6,t9⟩=> bif (decide (t9<(max k 0))) then ( (nC b (IntKind.u64.wrap (seed+(IntKind.u64.wrap t9)))).bind fun r12=> (lU r12 n).bind fun r15=> chk (aB (List.length out6+List.length ([r15]:List Int)) 8)<| again10 ((out6++([r15]:List Int)),(IntKind.i64.wrap (t9+1)))) else ( some out6)
def km (b:Q4) (seed:Int) (k:Int) (n:Int):Option Q4:= aq (CG b seed k n) az ([],0)
def Gl (b:Q7) (_c:Bool) (r5:Q4) (again14:Q18→Option Bool):Bool×Int→Option Bool:=fun ⟨c12,t13⟩=> bif (decide (t13<(List.length r5:Int))) then ( (idx r5 t13).bind fun e16=> (idx b.2.2.2.1 (IntKind.i64.wrap (Int.tdiv e16 8))).bind fun e20=> chk (decide (0≤(Int.tmod e16 8)))<| al ((iD .u8 e20 (kG .u8 1 (Int.tmod e16 8))) != 0) fun b23=> al (c12&&b23) fun b25=> again14 (b25,(IntKind.i64.wrap (t13+1)))) else ( some c12)
def BQ (b:Q7) (key:Q4) (c:Bool):Option Bool:= (km key b.2.2.1 b.2.1 b.1).bind fun r5=> aq (Gl b c r5) az (c,0)
def DF (b:Q7) (key:Q4):Option Bool:= (BQ b key true).bind fun r8=> some r8
def nV (b:Q7) (key:Q4):Option Bool:= (DF b key).bind fun r5=> some r5
def bm (s:Q4):Option Q4:= chk (aB (List.length s) 1)<| some s
def z7 (r5:Q4) (again14:Q15→Option Q4):Q4×Int→Option Q4:=fun ⟨l12,t13⟩=> bif (decide (t13<(List.length r5:Int))) then ( (idx r5 t13).bind fun e16=> (idx l12 (IntKind.i64.wrap (Int.tdiv e16 8))).bind fun e20=> chk (decide (0≤(Int.tmod e16 8)))<| again14 ((List.set l12 (Int.toNat (IntKind.i64.wrap (Int.tdiv e16 8))) (orI .u8 e20 (kG .u8 1 (Int.tmod e16 8)))),(IntKind.i64.wrap (t13+1)))) else ( some l12)
def qv (b:Q7) (key:Q4):Option Q4:= (km key b.2.2.1 b.2.1 b.1).bind fun r5=> aq (z7 r5) az (b.2.2.2.1,0)
def Fg (b:Q7) (key:Q4):Option Q7:= (bm b.2.2.2.1).bind fun r13=> (qv (b.1,b.2.1,b.2.2.1,(r13,b.2.2.2.2.1,b.2.2.2.2.2)) key).bind fun r19=> some (b.1,b.2.1,b.2.2.1,(r19,b.2.2.2.2.1,b.2.2.2.2.2))
def yk (b:Q7) (key:Q4):Option (Q7×Bool):= (nV b key).bind fun r14=> bif r14 then ( some (b,false)) else ( (Fg b key).bind fun r19=> some (r19,true))
def gY (_x:Unit) (t:Q3) (v39:Q4):Option Q22:= (bR t v39).bind fun r52=> (yk t.2.2.2.2.2.2.2 r52).bind fun r56=> some ((t.1,t.2.1,t.2.2.1,t.2.2.2.1,t.2.2.2.2.1,t.2.2.2.2.2.1,t.2.2.2.2.2.2.1,r56.1),r56.2,0)
def br (t:Q3) (v39:Q4):Option Q22:= (bQ t.2.1 v39).bind fun r48=> bif (r48 != 0) then ( some (t,false,r48)) else ( (aT t).bind fun r55=> bif (Nat.beq r55 133) then ( (eT () t v39).bind fun r58=> some (r58.1,r58.2.1,r58.2.2)) else ( bif (Nat.beq r55 134) then ( (eC () t v39).bind fun r81=> some (r81.1,r81.2.1,r81.2.2)) else ( bif (Nat.beq r55 135) then ( (eB () t v39).bind fun r104=> some (r104.1,r104.2.1,r104.2.2)) else ( bif (Nat.beq r55 136) then ( (eQ () t v39).bind fun r127=> some (r127.1,r127.2.1,r127.2.2)) else ( bif (Nat.beq r55 137) then ( (gY () t v39).bind fun r150=> some (r150.1,r150.2.1,r150.2.2)) else ( none))))))
def qh (flag:Int):Option Int:= bif (flag==0) then ( some 1) else ( bif (flag==1) then ( some 2) else ( some 0))
def ru (i:Int) (b:Int) (_Cap:Int) (_Keys:(List Q4)) (_Slot:Q4) (Flag:Q4) (_Cap11:Int) (_Keys12:(List Q4)) (_Slot15:Q4) (_Flag18:Q4):Option Q4:= (bm Flag).bind fun r4=> (idx r4 i).bind fun e10=> (idx r4 i).bind fun _e12=> some (List.set r4 (Int.toNat i) (orI .u8 e10 b))
def Bg (s:(Q1×Q4)) (key:Q4) (flag:Int) (Cap:Int) (Keys:(List Q4)) (Slot:Q4) (Flag:Q4) (Cap18:Int) (Keys19:(List Q4)) (Slot22:Q4) (Flag25:Q4):Option (Int×Int×(List Q4)×Q4×Q4):= (qh flag).bind fun r13=> bif (r13==0) then ( some (1,Cap18,Keys19,Slot22,Flag25)) else ( (bM s.1 key).bind fun r17=> bif (!r17.2) then ( some (10,Cap18,Keys19,Slot22,Flag25)) else ( (ru r17.1 r13 Cap Keys Slot Flag Cap18 Keys19 Slot22 Flag25).bind fun r21=> some (0,Cap18,Keys19,Slot22,r21)))
def uH (s:(Q1×Q4)) (key:Q4) (flag:Int):Option ((Q1×Q4)×Int):= (Bg s key flag s.1.1 s.1.2.1 s.1.2.2 s.2 s.1.1 s.1.2.1 s.1.2.2 s.2).bind fun r17=> some (((r17.2.1,r17.2.2.1,r17.2.2.2.1),r17.2.2.2.2),r17.1)
def gO (_x:Unit) (t:Q3) (v39:Q4) (flag:Int):Option Q25:= (bR t v39).bind fun r51=> (uH t.2.2.2.1 r51 flag).bind fun r55=> some ((t.1,t.2.1,t.2.2.1,r55.1,t.2.2.2.2.1,t.2.2.2.2.2.1,t.2.2.2.2.2.2.1,t.2.2.2.2.2.2.2),r55.2)
def pB (c:Q10) (s:Q5) (v11:Q4) (flag:Int):Option Q13:= (bQ s v11).bind fun r6=> bif (r6 != 0) then ( some (0,r6)) else ( al (decide (flag<0)) fun b10=> al (decide (1<flag)) fun b12=> al (b10||b12) fun b14=> bif b14 then ( some (0,1)) else ( (gT c s v11).bind fun r17=> bif (decide (r17<0)) then ( some (0,10)) else ( some (r17,0))))
def uF (c:Q10) (s:Q5) (v11:Q4) (flag:Int):Option (Q10×Int):= (pB c s v11 flag).bind fun r16=> bif (r16.2 != 0) then ( some (c,r16.2)) else ( (bm c.2.2).bind fun r21=> (idx r21 r16.1).bind fun e29=> chk (decide (0≤flag))<| (idx r21 r16.1).bind fun _e32=> some ((c.1,c.2.1,(List.set r21 (Int.toNat r16.1) (orI .u8 e29 (kG .u8 1 flag)))),0))
def fS (_x:Unit) (t:Q3) (v39:Q4) (flag:Int):Option Q25:= (uF t.2.2.2.2.1 t.2.1 v39 flag).bind fun r49=> some ((t.1,t.2.1,t.2.2.1,t.2.2.2.1,r49.1,t.2.2.2.2.2.1,t.2.2.2.2.2.2.1,t.2.2.2.2.2.2.2),r49.2)
def px (t:Q16) (s:Q5) (v7:Q4) (flag:Int):Option Q13:= (bQ s v7).bind fun r6=> bif (r6 != 0) then ( some (0,r6)) else ( al (flag != 0) fun b10=> al (flag != 1) fun b12=> al (b10&&b12) fun b14=> bif b14 then ( some (0,1)) else ( (jS t s v7).bind fun r17=> bif (!r17.2) then ( some (0,10)) else ( some (r17.1,0))))
def tu (t:Q16) (s:Q5) (v7:Q4) (flag:Int):Option (Q16×Int):= (px t s v7 flag).bind fun r12=> bif (r12.2 != 0) then ( some (t,r12.2)) else ( (bm t.2).bind fun r17=> (idx r17 r12.1).bind fun e25=> chk (decide (0≤flag))<| (idx r17 r12.1).bind fun _e28=> some ((t.1,(List.set r17 (Int.toNat r12.1) (orI .u8 e25 (kG .u8 1 flag)))),0))
def fF (_x:Unit) (t:Q3) (v39:Q4) (flag:Int):Option Q25:= (tu t.2.2.2.2.2.1 t.2.1 v39 flag).bind fun r49=> some ((t.1,t.2.1,t.2.2.1,t.2.2.2.1,t.2.2.2.2.1,r49.1,t.2.2.2.2.2.2.1,t.2.2.2.2.2.2.2),r49.2)
def jj (t:Q3) (v39:Q4) (flag:Int):Option Int:= al (decide (flag<0)) fun b5=> al (decide (1<flag)) fun b7=> al (b5||b7) fun b9=> bif b9 then ( some 1) else ( (bR t v39).bind fun r14=> (gw t.2.2.2.2.2.2.1.1 r14).bind fun r18=> bif (!r18) then ( some 10) else ( some 0))
def gI (_x:Unit) (t:Q3) (v39:Q4) (flag:Int):Option Q25:= (jj t v39 flag).bind fun r49=> bif (r49 != 0) then ( some (t,r49)) else ( bif ((IntKind.i64.wrap (1+flag))==0) then ( (bR t v39).bind fun r57=> (cQ t.2.2.2.2.2.2.1.1 r57).bind fun r61=> bif ((IntKind.i64.wrap (1+flag))==0) then ( some ((t.1,t.2.1,t.2.2.1,t.2.2.2.1,t.2.2.2.2.1,t.2.2.2.2.2.1,(r61.1,t.2.2.2.2.2.2.1.2.1,t.2.2.2.2.2.2.1.2.2),t.2.2.2.2.2.2.2),0)) else ( bif ((IntKind.i64.wrap (1+flag))==1) then ( some ((t.1,t.2.1,t.2.2.1,t.2.2.2.1,t.2.2.2.2.1,t.2.2.2.2.2.1,(t.2.2.2.2.2.2.1.1,r61.1,t.2.2.2.2.2.2.1.2.2),t.2.2.2.2.2.2.2),0)) else ( bif ((IntKind.i64.wrap (1+flag))==2) then ( some ((t.1,t.2.1,t.2.2.1,t.2.2.2.1,t.2.2.2.2.1,t.2.2.2.2.2.1,(t.2.2.2.2.2.2.1.1,t.2.2.2.2.2.2.1.2.1,r61.1),t.2.2.2.2.2.2.2),0)) else ( none)))) else ( bif ((IntKind.i64.wrap (1+flag))==1) then ( (bR t v39).bind fun r76=> (cQ t.2.2.2.2.2.2.1.2.1 r76).bind fun r80=> bif ((IntKind.i64.wrap (1+flag))==0) then ( some ((t.1,t.2.1,t.2.2.1,t.2.2.2.1,t.2.2.2.2.1,t.2.2.2.2.2.1,(r80.1,t.2.2.2.2.2.2.1.2.1,t.2.2.2.2.2.2.1.2.2),t.2.2.2.2.2.2.2),0)) else ( bif ((IntKind.i64.wrap (1+flag))==1) then ( some ((t.1,t.2.1,t.2.2.1,t.2.2.2.1,t.2.2.2.2.1,t.2.2.2.2.2.1,(t.2.2.2.2.2.2.1.1,r80.1,t.2.2.2.2.2.2.1.2.2),t.2.2.2.2.2.2.2),0)) else ( bif ((IntKind.i64.wrap (1+flag))==2) then ( some ((t.1,t.2.1,t.2.2.1,t.2.2.2.1,t.2.2.2.2.1,t.2.2.2.2.2.1,(t.2.2.2.2.2.2.1.1,t.2.2.2.2.2.2.1.2.1,r80.1),t.2.2.2.2.2.2.2),0)) else ( none)))) else ( bif ((IntKind.i64.wrap (1+flag))==2) then ( (bR t v39).bind fun r95=> (cQ t.2.2.2.2.2.2.1.2.2 r95).bind fun r99=> bif ((IntKind.i64.wrap (1+flag))==0) then ( some ((t.1,t.2.1,t.2.2.1,t.2.2.2.1,t.2.2.2.2.1,t.2.2.2.2.2.1,(r99.1,t.2.2.2.2.2.2.1.2.1,t.2.2.2.2.2.2.1.2.2),t.2.2.2.2.2.2.2),0)) else ( bif ((IntKind.i64.wrap (1+flag))==1) then ( some ((t.1,t.2.1,t.2.2.1,t.2.2.2.1,t.2.2.2.2.1,t.2.2.2.2.2.1,(t.2.2.2.2.2.2.1.1,r99.1,t.2.2.2.2.2.2.1.2.2),t.2.2.2.2.2.2.2),0)) else ( bif ((IntKind.i64.wrap (1+flag))==2) then ( some ((t.1,t.2.1,t.2.2.1,t.2.2.2.1,t.2.2.2.2.1,t.2.2.2.2.2.1,(t.2.2.2.2.2.2.1.1,t.2.2.2.2.2.2.1.2.1,r99.1),t.2.2.2.2.2.2.2),0)) else ( none)))) else ( none))))
def yW (b:Q7) (key:Q4) (flag:Int):Option Int:= al (decide (flag<0)) fun b5=> al (decide (1<flag)) fun b7=> al (b5||b7) fun b9=> bif b9 then ( some 1) else ( (nV b key).bind fun r12=> bif (!r12) then ( some 10) else ( some 0))
def An (r5:Q4) (again14:Q15→Option Q4):Q4×Int→Option Q4:=fun ⟨l12,t13⟩=> bif (decide (t13<(List.length r5:Int))) then ( (idx r5 t13).bind fun e16=> (idx l12 (IntKind.i64.wrap (Int.tdiv e16 8))).bind fun e20=> chk (decide (0≤(Int.tmod e16 8)))<| again14 ((List.set l12 (Int.toNat (IntKind.i64.wrap (Int.tdiv e16 8))) (orI .u8 e20 (kG .u8 1 (Int.tmod e16 8)))),(IntKind.i64.wrap (t13+1)))) else ( some l12)
def vV (b:Q7) (key:Q4):Option Q4:= (km key b.2.2.1 b.2.1 b.1).bind fun r5=> aq (An r5) az (b.2.2.2.2.1,0)
def Ah (r5:Q4) (again14:Q15→Option Q4):Q4×Int→Option Q4:=fun ⟨l12,t13⟩=> bif (decide (t13<(List.length r5:Int))) then ( (idx r5 t13).bind fun e16=> (idx l12 (IntKind.i64.wrap (Int.tdiv e16 8))).bind fun e20=> chk (decide (0≤(Int.tmod e16 8)))<| again14 ((List.set l12 (Int.toNat (IntKind.i64.wrap (Int.tdiv e16 8))) (orI .u8 e20 (kG .u8 1 (Int.tmod e16 8)))),(IntKind.i64.wrap (t13+1)))) else ( some l12)
def wN (b:Q7) (key:Q4):Option Q4:= (km key b.2.2.1 b.2.1 b.1).bind fun r5=> aq (Ah r5) az (b.2.2.2.2.2,0)
def yh (b:Q7) (key:Q4) (row:Int):Option Q7:= bif (row==0) then ( (bm b.2.2.2.1).bind fun r13=> (qv (b.1,b.2.1,b.2.2.1,(r13,b.2.2.2.2.1,b.2.2.2.2.2)) key).bind fun r19=> some (b.1,b.2.1,b.2.2.1,(r19,b.2.2.2.2.1,b.2.2.2.2.2))) else (bif (row==1) then ( (bm b.2.2.2.2.1).bind fun r27=> (vV (b.1,b.2.1,b.2.2.1,(b.2.2.2.1,r27,b.2.2.2.2.2)) key).bind fun r33=> some (b.1,b.2.1,b.2.2.1,(b.2.2.2.1,r33,b.2.2.2.2.2))) else (bif (row==2) then ( (bm b.2.2.2.2.2).bind fun r41=> (wN (b.1,b.2.1,b.2.2.1,(b.2.2.2.1,b.2.2.2.2.1,r41)) key).bind fun r47=> some (b.1,b.2.1,b.2.2.1,(b.2.2.2.1,b.2.2.2.2.1,r47))) else ( none)))
def Fk (b:Q7) (key:Q4) (flag:Int):Option (Q7×Int):= (yW b key flag).bind fun r14=> bif (r14 != 0) then ( some (b,r14)) else ( (yh b key (IntKind.i64.wrap (1+flag))).bind fun r19=> some (r19,0))
def jx (_x:Unit) (t:Q3) (v39:Q4) (flag:Int):Option Q25:= (bR t v39).bind fun r51=> (Fk t.2.2.2.2.2.2.2 r51 flag).bind fun r55=> some ((t.1,t.2.1,t.2.2.1,t.2.2.2.1,t.2.2.2.2.1,t.2.2.2.2.2.1,t.2.2.2.2.2.2.1,r55.1),r55.2)
def dv (t:Q3) (v39:Q4) (flag:Int):Option Q25:= (bQ t.2.1 v39).bind fun r47=> bif (r47 != 0) then ( some (t,r47)) else ( (aT t).bind fun r54=> bif (Nat.beq r54 133) then ( (gO () t v39 flag).bind fun r57=> some (r57.1,r57.2)) else ( bif (Nat.beq r54 134) then ( (fS () t v39 flag).bind fun r80=> some (r80.1,r80.2)) else ( bif (Nat.beq r54 135) then ( (fF () t v39 flag).bind fun r103=> some (r103.1,r103.2)) else ( bif (Nat.beq r54 136) then ( (gI () t v39 flag).bind fun r126=> some (r126.1,r126.2)) else ( bif (Nat.beq r54 137) then ( (jx () t v39 flag).bind fun r149=> some (r149.1,r149.2)) else ( none))))))
def rK (i:Int) (b:Int) (_Cap:Int) (_Keys:(List Q4)) (_Slot:Q4) (Flag:Q4) (_x:Bool):Option Bool:= (idx Flag i).bind fun e3=> some ((iD .u8 e3 b) != 0)
def tQ (s:(Q1×Q4)) (key:Q4) (flag:Int) (Cap:Int) (Keys:(List Q4)) (Slot:Q4) (Flag:Q4) (c:Bool):Option Q20:= (qh flag).bind fun r6=> bif (r6==0) then ( some (1,c)) else ( (bM s.1 key).bind fun r10=> bif (!r10.2) then ( some (10,c)) else ( (rK r10.1 r6 Cap Keys Slot Flag c).bind fun r14=> some (0,r14)))
def tM (s:(Q1×Q4)) (key:Q4) (flag:Int):Option Q18:= (tQ s key flag s.1.1 s.1.2.1 s.1.2.2 s.2 false).bind fun r9=> some (r9.2,r9.1)
def gK (_x:Unit) (t:Q3) (v39:Q4) (flag:Int):Option Q18:= (bR t v39).bind fun r10=> (tM t.2.2.2.1 r10 flag).bind fun r14=> some (r14.1,r14.2)
def tU (c:Q10) (s:Q5) (v11:Q4) (flag:Int):Option Q18:= (pB c s v11 flag).bind fun r6=> bif (r6.2 != 0) then ( some (false,r6.2)) else ( (idx c.2.2 r6.1).bind fun e10=> chk (decide (0≤flag))<| some (((iD .u8 (ar .u8 e10 flag) 1)==1),0))
def fE (_x:Unit) (t:Q3) (v39:Q4) (flag:Int):Option Q18:= (tU t.2.2.2.2.1 t.2.1 v39 flag).bind fun r8=> some (r8.1,r8.2)
def tN (t:Q16) (s:Q5) (v7:Q4) (flag:Int):Option Q18:= (px t s v7 flag).bind fun r6=> bif (r6.2 != 0) then ( some (false,r6.2)) else ( (idx t.2 r6.1).bind fun e12=> chk (decide (0≤flag))<| some (((iD .u8 e12 (kG .u8 1 flag)) != 0),0))
def fP (_x:Unit) (t:Q3) (v39:Q4) (flag:Int):Option Q18:= (tN t.2.2.2.2.2.1 t.2.1 v39 flag).bind fun r8=> some (r8.1,r8.2)
def gB (_x:Unit) (t:Q3) (v39:Q4) (flag:Int):Option Q18:= (jj t v39 flag).bind fun r8=> bif (r8 != 0) then ( some (false,r8)) else ( bif ((IntKind.i64.wrap (1+flag))==0) then ( (bR t v39).bind fun r15=> (gw t.2.2.2.2.2.2.1.1 r15).bind fun r20=> some (r20,0)) else ( bif ((IntKind.i64.wrap (1+flag))==1) then ( (bR t v39).bind fun r24=> (gw t.2.2.2.2.2.2.1.2.1 r24).bind fun r28=> some (r28,0)) else ( bif ((IntKind.i64.wrap (1+flag))==2) then ( (bR t v39).bind fun r32=> (gw t.2.2.2.2.2.2.1.2.2 r32).bind fun r36=> some (r36,0)) else ( none))))
def Ak (b:Q7) (row:Int) (_c:Bool) (r5:Q4) (again14:Q18→Option Bool):Bool×Int→Option Bool:=fun ⟨c12,t13⟩=> bif (decide (t13<(List.length r5:Int))) then ( (idx r5 t13).bind fun e16=> bif (row==0) then ( (idx b.2.2.2.1 (IntKind.i64.wrap (Int.tdiv e16 8))).bind fun e21=> chk (decide (0≤(Int.tmod e16 8)))<| al ((iD .u8 e21 (kG .u8 1 (Int.tmod e16 8))) != 0) fun b24=> al (c12&&b24) fun b26=> again14 (b26,(IntKind.i64.wrap (t13+1)))) else ( bif (row==1) then ( (idx b.2.2.2.2.1 (IntKind.i64.wrap (Int.tdiv e16 8))).bind fun e30=> chk (decide (0≤(Int.tmod e16 8)))<| al ((iD .u8 e30 (kG .u8 1 (Int.tmod e16 8))) != 0) fun b33=> al (c12&&b33) fun b35=> again14 (b35,(IntKind.i64.wrap (t13+1)))) else ( bif (row==2) then ( (idx b.2.2.2.2.2 (IntKind.i64.wrap (Int.tdiv e16 8))).bind fun e39=> chk (decide (0≤(Int.tmod e16 8)))<| al ((iD .u8 e39 (kG .u8 1 (Int.tmod e16 8))) != 0) fun b42=> al (c12&&b42) fun b44=> again14 (b44,(IntKind.i64.wrap (t13+1)))) else ( none)))) else ( some c12)
def wR (b:Q7) (key:Q4) (row:Int) (c:Bool):Option Bool:= (km key b.2.2.1 b.2.1 b.1).bind fun r5=> aq (Ak b row c r5) az (c,0)
def yi (b:Q7) (key:Q4) (row:Int):Option Bool:= (wR b key row true).bind fun r8=> some r8
def Dr (b:Q7) (key:Q4) (flag:Int):Option Q18:= (yW b key flag).bind fun r6=> bif (r6 != 0) then ( some (false,r6)) else ( (yi b key (IntKind.i64.wrap (1+flag))).bind fun r10=> some (r10,0))
def jA (_x:Unit) (t:Q3) (v39:Q4) (flag:Int):Option Q18:= (bR t v39).bind fun r10=> (Dr t.2.2.2.2.2.2.2 r10 flag).bind fun r14=> some (r14.1,r14.2)
def dq (t:Q3) (v39:Q4) (flag:Int):Option Q18:= (bQ t.2.1 v39).bind fun r6=> bif (r6 != 0) then ( some (false,r6)) else ( (aT t).bind fun r12=> bif (Nat.beq r12 133) then ( (gK () t v39 flag).bind fun r15=> some (r15.1,r15.2)) else ( bif (Nat.beq r12 134) then ( (fE () t v39 flag).bind fun r18=> some (r18.1,r18.2)) else ( bif (Nat.beq r12 135) then ( (fP () t v39 flag).bind fun r21=> some (r21.1,r21.2)) else ( bif (Nat.beq r12 136) then ( (gB () t v39 flag).bind fun r24=> some (r24.1,r24.2)) else ( bif (Nat.beq r12 137) then ( (jA () t v39 flag).bind fun r27=> some (r27.1,r27.2)) else ( none))))))
def nM (s:(Q1×Q4)) (key:Q4):Option Bool:= (bM s.1 key).bind fun r5=> some r5.2
def eP (_x:Unit) (t:Q3) (v39:Q4):Option Bool:= (bR t v39).bind fun r9=> (nM t.2.2.2.1 r9).bind fun r14=> some r14
def nN (c:Q10) (s:Q5) (v11:Q4):Option Q18:= (bQ s v11).bind fun r6=> bif (r6 != 0) then ( some (false,r6)) else ( (gT c s v11).bind fun r10=> some ((decide (0≤r10)),0))
def eD (_x:Unit) (t:Q3) (v39:Q4):Option Bool:= (nN t.2.2.2.2.1 t.2.1 v39).bind fun r7=> some r7.1
def nS (t:Q16) (s:Q5) (v7:Q4):Option Q18:= (bQ s v7).bind fun r6=> bif (r6 != 0) then ( some (false,r6)) else ( (jS t s v7).bind fun r10=> some (r10.2,0))
def ey (_x:Unit) (t:Q3) (v39:Q4):Option Bool:= (nS t.2.2.2.2.2.1 t.2.1 v39).bind fun r7=> some r7.1
def eR (_x:Unit) (t:Q3) (v39:Q4):Option Bool:= (bR t v39).bind fun r9=> (gw t.2.2.2.2.2.2.1.1 r9).bind fun r14=> some r14
def gV (_x:Unit) (t:Q3) (v39:Q4):Option Bool:= (bR t v39).bind fun r9=> (nV t.2.2.2.2.2.2.2 r9).bind fun r14=> some r14
def bV (t:Q3) (v39:Q4):Option Q18:= (bQ t.2.1 v39).bind fun r6=> bif (r6 != 0) then ( some (false,r6)) else ( (aT t).bind fun r12=> bif (Nat.beq r12 133) then ( (eP () t v39).bind fun r15=> some (r15,0)) else ( bif (Nat.beq r12 134) then ( (eD () t v39).bind fun r18=> some (r18,0)) else ( bif (Nat.beq r12 135) then ( (ey () t v39).bind fun r21=> some (r21,0)) else ( bif (Nat.beq r12 136) then ( (eR () t v39).bind fun r24=> some (r24,0)) else ( bif (Nat.beq r12 137) then ( (gV () t v39).bind fun r27=> some (r27,0)) else ( none))))))
def wb (s:(Q1×Q4)):Option Int:= (gS s.1).bind fun r5=> some r5
def fL (_x:Unit) (t:Q3):Option Int:= (wb t.2.2.2.1).bind fun r7=> some r7
def fm (_x:Unit) (t:Q3):Option Int:= (lI t.2.2.2.2.1).bind fun r7=> some r7
def fp (_x:Unit) (t:Q3):Option Int:= (jN t.2.2.2.2.2.1).bind fun r7=> some r7
def fQ (_x:Unit) (t:Q3):Option Int:= (pN t.2.2.2.2.2.2.1.1).bind fun r7=> some r7
def Ff (t7:Int) (again8:Q13→Option Int) (again15:Q13→Option Int):Int×Int→Option Int:=fun ⟨n13,c14⟩=> bif (decide (0<c14)) then ( again15 ((IntKind.i64.wrap (n13+1)),(iD .u8 c14 (IntKind.u8.wrap (c14-1))))) else ( again8 (n13,(IntKind.i64.wrap (t7+1))))
def FH (b:Q7) (again8:Q13→Option Int):Int×Int→Option Int:=fun ⟨n6,t7⟩=> bif (decide (t7<(List.length b.2.2.2.1:Int))) then ( (idx b.2.2.2.1 t7).bind fun e10=> aq (Ff t7 again8) az (n6,e10)) else ( some n6)
def BU (b:Q7):Option Int:= aq (FH b) az (0,0)
def jc (_x:Unit) (t:Q3):Option Int:= (BU t.2.2.2.2.2.2.2).bind fun r7=> some r7
def cX (t:Q3):Option Int:= (aT t).bind fun r7=> bif (Nat.beq r7 133) then ( (fL () t).bind fun r10=> some r10) else ( bif (Nat.beq r7 134) then ( (fm () t).bind fun r13=> some r13) else ( bif (Nat.beq r7 135) then ( (fp () t).bind fun r16=> some r16) else ( bif (Nat.beq r7 136) then ( (fQ () t).bind fun r19=> some r19) else ( bif (Nat.beq r7 137) then ( (jc () t).bind fun r22=> some r22) else ( none)))))
def ri (again7:Int→Option Bool) (k6:Int):Option Bool:= bif (decide (k6<5)) then ( (dG ([(0,9)]:List Q13) (k6,1,0,1,4000,2)).bind fun r9=> (br r9.1 ([3]:List Int)).bind fun r36=> (br r36.1 ([3]:List Int)).bind fun r63=> (br r36.1 ([4]:List Int)).bind fun r90=> (br r36.1 ([10]:List Int)).bind fun r117=> (dv r36.1 ([3]:List Int) 0).bind fun r144=> (dq r144.1 ([3]:List Int) 0).bind fun r171=> (dq r144.1 ([3]:List Int) 1).bind fun r176=> (bV r144.1 ([3]:List Int)).bind fun r181=> al (r9.2 != 0) fun b184=> al (!r36.2.1) fun b186=> al (b184||b186) fun b188=> al (r36.2.2 != 0) fun b190=> al (b188||b190) fun b192=> al (b192||r63.2.1) fun b194=> al (r63.2.2 != 0) fun b196=> al (b194||b196) fun b198=> al (r90.2.2==7) fun b200=> al (decide (k6<4)) fun b202=> al (b200 != b202) fun b204=> al (b198||b204) fun b206=> al (r117.2.2 != 5) fun b208=> al (b206||b208) fun b210=> al (r144.2 != 0) fun b212=> al (b210||b212) fun b214=> al (!r171.1) fun b216=> al (b214||b216) fun b218=> al (r171.2 != 0) fun b220=> al (b218||b220) fun b222=> al (b222||r176.1) fun b224=> al (r176.2 != 0) fun b226=> al (b224||b226) fun b228=> al (!r181.1) fun b230=> al (b228||b230) fun b232=> al (r181.2 != 0) fun b234=> al (b232||b234) fun b236=> bY (!b236) default (cX r144.1) fun r238=> al (decide (r238<1)) fun b244=> al (b236||b244) fun b246=> bif b246 then ( some false) else ( again7 (IntKind.i64.wrap (k6+1)))) else ( (dG ([(0,9)]:List Q13) (5,0,0,0,0,0)).bind fun r249=> some (r249.2==1))
def jq:Option Bool:= aq ri az 0
def dA (s:Q5) (again12:Int→Option Bool) (i11:Int):Option Bool:= bif (decide (i11<(List.length s:Int))) then ( (idx s i11).bind fun e16=> (idx s i11).bind fun e18=> al (decide (e18.2<e16.1)) fun b20=> bY (!b20) (0,0) (idx s i11) fun e22=> al (decide (e22.1<(-1073741824))) fun b24=> al (b20||b24) fun b26=> bY (!b26) (0,0) (idx s i11) fun e28=> al (decide (1073741824<e28.2)) fun b30=> al (b26||b30) fun b32=> bY (!b32) (0,0) (idx s i11) fun e34=> bY (!b32) (0,0) (idx s i11) fun e36=> al (decide (65535<(IntKind.i64.wrap (e34.2-e36.1)))) fun b38=> al (b32||b38) fun b40=> bif b40 then ( some false) else ( again12 (IntKind.i64.wrap (i11+1)))) else ( some true)
def gb (s:Q5):Option Bool:= al (decide ((List.length s:Int)<1)) fun b3=> al (decide (17<(List.length s:Int))) fun b5=> al (b3||b5) fun b7=> bif b7 then ( some false) else ( aq (dA s) az 0)
def dT (l:Q23) (again6:Int→Option Bool) (i5:Int):Option Bool:= bif (decide (i5<(List.length l:Int))) then ( (idx l i5).bind fun e8=> bif (decide (40<(List.length e8.2.1:Int))) then ( some false) else ( again6 (IntKind.i64.wrap (i5+1)))) else ( some true)
def fj (l:Q23) (most:Int):Option Bool:= bif (decide (most<(List.length l:Int))) then ( some false) else ( aq (dT l) az 0)
def bD (_s:Q5) (_r3:Bool) (i63:Int) (again64:Q28→Option Bool) (e66:(Int×Q4×Int)) (again327:Q28→Option Bool):(List Q3)×Int→Option Bool:=fun ⟨l325,k326⟩=> bif (decide (k326<4)) then ( (idx l325 k326).bind fun e331=> (br e331 e66.2.1).bind fun r373=> bif ((Int.tmod e66.1 2)==0) then ( (dv r373.1 e66.2.1 e66.2.2).bind fun r399=> (idx l325 k326).bind fun _e425=> again327 ((List.set l325 (Int.toNat k326) r399.1),(IntKind.i64.wrap (k326+1)))) else ( (idx l325 k326).bind fun _e468=> again327 ((List.set l325 (Int.toNat k326) r373.1),(IntKind.i64.wrap (k326+1))))) else ( again64 (l325,(IntKind.i64.wrap (i63+1))))
def dC (s:Q5) (_l:Q23) (r3:Bool) (l62:(List Q3)) (i63:Int) (again64:Q28→Option Bool) (e66:(Int×Q4×Int)) (again77:Int→Option Bool) (k76:Int):Option Bool:= bif (decide (k76<4)) then ( (idx l62 k76).bind fun e81=> (br e81 e66.2.1).bind fun r123=> (dv r123.1 e66.2.1 e66.2.2).bind fun r148=> (dq r148.1 e66.2.1 0).bind fun r173=> (bV r148.1 e66.2.1).bind fun r176=> (idx l62 0).bind fun e181=> (br e181 e66.2.1).bind fun r223=> (dv r223.1 e66.2.1 e66.2.2).bind fun r248=> (dq r248.1 e66.2.1 0).bind fun r273=> (bV r248.1 e66.2.1).bind fun r276=> al (r123.2.1 != r223.2.1) fun b281=> al (r123.2.2 != r223.2.2) fun b283=> al (b281||b283) fun b285=> al (r148.2 != r248.2) fun b287=> al (b285||b287) fun b289=> al (r173.1 != r273.1) fun b291=> al (b289||b291) fun b293=> al (r173.2 != r273.2) fun b295=> al (b293||b295) fun b297=> al (r176.1 != r276.1) fun b299=> al (b297||b299) fun b301=> al (r176.2 != r276.2) fun b303=> al (b301||b303) fun b305=> bY (!b305) default (cX r148.1) fun r307=> bY (!b305) default (cX r248.1) fun r313=> al (r307 != r313) fun b319=> al (b305||b319) fun b321=> bif b321 then ( some false) else ( again77 (IntKind.i64.wrap (k76+1)))) else ( aq (bD s r3 i63 again64 e66) az (l62,0))
def bp (s:Q5) (l:Q23) (r3:Bool) (again64:Q28→Option Bool):(List Q3)×Int→Option Bool:=fun ⟨l62,i63⟩=> bif (decide (i63<(List.length l:Int))) then ( (idx l i63).bind fun e66=> aq (dC s l r3 l62 i63 again64 e66) az 0) else ( some r3)
def bT (s:Q5) (most:Int) (l:Q23) (r3:Bool) (again27:Q28→Option Bool):(List Q3)×Int→Option Bool:=fun ⟨all23,k26⟩=> bif (decide (k26<4)) then ( (dG s (k26,(Int.tmod (IntKind.i64.wrap most) 31),0,0,0,0)).bind fun r29=> bif (r29.2 != 0) then ( some false) else ( chk (aB (List.length all23+List.length ([r29.1]:List Q3)) 584)<| again27 ((all23++([r29.1]:List Q3)),(IntKind.i64.wrap (k26+1))))) else ( aq (bp s l r3) az (all23,0))
def ew (s:Q5) (most:Int) (l:Q23):Option Bool:= (jq).bind fun r3=> (gb s).bind fun r6=> al (!r6) fun b9=> bY (!b9) default (fj l 40) fun r11=> al (!r11) fun b17=> al (b9||b17) fun b19=> bif b19 then ( some r3) else ( aq (bT s most l r3) az ([],0))
def dR (a:Q4) (b:Q4) (again6:Int→Option Bool) (i5:Int):Option Bool:= bif (decide (i5<(List.length a:Int))) then ( (idx a i5).bind fun e10=> (idx b i5).bind fun e12=> bif (e10 != e12) then ( some false) else ( again6 (IntKind.i64.wrap (i5+1)))) else ( some true)
def kD (a:Q4) (b:Q4):Option Bool:= bif ((List.length a:Int) != (List.length b:Int)) then ( some false) else ( aq (dR a b) az 0)
def vd (s:Q5) (v3:Q4) (again6:Int→Option Int) (i5:Int):Option Int:= bif (decide (i5<(List.length v3:Int))) then ( (idx v3 i5).bind fun e10=> (idx s i5).bind fun e12=> al (decide (e10<e12.1)) fun b14=> bY (!b14) 0 (idx v3 i5) fun e16=> bY (!b14) (0,0) (idx s i5) fun e18=> al (decide (e18.2<e16)) fun b20=> al (b14||b20) fun b22=> bif b22 then ( some 5) else ( again6 (IntKind.i64.wrap (i5+1)))) else ( some 0)
def yw (s:Q5) (v3:Q4):Option Int:= bif ((List.length v3:Int) != (List.length s:Int)) then ( some 1) else ( aq (vd s v3) az 0)
def oK (i102:Int) (again103:Q9→Option Bool) (r156:Q22) (in227:(List Q4)) (again236:Int→Option Bool) (k235:Int):Option Bool:= bif (decide (k235<(List.length in227:Int))) then ( (idx in227 k235).bind fun e240=> (bV r156.1 e240).bind fun r246=> al (!r246.1) fun b249=> al (r246.2 != 0) fun b251=> al (b249||b251) fun b253=> bif b253 then ( some false) else ( again236 (IntKind.i64.wrap (k235+1)))) else ( again103 (r156.1.1,r156.1.2.1,r156.1.2.2.1,r156.1.2.2.2.1.1.1,r156.1.2.2.2.1.1.2.1,r156.1.2.2.2.1.1.2.2,r156.1.2.2.2.1.2,r156.1.2.2.2.2.1.1,r156.1.2.2.2.2.1.2.1.1,r156.1.2.2.2.2.1.2.1.2.1,r156.1.2.2.2.2.1.2.1.2.2,r156.1.2.2.2.2.1.2.2,r156.1.2.2.2.2.2.1.1,r156.1.2.2.2.2.2.1.2,r156.1.2.2.2.2.2.2.1.1.1,r156.1.2.2.2.2.2.2.1.1.2.1,r156.1.2.2.2.2.2.2.1.1.2.2.1,r156.1.2.2.2.2.2.2.1.1.2.2.2.1,r156.1.2.2.2.2.2.2.1.1.2.2.2.2,r156.1.2.2.2.2.2.2.1.2.1.1,r156.1.2.2.2.2.2.2.1.2.1.2.1,r156.1.2.2.2.2.2.2.1.2.1.2.2.1,r156.1.2.2.2.2.2.2.1.2.1.2.2.2.1,r156.1.2.2.2.2.2.2.1.2.1.2.2.2.2,r156.1.2.2.2.2.2.2.1.2.2.1,r156.1.2.2.2.2.2.2.1.2.2.2.1,r156.1.2.2.2.2.2.2.1.2.2.2.2.1,r156.1.2.2.2.2.2.2.1.2.2.2.2.2.1,r156.1.2.2.2.2.2.2.1.2.2.2.2.2.2,r156.1.2.2.2.2.2.2.2.1,r156.1.2.2.2.2.2.2.2.2.1,r156.1.2.2.2.2.2.2.2.2.2.1,r156.1.2.2.2.2.2.2.2.2.2.2.1,r156.1.2.2.2.2.2.2.2.2.2.2.2.1,r156.1.2.2.2.2.2.2.2.2.2.2.2.2,in227,(IntKind.i64.wrap (i102+1))))
def oF (i102:Int) (again103:Q9→Option Bool) (r156:Q22) (in227:(List Q4)):Option Bool:= (cX r156.1).bind fun r230=> bif (r230 != (List.length in227:Int)) then ( some false) else ( aq (oK i102 again103 r156 in227) az 0)
def eZ (with_:(Q5×Int×Int×(List Q4))) (c45:Int) (c46:Q5) (c48:Int) (c49:Int) (c50:(List Q4)) (c52:Q4) (c54:Q4) (c56:(List Q1)) (c58:Int) (c59:(List Q4)) (c61:Q4) (c63:Q4) (c65:(List Q1)) (c67:Q4) (c69:Int) (c70:Q6) (c72:Int) (c73:Int) (c74:Q4) (c76:Int) (c77:Q6) (c79:Int) (c80:Int) (c81:Q4) (c83:Int) (c84:Q6) (c86:Int) (c87:Int) (c88:Q4) (c90:Int) (c91:Int) (c92:Int) (c93:Q4) (c95:Q4) (c97:Q4) (in99:(List Q4)) (i102:Int) (again103:Q9→Option Bool) (again115:Q18→Option Bool):Bool×Int→Option Bool:=fun ⟨has113,k114⟩=> bif (decide (k114<(List.length in99:Int))) then ( bY (!has113) [] (idx in99 k114) fun e119=> bY (!has113) [] (idx with_.2.2.2 i102) fun e125=> bY (!has113) default (kD e119 e125) fun r131=> al (has113||r131) fun b137=> again115 (b137,(IntKind.i64.wrap (k114+1)))) else ( (idx with_.2.2.2 i102).bind fun e139=> (yw with_.1 e139).bind fun r145=> (idx with_.2.2.2 i102).bind fun e150=> (br (c45,c46,c48,((c49,c50,c52),c54),(c56,(c58,c59,c61),c63),(c65,c67),((c69,c70,c72,c73,c74),(c76,c77,c79,c80,c81),(c83,c84,c86,c87,c88)),(c90,c91,c92,(c93,c95,c97))) e150).bind fun r156=> al (r145==0) fun b181=> al (!has113) fun b183=> al (b181&&b183) fun b185=> al (decide ((Int.tmod (IntKind.i64.wrap with_.2.2.1) 21)≤(List.length in99:Int))) fun b187=> al (b185&&b187) fun b189=> al (r145 != 0) fun b191=> al (r156.2.2 != r145) fun b193=> al (b193||r156.2.1) fun b195=> al (b191&&b195) fun b197=> al (r145==0) fun b199=> al (r156.2.2==7) fun b201=> al (b201 != b189) fun b203=> al (r156.2.2==0) fun b205=> al (b205==b189) fun b207=> al (b203||b207) fun b209=> al (!has113) fun b211=> al (!b189) fun b213=> al (b211&&b213) fun b215=> al (r156.2.1 != b215) fun b217=> al (b209||b217) fun b219=> al (b199&&b219) fun b221=> al (b197||b221) fun b223=> bif b223 then ( some false) else ( al (fun (s258:(List Q4))=>oF i102 again103 r156 s258) fun kk257=> bif r156.2.1 then ( (idx with_.2.2.2 i102).bind fun e260=> chk (aB (List.length in99+List.length ([e260]:List Q4)) 24)<| kk257 (in99++([e260]:List Q4))) else ( kk257 in99)))
end
end Go.Proofs.YtgcgmclghbebjaaGreat
namespace Go.Proofs.YtgcgmclghbebjaaGreat
open Go.Lib
abbrev J5 {R:Type} (X:Cx) (H:List Row) (fn:Func) (K:AV→StB→Option R) (st:StB):Option R:=match l8 (tG X ⟨[],H,fn.ntmps⟩ st) fn.results.toList with
 | some rs=>K (rk rs) st
 | none=>none
noncomputable def y6 {R:Type} (X:Cx) (fn:Func) (args:List AV) (H:List Row) (st:StB) (K:AV→StB→Option R):Option R:=match fn.body with
 | some body=>ifS (Nat.ble args.length fn.ntmps) (den X [] [] body ⟨[],H,fn.ntmps⟩ (fun e st'=>match e with
  | .ret=>J5 X H fn K st'
  | .nrm=>J5 X H fn K st'
  | _=>none) ⟨st.c,ix 0 args,st.G,.o⟩) none
 | none=>none
theorem zU {X:Cx} {f:FuncId} {fn:Func} (hen:cR X.P f) (hfn:X.P.funcs[f]? =some fn) (hg:X.gls=[]):(⟨f,fun args H st K=>y6 X fn args H st K⟩:Inl).Ok X.P:=by
 refine ⟨hen,fun {R} r args H st K ρ Φ w hs h=> ?_⟩
 have h':y6 X fn args H st K=some r:=h
 unfold y6 at h'
 split at h'
 ·rename_i body hb
  obtain ⟨h1,h2⟩:=an h'
  refine iE hfn hb rfl (by rw [AV.aF];exact h1) ?_
  have hE:ai ρ [] (ix 0 args) []=iota 0 (AV.ah ρ args):=by
   show aj.env ρ [] (ix 0 args)++[]=_
   rw [qc,List.append_nil]
  rw [← hE]
  have hΓ: ∀ it∈X.Γ,it∈Φ:=fun it hit=>by
   unfold Cx.Γ at hit
   rw [hg] at hit;cases hit
  refine dj (X:=X) (tb:=[]) (tp:=[]) (D:=[]) (fr:=⟨[],H,fn.ntmps⟩) (st:=⟨st.c,ix 0 args,st.G,.o⟩) hΓ (fun _ h=>nomatch h) (fun _ h=>nomatch h) body hs h2 (fun x st' ρ' w' a1 a2 a3 a4=> ?_)
  have fin:J5 X H fn K st'=some r→At (BP X.P fn (fun v w'=> ∃ (ρ':Nms) (st':StB) (av:AV),K av st'=some r∧ay st.c ρ ρ'∧st.c≤st'.c∧av.val ρ'=v∧Sat (items ρ' [] st'.G++(items ρ' [] H++Φ)) w') (fun _ _=>False)) .ret fn.ntmps [] (ai ρ' [] st'.E []) w':=fun h=>by
   unfold J5 at h
   split at h
   ·rename_i rs hrs
    exact LV (fr:=⟨[],H,fn.ntmps⟩) a4 hrs ⟨ρ',st',rk rs,h,a1,a2,rfl,a4⟩
   ·cases h
  cases x with
  | nrm=>exact fin a3
  | ret=>exact fin a3
  | ext i=>cases a3
  | gto l=>cases a3
  | pan v=>cases a3
  | panE v=>cases a3
 ·cases h'
end Go.Proofs.YtgcgmclghbebjaaGreat
namespace Go.Proofs.YtgcgmclghbebjaaGreat
open Go.Proofs
namespace I188
theorem tiI:TI Tryz.prog 290 2 16 (.agg #[(.int .u8 0),(.int .i64 0)]):=by unfold TI;kernel_rfl
set_option maxRecDepth 100000 in
theorem np {w w':World} {p q:Option Addr} {n c m mc:Nat} {v':Value} (hn:n≤c) (hm:0<m) (hr:(Builtin.append_ #[177,177] 177 #[.slice p n c,.slice q m mc]).run Tryz.prog w= .ok v' w'):
  eI Tryz.prog 188 [.slice p n c,.int .i64 (n:Int),.slice q m mc] w (fun r w1=>r=v'∧w1=w'):=by
 have z1:((m:Int)==0)=false:=by simp;omega
 have z2:((n:Int)==(n:Int))=true:=by simp
 obtain ⟨vc,hcut⟩: ∃ vc,Em (.slice p n c) (n:Int) ((n:Nat):Int) 2 vc:=⟨_,_,_,_,rfl,by omega,Int.le_refl _,Int.le_refl _,hn,rfl⟩
 refine iE Tryz.func188 rfl Tryz.ntmps188 rfl ?_
 refine aV ?_
 refine aU ?_
 refine aw (cC Opd.c) rfl rfl rfl rfl<| ?_
 refine bB ?_
 refine aN ?_
 refine aV ?_
 refine aU ?_
 refine aw (au (Opd.t rfl)) rfl rfl rfl rfl<|aw (au (Opd.t rfl)) rfl rfl rfl rfl<|aw (qU (lo:=some (.tmp 11)) (hi:=none) Tryz.underlying177 tiI (Opd.t rfl) (fun _=>⟨_,_,rfl⟩) ⟨_,(Opd.t rfl)⟩ rfl (fun _=>hcut)) rfl rfl rfl rfl<| ?_
 refine bB ?_
 refine aN ?_
 refine aV ?_
 refine aU ?_
 refine aw (au (Opd.t rfl)) rfl rfl rfl rfl<|aw (iR Tryz.underlying177 (Opd.t rfl) (fun _=>⟨_,_,rfl⟩)) rfl rfl rfl rfl<|aw (cC (Opd.t rfl)) rfl rfl rfl rfl<| ?_
 refine bB ?_
 refine aN ?_
 refine aV ?_
 refine aV ?_
 refine aU ?_
 refine aw (au (Opd.t rfl)) rfl rfl rfl rfl<|aw (Run.eqB (ny (Opd.t rfl) Opd.c) z1) rfl rfl rfl rfl<| ?_
 refine bB ?_
 refine aN ?_
 refine gz (Opd.t rfl) (fun h=>by cases h) (fun _=> ?_)
 refine lC ?_
 refine aN ?_
 refine aV ?_
 refine aU ?_
 refine aw (au (Opd.t rfl)) rfl rfl rfl rfl<|aw (iR Tryz.underlying177 (Opd.t rfl) (fun _=>⟨_,_,rfl⟩)) rfl rfl rfl rfl<|aw (cC (Opd.t rfl)) rfl rfl rfl rfl<| ?_
 refine bB ?_
 refine aN ?_
 refine aV ?_
 refine aV ?_
 refine aU ?_
 refine aw (au (Opd.t rfl)) rfl rfl rfl rfl<|aw (au (Opd.t rfl)) rfl rfl rfl rfl<|aw (Run.eqB (ny (Opd.t rfl) (Opd.t rfl)) z2) rfl rfl rfl rfl<| ?_
 refine bB ?_
 refine aN ?_
 refine gz (Opd.t rfl) (fun _=> ?_) (fun h=>by cases h)
 refine aV ?_
 refine aU ?_
 refine aw (au (Opd.t rfl)) rfl rfl rfl rfl<|aw (au (Opd.t rfl)) rfl rfl rfl rfl<| ?_
 refine sq (ym (Opd.t rfl) (Opd.t rfl) hr) rfl rfl rfl rfl ?_
 refine aw (cC (Opd.t rfl)) rfl rfl rfl rfl<| ?_
 refine bB ?_
 refine aN ?_
 refine sK ?_
 refine rD<| ?_
 refine Iz rfl (ir.t rfl) ?_
 exact ⟨rfl,rfl⟩
set_option maxRecDepth 100000 in
theorem rM {w:World} {b vb n c i m mc:Nat} {cur curv:Array Value} {ev:TypeId} (hin:i<n) (hm:0<m) (hroom:n+m≤c) (hc:c≤9223372036854775807) (hne:vb≠b)
  (hb:w.heap[b]? =some (.cells cur 290 (0,0))) (hsz:cur.size=c*2) (hv:w.heap[vb]? =some (.cells curv ev (0,0))) (hvs:m*2≤curv.size) (h1: ∀ v∈cur.toList.take (n*2),v.oneCell'=true) (h1v: ∀ v∈curv.toList.take (m*2),v.oneCell'=true):
  eI Tryz.prog 188 [.slice (some ⟨b,0,none⟩) n c,.int .i64 (i:Int),.slice (some ⟨vb,0,none⟩) m mc] w (fun r w1=>r= .slice (some ⟨b,0,none⟩) (n+m) c∧Chg [b] w w1∧ ∃ cur':Array Value,w1.heap[b]? =some (.cells cur' 290 (0,0))∧cur'.size=c*2∧cur'.toList.take ((n+m)*2)=(cur.toList.take (n*2)).take (i*2)++curv.toList.take (m*2)++(cur.toList.take (n*2)).drop (i*2)):=by
 have z1:((m:Int)==0)=false:=by simp;omega
 have z2:((i:Int)==(n:Int))=false:=by simp;omega
 have a1:IntKind.i64.wrap ((n:Int)+(m:Int))=((n+m:Nat):Int):=by rw [w64 (by omega)];omega
 have a2:IntKind.i64.wrap ((i:Int)+(m:Int))=((i+m:Nat):Int):=by rw [w64 (by omega)];omega
 have a3:IntKind.i64.wrap (((n+m:Nat):Int)-(i:Int))=((n+m-i:Nat):Int):=by rw [w64 (by omega)];omega
 have hl:cur.toList.length=c*2:=by rw [Array.length_toList,hsz]
 have hvl:(curv.toList.take (m*2)).length=m*2:=by rw [List.length_take,Array.length_toList];omega
 have z3:decide ((c:Int)<((n+m:Nat):Int))=false:=by simp;omega
 have hC:Chg [b] w w:=(Ext.refl w).chg _
 have hov: ∀ lb cb,(callFunc 193 [.slice (some ⟨vb,0,none⟩) m mc,.slice (some ⟨b,0+(i+m)*2,none⟩) lb cb].toArray).run Tryz.prog w= .ok (.value (.bool false)) w:=fun lb cb=>by
  rw [run_callFunc_extern Tryz.func193 (by kernel_rfl) (by kernel_rfl) (by kernel_rfl) (e:=Extern.SlicesOverlaps.overlaps #[177,177] #[4]) (by kernel_rfl)]
  have:=Lib.run_overlaps_apart (P:=Tryz.prog) w 177 4 290 Tryz.underlying177 2 (fun w=>by obtain ⟨i',hi',hs',_,_⟩:=tiI.out;simp [sizeOf,typeInfo,hi',hs']) ⟨vb,0,none⟩ ⟨b,0+(i+m)*2,none⟩ m mc lb cb hne ev 290 curv.size cur.size (by unfold World.shape?;rw [hv]) (by unfold World.shape?;rw [hb]) (by omega) (by unfold World.frozen?;rw [hv];rfl) (by unfold World.frozen?;rw [hv];simp)
  show ((Extern.SlicesOverlaps.overlaps #[177,177] #[4] #[.slice (some ⟨vb,0,none⟩) m mc,.slice (some ⟨b,0+(i+m)*2,none⟩) lb cb]).run Tryz.prog w).andThen _=_
  rw [this];rfl
 obtain ⟨hR1s,hR2s,hR2t⟩:=Kp (l:=cur.toList) (vs:=curv.toList.take (m*2)) (a:=i*2) (b:=m*2) (n:=n*2) (c:=c*2) (by omega) hvl (by omega) hl
 have hcl:((cur.toList.drop (i*2)).take (n*2-i*2)).length=n*2-i*2:=by rw [List.length_take,List.length_drop];omega
 obtain ⟨R1,hR1⟩: ∃ R1:Array Value,R1=(cur.toList.take (i*2+m*2)++(cur.toList.drop (i*2)).take (n*2-i*2)++cur.toList.drop (i*2+m*2+((cur.toList.drop (i*2)).take (n*2-i*2)).length)).toArray:=⟨_,rfl⟩
 have hR1l:R1.toList=cur.toList.take (i*2+m*2)++(cur.toList.drop (i*2)).take (n*2-i*2)++cur.toList.drop (i*2+m*2+((cur.toList.drop (i*2)).take (n*2-i*2)).length):=by rw [hR1]
 rw [← hR1l] at hR1s hR2s hR2t
 obtain ⟨R2,hR2⟩: ∃ R2:Array Value,R2=(R1.toList.take (i*2)++curv.toList.take (m*2)++R1.toList.drop (i*2+(curv.toList.take (m*2)).length)).toArray:=⟨_,rfl⟩
 have hR2l:R2.toList=R1.toList.take (i*2)++curv.toList.take (m*2)++R1.toList.drop (i*2+(curv.toList.take (m*2)).length):=by rw [hR2]
 rw [← hR2l] at hR2s hR2t
 rw [Array.length_toList] at hR1s hR2s
 rw [show n*2+m*2=(n+m)*2 by omega] at hR2t
 have run1: ∀ W:World,W.heap[b]? =some (.cells cur 290 (0,0))→ ∀ ty dc sc,(Builtin.copy_ #[177,177] ty #[.slice (some ⟨b,0+(i+m)*2,none⟩) (n+m-(i+m)) dc,.slice (some ⟨b,0+i*2,none⟩) (n+m-i) sc]).run Tryz.prog W= .ok (goInt (Nat.min (n+m-i) (n+m-(i+m)))) (W.setRow b R1):=fun W hb ty dc sc=>by
  have hmin:Nat.min (n+m-i) (n+m-(i+m))=n-i:=by simp only [Nat.min_def];split <;> omega
  rw [hR1,show i*2+m*2=0+(i+m)*2 by omega]
  exact kO Tryz.underlying177 tiI (by rw [hcl,hmin];omega) (cell_of_heap hb _ _ (by rw [hcl,Nat.zero_add])) hb (by rw [hcl];omega) (fun v hv=>h1 v (by
   rw [← List.drop_take] at hv
   exact List.mem_of_mem_drop hv))
 have run2: ∀ W:World,W.heap[b]? =some (.cells R1 290 (0,0))→W.heap[vb]? =some (.cells curv ev (0,0))→ ∀ ty dc,(Builtin.copy_ #[177,177] ty #[.slice (some ⟨b,0+i*2,none⟩) (n+m-i) dc,.slice (some ⟨vb,0,none⟩) m mc]).run Tryz.prog W= .ok (goInt (Nat.min m (n+m-i))) (W.setRow b R2):=fun W hb hv ty dc=>by
  have hmin:Nat.min m (n+m-i)=m:=by simp only [Nat.min_def];split <;> omega
  rw [hR2,Nat.zero_add]
  exact kO Tryz.underlying177 tiI (by rw [hvl,hmin]) (cell_of_heap hv _ _ (by rw [hvl,List.drop_zero])) hb (by rw [hvl];omega) h1v
 clear hR1 hR2 hR1l hR2l
 refine iE Tryz.func188 rfl Tryz.ntmps188 rfl ?_
 refine aV ?_
 refine aU ?_
 refine aw (cC Opd.c) rfl rfl rfl rfl<| ?_
 refine bB ?_
 refine aN ?_
 refine aV ?_
 refine aU ?_
 refine aw (au (Opd.t rfl)) rfl rfl rfl rfl<|aw (au (Opd.t rfl)) rfl rfl rfl rfl<|aw (iW Tryz.underlying177 tiI (Opd.t rfl) (Opd.t rfl) (by omega) (by omega) (by omega)) rfl rfl rfl rfl<| ?_
 refine bB ?_
 refine aN ?_
 refine aV ?_
 refine aU ?_
 refine aw (au (Opd.t rfl)) rfl rfl rfl rfl<|aw (iR Tryz.underlying177 (Opd.t rfl) (fun _=>⟨_,_,rfl⟩)) rfl rfl rfl rfl<|aw (cC (Opd.t rfl)) rfl rfl rfl rfl<| ?_
 refine bB ?_
 refine aN ?_
 refine aV ?_
 refine aV ?_
 refine aU ?_
 refine aw (au (Opd.t rfl)) rfl rfl rfl rfl<|aw (Run.eqB (ny (Opd.t rfl) Opd.c) z1) rfl rfl rfl rfl<| ?_
 refine bB ?_
 refine aN ?_
 refine gz (Opd.t rfl) (fun h=>by cases h) (fun _=> ?_)
 refine lC ?_
 refine aN ?_
 refine aV ?_
 refine aU ?_
 refine aw (au (Opd.t rfl)) rfl rfl rfl rfl<|aw (iR Tryz.underlying177 (Opd.t rfl) (fun _=>⟨_,_,rfl⟩)) rfl rfl rfl rfl<|aw (cC (Opd.t rfl)) rfl rfl rfl rfl<| ?_
 refine bB ?_
 refine aN ?_
 refine aV ?_
 refine aV ?_
 refine aU ?_
 refine aw (au (Opd.t rfl)) rfl rfl rfl rfl<|aw (au (Opd.t rfl)) rfl rfl rfl rfl<|aw (Run.eqB (ny (Opd.t rfl) (Opd.t rfl)) z2) rfl rfl rfl rfl<| ?_
 refine bB ?_
 refine aN ?_
 refine gz (Opd.t rfl) (fun h=>by cases h) (fun _=> ?_)
 refine lC ?_
 refine aN ?_
 refine aV ?_
 refine aV ?_
 refine aU ?_
 refine aw (au (Opd.t rfl)) rfl rfl rfl rfl<|aw (au (Opd.t rfl)) rfl rfl rfl rfl<|aw (Run.eqI (lE (Opd.t rfl) (Opd.t rfl)) a1) rfl rfl rfl rfl<|aw (au (Opd.t rfl)) rfl rfl rfl rfl<|aw (Ci Tryz.underlying177 (Opd.t rfl)) rfl rfl rfl rfl<|aw (Run.eqB (AY (Opd.t rfl) (Opd.t rfl)) z3) rfl rfl rfl rfl<| ?_
 refine bB ?_
 refine aN ?_
 refine gz (Opd.t rfl) (fun h=>by cases h) (fun _=> ?_)
 refine lC ?_
 refine aN ?_
 refine aV ?_
 refine aU ?_
 refine aw (au (Opd.t rfl)) rfl rfl rfl rfl<|aw (au (Opd.t rfl)) rfl rfl rfl rfl<|aw (au (Opd.t rfl)) rfl rfl rfl rfl<|aw (Run.eqI (lE (Opd.t rfl) (Opd.t rfl)) a1) rfl rfl rfl rfl<|aw (Ey Tryz.underlying177 tiI (Opd.t rfl) (Opd.t rfl) (by omega)) rfl rfl rfl rfl<|aw (cC (Opd.t rfl)) rfl rfl rfl rfl<| ?_
 refine bB ?_
 refine aN ?_
 refine aV ?_
 refine aV ?_
 refine aU ?_
 refine aw (au (Opd.t rfl)) rfl rfl rfl rfl<|aw (au (Opd.t rfl)) rfl rfl rfl rfl<|aw (au (Opd.t rfl)) rfl rfl rfl rfl<|aw (au (Opd.t rfl)) rfl rfl rfl rfl<|aw (Run.eqI (lE (Opd.t rfl) (Opd.t rfl)) a2) rfl rfl rfl rfl<|aw (iW Tryz.underlying177 tiI (Opd.t rfl) (Opd.t rfl) (by omega) (by omega) (by omega)) rfl rfl rfl rfl<|aw (Ii (xs:=[(.tmp 61),(.tmp 66)]) (.cons (Opd.t rfl) (.cons (Opd.t rfl) .nil)) (hov _ _)) rfl rfl rfl rfl<|aw (EU (Opd.t rfl)) rfl rfl rfl rfl<| ?_
 refine bB ?_
 refine aN ?_
 refine gz (Opd.t rfl) (fun _=> ?_) (fun h=>by cases h)
 refine aV ?_
 refine mM [0,0,0,6,9,0,0,96,144] (.q 0 0 (.q 1 1 (.q 2 3 (.q 3 7 (.q 4 15 (.q 5 31 (.q 6 63 (.q 7 127 (.l 8 255 .nil))))))))) (by kernel_rfl) (by kernel_rfl) ?_
 intro w1 hx2
 replace hb:=(hx2.block _ (Array.getElem?_eq_some_iff.1 hb).1).trans hb
 replace hv:=(hx2.block _ (Array.getElem?_eq_some_iff.1 hv).1).trans hv
 replace hC:=hC.trans (hx2.chg _)
 refine dY (fun _=>(au (Opd.t rfl))) rfl rfl rfl rfl<|dY (fun _=>(au (Opd.t rfl))) rfl rfl rfl rfl<|dY (fun _=>(au (Opd.t rfl))) rfl rfl rfl rfl<|dY (fun _=>(Run.eqI (lE (Opd.t rfl) (Opd.t rfl)) a2)) rfl rfl rfl rfl<|dY (fun _=>(iW Tryz.underlying177 tiI (Opd.t rfl) (Opd.t rfl) (by omega) (by omega) (by omega))) rfl rfl rfl rfl<|dY (fun _=>(au (Opd.t rfl))) rfl rfl rfl rfl<|dY (fun _=>(au (Opd.t rfl))) rfl rfl rfl rfl<|dY (fun _=>(iW Tryz.underlying177 tiI (Opd.t rfl) (Opd.t rfl) (by omega) (by omega) (by omega))) rfl rfl rfl rfl<| ?_
 refine HB (pend':=[]) rfl (by kernel_rfl) ?_
 refine sq (n3 (Opd.t rfl) (Opd.t rfl) (run1 _ hb _ _ _)) rfl rfl rfl rfl ?_
 replace hb:=setRow_heap _ b cur R1 290 (0,0) hb
 replace hv:=(setRow_other _ b vb R1 hne).trans hv
 replace hC:=hC.trans (mh b R1)
 refine bB ?_
 refine O2 Gg ?_
 refine Li ?_
 refine aN ?_
 refine aV ?_
 refine aU ?_
 refine aw (au (Opd.t rfl)) rfl rfl rfl rfl<|aw (au (Opd.t rfl)) rfl rfl rfl rfl<|aw (iW Tryz.underlying177 tiI (Opd.t rfl) (Opd.t rfl) (by omega) (by omega) (by omega)) rfl rfl rfl rfl<|aw (au (Opd.t rfl)) rfl rfl rfl rfl<| ?_
 refine sq (n3 (Opd.t rfl) (Opd.t rfl) (run2 _ hb hv _ _)) rfl rfl rfl rfl ?_
 replace hb:=setRow_heap _ b R1 R2 290 (0,0) hb
 replace hC:=hC.trans (mh b R2)
 refine bB ?_
 refine aN ?_
 refine aV ?_
 refine aU ?_
 refine aw (au (Opd.t rfl)) rfl rfl rfl rfl<|aw (cC (Opd.t rfl)) rfl rfl rfl rfl<| ?_
 refine bB ?_
 refine aN ?_
 refine sK ?_
 refine rD<| ?_
 refine Iz rfl (ir.t rfl) ?_
 exact ⟨rfl,hC,R2,hb,hR2s,hR2t⟩
set_option maxRecDepth 100000 in
theorem Sy {w:World} {b vb n c i m mc:Nat} {cur curv:Array Value} {ev:TypeId} (hin:i<n) (hm:0<m) (hnc:n≤c) (hroom:c<n+m) (hbig:(n+m)*16≤140737488355328)
  (hb:w.heap[b]? =some (.cells cur 290 (0,0))) (hsz:cur.size=c*2) (hv:w.heap[vb]? =some (.cells curv ev (0,0))) (hvs:m*2≤curv.size) (h1: ∀ v∈cur.toList.take (n*2),v.oneCell'=true) (h1v: ∀ v∈curv.toList.take (m*2),v.oneCell'=true):
  eI Tryz.prog 188 [.slice (some ⟨b,0,none⟩) n c,.int .i64 (i:Int),.slice (some ⟨vb,0,none⟩) m mc] w (fun r w1=>r= .slice (some ⟨w.heap.size,0,none⟩) (n+m) (grownCap w (n+m) c 290)∧Chg [w.heap.size] w w1∧ ∃ cur':Array Value,w1.heap[w.heap.size]? =some (.cells cur' 290 (0,0))∧cur'.size=grownCap w (n+m) c 290*2∧cur'.toList.take ((n+m)*2)=(cur.toList.take (n*2)).take (i*2)++curv.toList.take (m*2)++(cur.toList.take (n*2)).drop (i*2)):=by
 have z1:((m:Int)==0)=false:=by simp;omega
 have z2:((i:Int)==(n:Int))=false:=by simp;omega
 have a1:IntKind.i64.wrap ((n:Int)+(m:Int))=((n+m:Nat):Int):=by rw [w64 (by omega)];omega
 have a2:IntKind.i64.wrap ((i:Int)+(m:Int))=((i+m:Nat):Int):=by rw [w64 (by omega)];omega
 have a3:IntKind.i64.wrap (((n+m:Nat):Int)-(i:Int))=((n+m-i:Nat):Int):=by rw [w64 (by omega)];omega
 have hl:cur.toList.length=c*2:=by rw [Array.length_toList,hsz]
 have hvl:(curv.toList.take (m*2)).length=m*2:=by rw [List.length_take,Array.length_toList];omega
 have z3:decide ((c:Int)<((n+m:Nat):Int))=true:=by simp;omega
 have hbN:b≠w.heap.size:=by have:=(Array.getElem?_eq_some_iff.1 hb).1;omega
 have hvN:vb≠w.heap.size:=by have:=(Array.getElem?_eq_some_iff.1 hv).1;omega
 obtain ⟨i0,hi0,hs0,hb0,hz0⟩:=tiI.out
 have hcn:(cur.toList.take (n*2)).length=n*2:=by rw [List.length_take];omega
 have hci:((cur.toList.take (n*2)).take (i*2)).length=i*2:=by rw [List.length_take];omega
 have hold:(Builtin.firstCells i0.size i (.slice (some ⟨b,0,none⟩) i c)).run Tryz.prog w.drew= .ok ((cur.toList.take (n*2)).take (i*2)).toArray w.drew:=by
  rw [hs0]
  exact run_firstCells_some w.drew 2 i ⟨b,0,none⟩ i c _ (by rw [hci]) (cell_of_heap (w:=w.drew) hb 0 _ (by rw [hci,List.drop_zero,List.take_take,Nat.min_eq_left (by omega)]))
 have hrz0:=Lib.run_append_grow_zeros (P:=Tryz.prog) w 177 3 177 290 i0 _ .i64 .i64 Tryz.underlying177 Tryz.underlying3 hi0 hz0 (some ⟨b,0,none⟩) i c _ hold (n+m-i) (by omega) (by omega) (by omega) (by omega) (by rw [hb0];omega) (by rw [hb0];exact growslice_fits (by omega) (by rw [show i+(n+m-i)=n+m by omega];exact hbig))
 rw [show i+(n+m-i)=n+m by omega] at hrz0
 obtain ⟨G,hG⟩: ∃ G,G=grownCap w (n+m) c 290:=⟨_,rfl⟩
 have hGn:n+m≤G:=by rw [hG];exact grownCap_ge w _ _ _
 have hG63:G≤9223372036854775807:=by
  have:=grownCap_le_maxLen w (n+m) c 290 (by unfold maxLen;omega)
  rw [← hG] at this
  unfold maxLen at this
  omega
 rw [← hG] at hrz0 ⊢
 obtain ⟨zz,hzz⟩: ∃ zz:List Value,zz=(Builtin.zeroCells ((.agg #[(.int .u8 0),(.int .i64 0)]):Value).cells (n+m-i)++Builtin.zeroCells ((.agg #[(.int .u8 0),(.int .i64 0)]):Value).cells (G-(n+m))).toList:=⟨_,rfl⟩
 have hzl:zz.length=(G-i)*2:=by
  have hz2:((.agg #[(.int .u8 0),(.int .i64 0)]):Value).cells.size=2:=rfl
  rw [hzz,Array.length_toList,Array.size_append,size_zeroCells,size_zeroCells,hz2];omega
 obtain ⟨R0,hR0⟩: ∃ R0:Array Value,R0=((cur.toList.take (n*2)).take (i*2)).toArray++Builtin.zeroCells ((.agg #[(.int .u8 0),(.int .i64 0)]):Value).cells (n+m-i)++Builtin.zeroCells ((.agg #[(.int .u8 0),(.int .i64 0)]):Value).cells (G-(n+m)):=⟨_,rfl⟩
 rw [← hR0] at hrz0
 have hR0l:R0.toList=(cur.toList.take (n*2)).take (i*2)++zz:=by rw [hR0,hzz];simp
 have hR0s:R0.size=G*2:=by
  have:=congrArg List.length hR0l
  rw [Array.length_toList,List.length_append,hci,hzl] at this
  omega
 have hrz:(Builtin.append_ #[177,3] 177 #[.slice (some ⟨b,0,none⟩) i c,.int .i64 ((n+m-i:Nat):Int)]).run Tryz.prog w= .ok (.slice (some ⟨w.heap.size,0,none⟩) (n+m) G) (w.drew.alloc (.cells R0 290)):=hrz0
 obtain ⟨g1,g2,g3⟩:=Oh (l:=cur.toList.take (n*2)) (vs:=curv.toList.take (m*2)) (z:=zz) (a:=i*2) (b:=m*2) (n:=n*2) (by omega) hvl hcn (by rw [hzl];omega)
 rw [← hR0l] at g1 g2 g3
 obtain ⟨R1,hR1⟩: ∃ R1:Array Value,R1=(R0.toList.take (i*2)++curv.toList.take (m*2)++R0.toList.drop (i*2+(curv.toList.take (m*2)).length)).toArray:=⟨_,rfl⟩
 have hR1l:R1.toList=R0.toList.take (i*2)++curv.toList.take (m*2)++R0.toList.drop (i*2+(curv.toList.take (m*2)).length):=by rw [hR1]
 rw [← hR1l] at g1 g2 g3
 have hdl:((cur.toList.take (n*2)).drop (i*2)).length=n*2-i*2:=by rw [List.length_drop,hcn]
 obtain ⟨R2,hR2⟩: ∃ R2:Array Value,R2=(R1.toList.take (i*2+m*2)++(cur.toList.take (n*2)).drop (i*2)++R1.toList.drop (i*2+m*2+((cur.toList.take (n*2)).drop (i*2)).length)).toArray:=⟨_,rfl⟩
 have hR2l:R2.toList=R1.toList.take (i*2+m*2)++(cur.toList.take (n*2)).drop (i*2)++R1.toList.drop (i*2+m*2+((cur.toList.take (n*2)).drop (i*2)).length):=by rw [hR2]
 rw [← hR2l] at g2 g3
 rw [Array.length_toList,Array.length_toList,hR0s] at g1 g2
 rw [show n*2+m*2=(n+m)*2 by omega] at g3
 have hR2s:=g2
 have hR2t:=g3
 have run1: ∀ W:World,W.heap[w.heap.size]? =some (.cells R0 290 (0,0))→W.heap[vb]? =some (.cells curv ev (0,0))→ ∀ ty dc,(Builtin.copy_ #[177,177] ty #[.slice (some ⟨w.heap.size,0+i*2,none⟩) (n+m-i) dc,.slice (some ⟨vb,0,none⟩) m mc]).run Tryz.prog W= .ok (goInt (Nat.min m (n+m-i))) (W.setRow w.heap.size R1):=fun W hN hv ty dc=>by
  have hmin:Nat.min m (n+m-i)=m:=by simp only [Nat.min_def];split <;> omega
  rw [hR1,Nat.zero_add]
  exact kO Tryz.underlying177 tiI (by rw [hvl,hmin]) (cell_of_heap hv _ _ (by rw [hvl,List.drop_zero])) hN (by rw [hvl];omega) h1v
 have run2: ∀ W:World,W.heap[w.heap.size]? =some (.cells R1 290 (0,0))→W.heap[b]? =some (.cells cur 290 (0,0))→ ∀ ty dc sc,(Builtin.copy_ #[177,177] ty #[.slice (some ⟨w.heap.size,0+(i+m)*2,none⟩) (n+m-(i+m)) dc,.slice (some ⟨b,0+i*2,none⟩) (n-i) sc]).run Tryz.prog W= .ok (goInt (Nat.min (n-i) (n+m-(i+m)))) (W.setRow w.heap.size R2):=fun W hN hb ty dc sc=>by
  have hmin:Nat.min (n-i) (n+m-(i+m))=n-i:=by simp only [Nat.min_def];split <;> omega
  rw [hR2,show i*2+m*2=0+(i+m)*2 by omega]
  exact kO Tryz.underlying177 tiI (by rw [hdl,hmin];omega) (cell_of_heap hb _ _ (by rw [hdl,Nat.zero_add,List.drop_take])) hN (by rw [hdl];omega) (fun v hv=>h1 v (List.mem_of_mem_drop hv))
 have hC:Chg [w.heap.size] w (w.drew.alloc (.cells R0 290)):=⟨rfl,rfl,rfl,by simp,fun b hb _=>heap_alloc_old w.drew _ hb⟩
 clear hR1 hR2 hR1l hR2l hR0 hR0l hzz hzl g1 g2 g3 hrz0 hold
 refine iE Tryz.func188 rfl Tryz.ntmps188 rfl ?_
 refine aV ?_
 refine aU ?_
 refine aw (cC Opd.c) rfl rfl rfl rfl<| ?_
 refine bB ?_
 refine aN ?_
 refine aV ?_
 refine aU ?_
 refine aw (au (Opd.t rfl)) rfl rfl rfl rfl<|aw (au (Opd.t rfl)) rfl rfl rfl rfl<|aw (iW Tryz.underlying177 tiI (Opd.t rfl) (Opd.t rfl) (by omega) (by omega) (by omega)) rfl rfl rfl rfl<| ?_
 refine bB ?_
 refine aN ?_
 refine aV ?_
 refine aU ?_
 refine aw (au (Opd.t rfl)) rfl rfl rfl rfl<|aw (iR Tryz.underlying177 (Opd.t rfl) (fun _=>⟨_,_,rfl⟩)) rfl rfl rfl rfl<|aw (cC (Opd.t rfl)) rfl rfl rfl rfl<| ?_
 refine bB ?_
 refine aN ?_
 refine aV ?_
 refine aV ?_
 refine aU ?_
 refine aw (au (Opd.t rfl)) rfl rfl rfl rfl<|aw (Run.eqB (ny (Opd.t rfl) Opd.c) z1) rfl rfl rfl rfl<| ?_
 refine bB ?_
 refine aN ?_
 refine gz (Opd.t rfl) (fun h=>by cases h) (fun _=> ?_)
 refine lC ?_
 refine aN ?_
 refine aV ?_
 refine aU ?_
 refine aw (au (Opd.t rfl)) rfl rfl rfl rfl<|aw (iR Tryz.underlying177 (Opd.t rfl) (fun _=>⟨_,_,rfl⟩)) rfl rfl rfl rfl<|aw (cC (Opd.t rfl)) rfl rfl rfl rfl<| ?_
 refine bB ?_
 refine aN ?_
 refine aV ?_
 refine aV ?_
 refine aU ?_
 refine aw (au (Opd.t rfl)) rfl rfl rfl rfl<|aw (au (Opd.t rfl)) rfl rfl rfl rfl<|aw (Run.eqB (ny (Opd.t rfl) (Opd.t rfl)) z2) rfl rfl rfl rfl<| ?_
 refine bB ?_
 refine aN ?_
 refine gz (Opd.t rfl) (fun h=>by cases h) (fun _=> ?_)
 refine lC ?_
 refine aN ?_
 refine aV ?_
 refine aV ?_
 refine aU ?_
 refine aw (au (Opd.t rfl)) rfl rfl rfl rfl<|aw (au (Opd.t rfl)) rfl rfl rfl rfl<|aw (Run.eqI (lE (Opd.t rfl) (Opd.t rfl)) a1) rfl rfl rfl rfl<|aw (au (Opd.t rfl)) rfl rfl rfl rfl<|aw (Ci Tryz.underlying177 (Opd.t rfl)) rfl rfl rfl rfl<|aw (Run.eqB (AY (Opd.t rfl) (Opd.t rfl)) z3) rfl rfl rfl rfl<| ?_
 refine bB ?_
 refine aN ?_
 refine gz (Opd.t rfl) (fun _=> ?_) (fun h=>by cases h)
 refine aV ?_
 refine aU ?_
 refine aw (au (Opd.t rfl)) rfl rfl rfl rfl<|aw (au (Opd.t rfl)) rfl rfl rfl rfl<|aw (Ey Tryz.underlying177 tiI (Opd.t rfl) (Opd.t rfl) (by omega)) rfl rfl rfl rfl<|aw (au (Opd.t rfl)) rfl rfl rfl rfl<|aw (au (Opd.t rfl)) rfl rfl rfl rfl<|aw (Run.eqI (lE (Opd.t rfl) (Opd.t rfl)) a1) rfl rfl rfl rfl<|aw (au (Opd.t rfl)) rfl rfl rfl rfl<|aw (Run.eqI (Hn (Opd.t rfl) (Opd.t rfl)) a3) rfl rfl rfl rfl<| ?_
 refine sq (ym (Opd.t rfl) (Opd.t rfl) hrz) rfl rfl rfl rfl ?_
 have hN:=heap_alloc_new w.drew (.cells R0 290)
 replace hb:=(heap_alloc_old w.drew (.cells R0 290) (Array.getElem?_eq_some_iff.1 hb).1).trans hb
 replace hv:=(heap_alloc_old w.drew (.cells R0 290) (Array.getElem?_eq_some_iff.1 hv).1).trans hv
 refine aw (cC (Opd.t rfl)) rfl rfl rfl rfl<| ?_
 refine bB ?_
 refine aN ?_
 refine aV ?_
 refine aU ?_
 refine aw (au (Opd.t rfl)) rfl rfl rfl rfl<|aw (au (Opd.t rfl)) rfl rfl rfl rfl<|aw (iW Tryz.underlying177 tiI (Opd.t rfl) (Opd.t rfl) (by omega) (by omega) (by omega)) rfl rfl rfl rfl<|aw (au (Opd.t rfl)) rfl rfl rfl rfl<| ?_
 refine sq (n3 (Opd.t rfl) (Opd.t rfl) (run1 _ hN hv _ _)) rfl rfl rfl rfl ?_
 replace hC:=hC.trans (mh w.heap.size R1)
 replace hN:=setRow_heap _ w.heap.size R0 R1 290 (0,0) hN
 replace hb:=(setRow_other _ w.heap.size b R1 hbN).trans hb
 replace hv:=(setRow_other _ w.heap.size vb R1 hvN).trans hv
 refine bB ?_
 refine aN ?_
 refine aV ?_
 refine mM [0,0,0,6,9,0,0,96,144] (.q 0 0 (.q 1 1 (.q 2 3 (.q 3 7 (.q 4 15 (.q 5 31 (.q 6 63 (.q 7 127 (.l 8 255 .nil))))))))) (by kernel_rfl) (by kernel_rfl) ?_
 intro w1 hx2
 replace hN:=(hx2.block _ (Array.getElem?_eq_some_iff.1 hN).1).trans hN
 replace hb:=(hx2.block _ (Array.getElem?_eq_some_iff.1 hb).1).trans hb
 replace hv:=(hx2.block _ (Array.getElem?_eq_some_iff.1 hv).1).trans hv
 replace hC:=hC.trans (hx2.chg _)
 refine dY (fun _=>(au (Opd.t rfl))) rfl rfl rfl rfl<|dY (fun _=>(au (Opd.t rfl))) rfl rfl rfl rfl<|dY (fun _=>(au (Opd.t rfl))) rfl rfl rfl rfl<|dY (fun _=>(Run.eqI (lE (Opd.t rfl) (Opd.t rfl)) a2)) rfl rfl rfl rfl<|dY (fun _=>(iW Tryz.underlying177 tiI (Opd.t rfl) (Opd.t rfl) (by omega) (by omega) (by omega))) rfl rfl rfl rfl<|dY (fun _=>(au (Opd.t rfl))) rfl rfl rfl rfl<|dY (fun _=>(au (Opd.t rfl))) rfl rfl rfl rfl<|dY (fun _=>(iW Tryz.underlying177 tiI (Opd.t rfl) (Opd.t rfl) (by omega) (by omega) (by omega))) rfl rfl rfl rfl<| ?_
 refine HB (pend':=[]) rfl (by kernel_rfl) ?_
 refine sq (n3 (Opd.t rfl) (Opd.t rfl) (run2 _ hN hb _ _ _)) rfl rfl rfl rfl ?_
 replace hC:=hC.trans (mh w.heap.size R2)
 replace hN:=setRow_heap _ w.heap.size R1 R2 290 (0,0) hN
 refine bB ?_
 refine O2 Gg ?_
 refine Li ?_
 refine aN ?_
 refine aV ?_
 refine aU ?_
 refine aw (au (Opd.t rfl)) rfl rfl rfl rfl<|aw (cC (Opd.t rfl)) rfl rfl rfl rfl<| ?_
 refine bB ?_
 refine aN ?_
 refine sK ?_
 refine rD<| ?_
 refine Iz rfl (ir.t rfl) ?_
 exact ⟨rfl,hC,R2,hN,hR2s,hR2t⟩
theorem D8 {Φ:Ctx} {w:World} {v vy:SLV} {xs ys:List (Int×Int)} {R Ry:List Nat} {i:Int} (hs:Sat (osl (RP (RI .u8) (RI .i64)) 290 (sl v) xs R::osl (RP (RI .u8) (RI .i64)) 290 (sl vy) ys Ry::Φ) w) (hne:ys≠[]) (hi:oE i xs.length=true) (hroom:aB (xs.length+ys.length) 16=true):
  eI Tryz.prog 188 [sl v,.int .i64 i,sl vy] w (fun r w'=> ∃ (p:SLV) (R':List Nat),r=sl p∧Sat (osl (RP (RI .u8) (RI .i64)) 290 (sl p) (fU xs i ys) R'::imm (RSl (RP (RI .u8) (RI .i64))) [sl vy] ys::Φ) w'):=by
 obtain ⟨hi0,hi1⟩:=EK.1 hi
 obtain ⟨k,rfl⟩: ∃ k:Nat,i=k:=⟨i.toNat,by omega⟩
 have hk:k≤xs.length:=by omega
 have hym:0<ys.length:=List.length_pos_iff.2 hne
 have hO:=hs.own (i:=0) rfl
 obtain ⟨p,c,hv,hnc⟩:=hO.shape
 obtain ⟨vb,mc,curv,hvy,hRy,hhv,hmc,_,hvsz,hyr⟩:=(hs.own (i:=1) rfl).row hne
 have mono: ∀ {S S':Value→World→Prop} {args},eI Tryz.prog 188 args w S→(∀ r w',S r w'→S' r w')→eI Tryz.prog 188 args w S':=fun h hS=>fG.mono h hS (fun _ _ h=>h)
 by_cases hend:k=xs.length
 · -- at the end
  subst hend
  have hs2:=hs.freeze (i:=1) rfl
  have hs2:Sat (osl (RP (RI .u8) (RI .i64)) 290 (sl v) xs R::imm (RSl (RP (RI .u8) (RI .i64))) [sl vy] ys::Φ) w:=hs2
  obtain ⟨v',R',w',hr,hC,hR,hP⟩:=IA (t:=177) (ty:=177) Tryz.underlying177 tiI rfl (by decide) (hs2.own (i:=0) rfl) (hs2.sl (i:=1) rfl) (fun b hb=>Ctx.fu (i:=0) rfl hb) hroom
  have hS:=hs2.upd (i:=0) rfl (new:=osl (RP (RI .u8) (RI .i64)) 290 v' (xs++ys) R') hC hR (fun M' m _=>hP M' m)
  have hv': ∃ p,v'=sl p:=by
   obtain ⟨a,cap,hv⟩:=(hS.own (i:=0) rfl).len
   exact ⟨(a,_,cap),hv⟩
  obtain ⟨p',rfl⟩:=hv'
  rw [hv,hvy] at hr ⊢
  refine mono (np hnc hym hr) ?_
  rintro r w1 ⟨rfl,rfl⟩
  rw [← hvy]
  refine ⟨p',R',rfl,?_⟩
  rw [Oi]
  exact hS
 ·have hlt:k<xs.length:=by omega
  have hxne:xs≠[]:=fun h=>by rw [h] at hlt;simp at hlt
  obtain ⟨b,c,cur,hv,hR,hh,hnc,hcm,hsz,hxr⟩:=hO.row hxne
  have hcm2:c≤9223372036854775807:=by unfold maxLen at hcm;omega
  have hbv:vb≠b:=by
   intro e
   subst e
   exact hs.sep 0 1 _ _ rfl rfl (by decide) vb (by show vb∈R;rw [hR];simp) (by show vb∈Ry;rw [hRy];simp)
  have hlen:=On (ys:=ys) hk
  simp only [aB,Bool.and_eq_true] at hroom
  have hb1:=Nat.le_of_ble_eq_true hroom.1
  have hb2:=Nat.le_of_ble_eq_true hroom.2
  have hcur:c*2=cur.size:=hsz.symm
  by_cases hroomc:xs.length+ys.length≤c
  · -- there is room
   rw [hv,hvy]
   refine mono (rM hlt hym hroomc hcm2 hbv hh hsz hhv (by rw [show curv.size=mc*2 from hvsz];omega) hxr.py hyr.py) ?_
   rintro r w1 ⟨rfl,hC,cur',hh',hs',ht'⟩
   rw [← hvy]
   refine ⟨(some ⟨b,0,none⟩,xs.length+ys.length,c),[b],rfl,?_⟩
   have hS:=hs.upd (i:=0) rfl (new:=osl (RP (RI .u8) (RI .i64)) 290 (.slice (some ⟨b,0,none⟩) (xs.length+ys.length) c) (fU xs (k:Int) ys) [b]) (by show Chg R w w1;rw [hR];exact hC) (fun d hd=>by
    have:d=b:=by simpa [osl] using hd
    subst this
    exact ⟨(Array.getElem?_eq_some_iff.1 hh').1,.inl (by show d∈R;rw [hR];simp)⟩) (fun M' m _=>by
    show Own _ _ _ _ _ _ _
    rw [← hlen]
    refine Own.mk_ hh' (by omega) hcm hs' ?_
    rw [hlen]
    have:=(Ig (i:=k) hxr hyr).mv m
    have e:cur'.toList.take ((xs.length+ys.length)*((RP (RI .u8) (RI .i64))).n)=(cur.toList.take (xs.length*((RP (RI .u8) (RI .i64))).n)).take (k*((RP (RI .u8) (RI .i64))).n)++curv.toList.take (ys.length*((RP (RI .u8) (RI .i64))).n)++(cur.toList.take (xs.length*((RP (RI .u8) (RI .i64))).n)).drop (k*((RP (RI .u8) (RI .i64))).n):=ht'
    rw [e]
    exact this)
   exact hS.freeze (i:=1) rfl
  · -- a new row
   rw [hv,hvy]
   refine mono (Sy hlt hym hnc (by omega) hb1 hh hsz hhv (by rw [show curv.size=mc*2 from hvsz];omega) hxr.py hyr.py) ?_
   rintro r w1 ⟨rfl,hC,cur',hh',hs',ht'⟩
   rw [← hvy]
   refine ⟨(some ⟨w.heap.size,0,none⟩,xs.length+ys.length,_),[w.heap.size],rfl,?_⟩
   have hE:Chg R w w1:=⟨hC.os,hC.tape,hC.output,hC.size,fun d hd _=>hC.block d hd (by simp;omega)⟩
   have hS:=hs.upd (i:=0) rfl (new:=osl (RP (RI .u8) (RI .i64)) 290 (.slice (some ⟨w.heap.size,0,none⟩) (xs.length+ys.length) (grownCap w (xs.length+ys.length) c 290)) (fU xs (k:Int) ys) [w.heap.size]) hE (fun d hd=>by
    have:d=w.heap.size:=by simpa [osl] using hd
    subst this
    exact ⟨(Array.getElem?_eq_some_iff.1 hh').1,.inr (Nat.le_refl _)⟩) (fun M' m _=>by
    show Own _ _ _ _ _ _ _
    rw [← hlen]
    refine Own.mk_ (by rw [hlen] at *; exact hh') (by rw [hlen];exact grownCap_ge w _ _ _) (by rw [hlen];exact grownCap_le_maxLen w _ c 290 (by simpa [maxLen] using hb2)) (by rw [hlen];exact hs') ?_
    rw [hlen]
    have:=(Ig (i:=k) hxr hyr).mv m
    have e:cur'.toList.take ((xs.length+ys.length)*((RP (RI .u8) (RI .i64))).n)=(cur.toList.take (xs.length*((RP (RI .u8) (RI .i64))).n)).take (k*((RP (RI .u8) (RI .i64))).n)++curv.toList.take (ys.length*((RP (RI .u8) (RI .i64))).n)++(cur.toList.take (xs.length*((RP (RI .u8) (RI .i64))).n)).drop (k*((RP (RI .u8) (RI .i64))).n):=ht'
    rw [e]
    exact this)
   exact hS.freeze (i:=1) rfl
end I188
end Go.Proofs.YtgcgmclghbebjaaGreat
namespace Go.Proofs.YtgcgmclghbebjaaGreat
open Go.Lib
theorem Qs {P:Program} {Γg:Ctx} {f e bytes:Nat} {t:Ty} (hE:cR P f)
  (hins: ∀ {Φ:Ctx} {w:World} {v vy:SLV} {xs ys:List t.T} {R Ry:List Nat} {i:Int},Sat (osl t.rep e (sl v) xs R::osl t.rep e (sl vy) ys Ry::Φ) w→ys≠[]→oE i xs.length=true→aB (xs.length+ys.length) bytes=true→
   eI P f [sl v,.int .i64 i,sl vy] w (fun r w'=> ∃ (p:SLV) (R':List Nat),r=sl p∧Sat (osl t.rep e (sl p) (fU xs i ys) R'::imm (RSl t.rep) [sl vy] ys::Φ) w'))
  (m:List t.T→Int→List t.T→Option (List t.T)) (hm: ∀ xs i ys r,m xs i ys=some r→ys≠[]∧oE i xs.length=true∧aB (xs.length+ys.length) bytes=true∧r=fU xs i ys):
  (⟨f,[.own t e true,.int .i64,.own t e true],.own t e true,[],fun s=>m s.1 s.2.1 s.2.2⟩:Ent).Ok P Γg:=by
 refine ⟨hE,fun s r hr vs N I X Φ w hS hs hΦ=> ?_⟩
 obtain ⟨v1,vs1,D1,D2,I1,I2,X1,X2,N1,rfl,⟨a,l,rfl,_,rfl,rfl,rfl,rfl,_⟩,⟨v2,vs2,D3,D4,I3,I4,X3,X4,N2,rfl,⟨i,rfl,rfl,rfl,rfl,rfl⟩,⟨v3,vs3,D5,D6,I5,I6,X5,X6,N3,rfl,⟨b,l2,rfl,_,rfl,rfl,rfl,rfl,_⟩,⟨rfl,rfl,rfl,rfl,rfl⟩,rfl,rfl,rfl⟩,rfl,rfl,rfl⟩,hD,rfl,rfl⟩:=hS
 obtain ⟨s1,s2,s3⟩:=s
 obtain ⟨hne,hb,hroom,rfl⟩:=hm s1 s2 s3 r hr
 have hD:[(⟨.l t,s1⟩:Dyn),⟨.i .i64,s2⟩,⟨.l t,s3⟩]=[⟨.l t,l⟩,⟨.i .i64,i⟩,⟨.l t,l2⟩]:=hD
 simp only [List.cons.injEq,and_true] at hD
 obtain ⟨hD1,hD2,hD3⟩:=hD
 have q1:s1=l:=by cases hD1;rfl
 have q2:s2=i:=by cases hD2;rfl
 have q3:s3=l2:=by cases hD3;rfl
 subst q1 q2 q3
 have hs:Sat (kZ t.rep e a.v s1 True::kZ t.rep e b.v s3 True::Φ) w:=hs
 have hs1:Sat (osl t.rep e (sl a.v) s1 (slR a.v)::kZ t.rep e b.v s3 True::Φ) w:=Sat.le2 (A:=[]) hs ⟨fun _ h=>h,fun M w h=>h.1⟩
 have hs2:Sat (osl t.rep e (sl a.v) s1 (slR a.v)::osl t.rep e (sl b.v) s3 (slR b.v)::Φ) w:=Sat.le2 (A:=[osl t.rep e (sl a.v) s1 (slR a.v)]) hs1 ⟨fun _ h=>h,fun M w h=>h.1⟩
 refine eI.mono (hins hs2 hne hb hroom) ?_
 rintro v w' ⟨p,R',rfl,hs3⟩
 obtain ⟨Y,hY⟩: ∃ Y:List t.T,Y=fU s1 s2 s3:=⟨_,rfl⟩
 rw [← hY] at hs3
 refine ⟨[a,b,{ nm0 with v:=p,y:=⟨.l t,Y⟩ }],[a,b,{ nm0 with v:=p,y:=⟨.l t,Y⟩ }],[⟨.l t,Y⟩],[],[(true,kZ t.rep e p Y True)],[],[],[],
  ⟨{ nm0 with v:=p,y:=⟨.l t,Y⟩ },Y,rfl,(fun q h=>by cases h),rfl,rfl,rfl,rfl,rfl⟩,⟨rfl,rfl,rfl,rfl⟩,by rw [hY];rfl,?_⟩
 have hO:=hs3.own (i:=0) rfl
 have hcan:=hO.canon
 have hs4:Sat ([osl t.rep e (sl p) Y R']++eN::Φ) w':=Sat.le2 (A:=[osl t.rep e (sl p) Y R']) (B:=Φ) hs3 ⟨(fun _ h=>nomatch h),fun _ _ _=>trivial⟩
 have hs5:=Sat.fU (A:=[osl t.rep e (sl p) Y R']) (B:=eN::Φ) hs4 [eN] (fun it hit=>by rw [List.mem_singleton.1 hit];exact ⟨rfl,fun _ _=>trivial⟩)
 exact Sat.le2 (A:=[]) (B:=eN::eN::Φ) (x:=osl t.rep e (sl p) Y R') hs5 ⟨fun b hb=>hcan.1 b hb,fun M w h=>⟨hcan.2 M w h,trivial⟩⟩
end Go.Proofs.YtgcgmclghbebjaaGreat
