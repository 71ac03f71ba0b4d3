/-
  Own texts for the statement StoreTells, cut down to what it needs: Model, B34, KIn, KIe. (cut and joined by a program)
-/
import Derived.Test.YtgcgmclghbebjaaGreatStoreTellsA
import Derived.Test.YtgcgmclghbebjaaGreatStoreTellsB
import Derived.Test.YtgcgmclghbebjaaGreatStoreTellsC
import Derived.Test.YtgcgmclghbebjaaGreatStoreTellsD
import Derived.Test.YtgcgmclghbebjaaGreatStoreTellsE
import Derived.Test.YtgcgmclghbebjaaGreatProg
namespace Go.Proofs.YtgcgmclghbebjaaGreat
abbrev Q1:=(List Int)
abbrev Q2:=((Int×(List ((List (Int×Int))×Int))×Int×Int×Q1)×(Int×(List ((List (Int×Int))×Int))×Int×Int×Q1)×(Int×(List ((List (Int×Int))×Int))×Int×Int×Q1))
abbrev Q3:=(Int×(List (Int×Int))×Int×((Int×(List Q1)×Q1)×Q1)×((List (Int×(List Q1)×Q1))×(Int×(List Q1)×Q1)×Q1)×((List (Int×(List Q1)×Q1))×Q1)×Q2×(Int×Int×Int×(Q1×Q1×Q1)))
abbrev Q4:=(List (Int×Int))
abbrev Q5:=(Int×(List Q1)×Q1)
abbrev Q6:=(Int×Int×Int×(Q1×Q1×Q1))
abbrev Q7:=(List (Q4×Int))
abbrev Q8:=(Q4×Int×(List Q1)×(List (Bool×Bool)))
abbrev Q9:=(Option (List (Int×Bool)))
abbrev Q10:=(Int×Q4×Int×Int×(List Q1)×Q1×Q1×(List Q5)×Int×(List Q1)×Q1×Q1×(List Q5)×Q1×Int×Q7×Int×Int×Q1×Int×Q7×Int×Int×Q1×Int×Q7×Int×Int×Q1×Int×Int×Int×Q1×Q1×Q1×(List Q1)×Int)
abbrev Q11:=((List Q5)×Q5×Q1)
abbrev Q12:=(Q1×Int)
abbrev Q13:=(Int×Int)
abbrev Q14:=(Int×Int×Int×Int×Int×Int)
abbrev Q15:=(Int×Q7×Int×Int×Q1)
abbrev Q16:=(Int×Q7×Q1×Q9)
abbrev Q17:=(Bool×Int)
abbrev Q18:=((List Q5)×Q1)
abbrev Q19:=(Int×Int×Int×Int×Int×Int×Int×Int)
abbrev Q20:=(Q4×Bool×Q8×Q6)
abbrev Q21:=(Bool×Bool)
abbrev Q22:=(Int×Q1×Int×Q7×Int×Int×Q1×Q9)
abbrev Q23:=(Int×Bool)
abbrev Q24:=(Int×Int×Q7×Int×Int×Q1×Q9)
abbrev Q25:=(Q3×Bool×Int)
abbrev Q26:=(Int×Q1×(List Q5))
abbrev Q27:=(Q3×Int)
abbrev Q28:=(Q11×Bool×Int)
abbrev Q29:=(Int×Q1×Int)
abbrev Q30:=(Int×(List Q5))
noncomputable section
def EA {α:Type} (b:Nat) (s:List α) (k:Int) (y:List α):Option (List α):=match y with
 | []=>none
 | y0::ys=>chk (qF k (List.length s)&&aw (List.length s+List.length (y0::ys)) b) (some (ik s k (y0::ys)))
def NO (x0:Int) (x1:Int) (y0:Int) (y1:Int):Bool:=x0==y0&&x1==y1
def la (f:Q13):Option Bool:= aj (decide (f.1<(-1073741824))) fun b5=> aj (decide (1073741824<f.2)) fun b7=> aj (b5||b7) fun b9=> aj (!b9) fun b11=> aj (decide (f.1≤f.2)) fun b13=> aj (b11&&b13) fun b15=> aj (decide ((IntKind.i64.wrap (f.2-f.1))<65536)) fun b17=> aj (b15&&b17) fun b19=> some b19
def kY (s:Q4) (again12:((List Bool)×Int)→Option (List Bool)):(List Bool)×Int→Option (List Bool):=fun ⟨l10,t11⟩=> bif (decide (t11<(List.length s:Int))) then ( (idx s t11).bind fun e14=> (la e14).bind fun r19=> (idx l10 t11).bind fun _e22=> again12 ((List.set l10 (Int.toNat t11) r19),(IntKind.i64.wrap (t11+1)))) else ( some l10)
def kq (s:Q4):Option (List Bool):= chk (decide (0≤(List.length s:Int)))<| chk (aw (Int.toNat (List.length s:Int)) 1)<| aq (kY s) au ((List.replicate (Int.toNat (List.length s:Int)) false),0)
def cX (s:(List Bool)) (v3:Bool) (again5:Int→Option Int) (t4:Int):Option Int:= bif (decide (t4<(List.length s:Int))) then ( (idx s t4).bind fun e7=> bif (v3==e7) then ( some t4) else ( again5 (IntKind.i64.wrap (t4+1)))) else ( some (-1))
def jq (s:(List Bool)) (v3:Bool):Option Int:= aq (cX s v3) au 0
def eo (s:(List Bool)) (v3:Bool):Option Bool:= (jq s v3).bind fun r3=> some (decide (0≤r3))
def od (s:Q4):Option Bool:= aj (decide (1≤(List.length s:Int))) fun b3=> aj (decide ((List.length s:Int)≤17)) fun b5=> aj (b3&&b5) fun b7=> cf b7 default (kq s) fun r9=> cf b7 default (eo r9 false) fun r18=> aj (!r18) fun b24=> aj (b7&&b24) fun b26=> some b26
def aC:Option (List Nat):= some ([133,134,135,136,137]:List Nat)
def cJ (s:Q4):Option Q4:= chk (aw (List.length s) 16)<| some s
def jc (most:Int):Option (Q5×Int):= aj (decide (most<0)) fun b10=> aj (decide (1048576<most)) fun b12=> aj (b10||b12) fun b14=> bif b14 then ( some ((0,[],[]),1)) else ( chk (decide (0≤8))<| chk (aw (Int.toNat 8) 8)<| some ((most,[],(List.replicate (Int.toNat 8) 0)),0))
def wP (most:Int):Option ((Q5×Q1)×Int):= (jc most).bind fun r12=> some ((r12.1,[]),r12.2)
def eV (_x:Unit) (t:Q3) (o:Q14):Option Q27:= (wP o.2.1).bind fun r49=> some ((t.1,t.2.1,t.2.2.1,r49.1,t.2.2.2.2.1,t.2.2.2.2.2.1,t.2.2.2.2.2.2.1,t.2.2.2.2.2.2.2),r49.2)
def uG (s:Q4) (most:Int) (r14:(Q5×Int)) (again34:((List Q5)×Int)→Option (Q11×Int)):(List Q5)×Int→Option (Q11×Int):=fun ⟨l30,t33⟩=> bif (decide (t33<(IntKind.i64.wrap (Int.tdiv (IntKind.i64.wrap ((IntKind.i64.wrap ((List.length s:Int)+2))-1)) 2)))) then ( (jc most).bind fun r36=> chk (aw (List.length l30+List.length ([r36.1]:List Q5)) 56)<| again34 ((l30++([r36.1]:List Q5)),(IntKind.i64.wrap (t33+1)))) else ( some ((l30,r14.1,[]),0))
def xA (s:Q4) (most:Int):Option (Q11×Int):= (jc most).bind fun r14=> bif (r14.2 != 0) then ( some (([],(0,[],[]),[]),r14.2)) else ( aq (uG s most r14) au ([],0))
def dU (_x:Unit) (t:Q3) (o:Q14):Option Q27:= (xA t.2.1 o.2.1).bind fun r49=> some ((t.1,t.2.1,t.2.2.1,t.2.2.2.1,r49.1,t.2.2.2.2.2.1,t.2.2.2.2.2.2.1,t.2.2.2.2.2.2.2),r49.2)
def zK (most:Int):Option (Q5×Int):= (jc most).bind fun r10=> some (r10.1,r10.2)
def kN (AX:Int→Option Int) (n:Int):Option Int:= bif (decide (n<2)) then ( some 0) else ( (AX (IntKind.i64.wrap (Int.tdiv (IntKind.i64.wrap (n+1)) 2))).bind fun r4=> (AX (IntKind.i64.wrap (n-(IntKind.i64.wrap (Int.tdiv (IntKind.i64.wrap (n+1)) 2))))).bind fun r7=> some (IntKind.i64.wrap ((IntKind.i64.wrap (1+r4))+r7)))
def nH (n:Int):Option Int:=
 aq (fun k (s:Int)=>kN k s) au n
def uQ (_s:Q4) (r10:(Q5×Int)) (r25:Int) (again33:((List Q5)×Int)→Option (Q18×Int)):(List Q5)×Int→Option (Q18×Int):=fun ⟨l29,t32⟩=> bif (decide (t32<(max 1 r25))) then ( chk (aw (List.length l29+List.length ([r10.1]:List Q5)) 56)<| again33 ((l29++([r10.1]:List Q5)),(IntKind.i64.wrap (t32+1)))) else ( some ((l29,[]),0))
def wL (s:Q4) (most:Int):Option (Q18×Int):= (zK most).bind fun r10=> bif (r10.2 != 0) then ( some (([],[]),r10.2)) else ( (nH (List.length s:Int)).bind fun r25=> aq (uQ s r10 r25) au ([],0))
def dZ (_x:Unit) (t:Q3) (o:Q14):Option Q27:= (wL t.2.1 o.2.1).bind fun r49=> some ((t.1,t.2.1,t.2.2.1,t.2.2.2.1,t.2.2.2.2.1,r49.1,t.2.2.2.2.2.2.1,t.2.2.2.2.2.2.2),r49.2)
def sG (again6:Q13→Option Int):Int×Int→Option Int:=fun ⟨n4,k5⟩=> bif (decide (0<n4)) then ( again6 ((ar .u64 n4 1),(IntKind.i64.wrap (k5+1)))) else ( some k5)
def qq (n:Int):Option Int:= aq sG au (n,0)
def kH (f:Q13):Option Int:= (qq (IntKind.u64.wrap (IntKind.i64.wrap (f.2-f.1)))).bind fun r5=> some r5
def lu (s:Q4) (again12:Q12→Option Q1):Q1×Int→Option Q1:=fun ⟨l10,t11⟩=> bif (decide (t11<(List.length s:Int))) then ( (idx s t11).bind fun e14=> (kH e14).bind fun r19=> (idx l10 t11).bind fun _e22=> again12 ((List.set l10 (Int.toNat t11) r19),(IntKind.i64.wrap (t11+1)))) else ( some l10)
def iY (s:Q4):Option Q1:= chk (decide (0≤(List.length s:Int)))<| chk (aw (Int.toNat (List.length s:Int)) 8)<| aq (lu s) au ((List.replicate (Int.toNat (List.length s:Int)) 0),0)
def pB (_s:Q4) (r3:Q1) (again11:Q13→Option Int):Int×Int→Option Int:=fun ⟨n9,t10⟩=> bif (decide (t10<(List.length r3:Int))) then ( (idx r3 t10).bind fun e13=> again11 ((IntKind.i64.wrap (n9+e13)),(IntKind.i64.wrap (t10+1)))) else ( some n9)
def pX (s:Q4):Option Int:= (iY s).bind fun r3=> aq (pB s r3) au (0,0)
def jW (s:Q4):Option Int:= (pX s).bind fun r3=> some (max 1 (IntKind.i64.wrap (Int.tdiv (IntKind.i64.wrap (r3+7)) 8)))
def Aq (wide:Int):Option (Q15×Int):= aj (decide (wide<1)) fun b10=> aj (decide (64<wide)) fun b12=> aj (b10||b12) fun b14=> bif b14 then ( some ((0,[],0,0,[]),1)) else ( some ((wide,[],(-1),0,[]),0))
def eQ (_x:Unit) (t:Q3) (again80:(Int×Q7×Int×Int×Q1×Int×Q7×Int×Int×Q1×Int×Q7×Int×Int×Q1×Int)→Option Q27):Int×Q7×Int×Int×Q1×Int×Q7×Int×Int×Q1×Int×Q7×Int×Int×Q1×Int→Option Q27:=fun ⟨c58,c59,c61,c62,c63,c65,c66,c68,c69,c70,c72,c73,c75,c76,c77,t79⟩=> bif (decide (t79<3)) then ( (jW t.2.1).bind fun r82=> (Aq r82).bind fun r85=> bif (t79==0) then ( again80 (r85.1.1,r85.1.2.1,r85.1.2.2.1,r85.1.2.2.2.1,r85.1.2.2.2.2,c65,c66,c68,c69,c70,c72,c73,c75,c76,c77,(IntKind.i64.wrap (t79+1)))) else ( bif (t79==1) then ( again80 (c58,c59,c61,c62,c63,r85.1.1,r85.1.2.1,r85.1.2.2.1,r85.1.2.2.2.1,r85.1.2.2.2.2,c72,c73,c75,c76,c77,(IntKind.i64.wrap (t79+1)))) else ( bif (t79==2) then ( again80 (c58,c59,c61,c62,c63,c65,c66,c68,c69,c70,r85.1.1,r85.1.2.1,r85.1.2.2.1,r85.1.2.2.2.1,r85.1.2.2.2.2,(IntKind.i64.wrap (t79+1)))) else ( none)))) else ( some ((t.1,t.2.1,t.2.2.1,t.2.2.2.1,t.2.2.2.2.1,t.2.2.2.2.2.1,((c58,c59,c61,c62,c63),(c65,c66,c68,c69,c70),(c72,c73,c75,c76,c77)),t.2.2.2.2.2.2.2),0))
def dE (x:Unit) (t:Q3) (o:Q14):Option Q27:= aj (decide (o.2.1<0)) fun b49=> aj (decide (1048576<o.2.1)) fun b51=> aj (b49||b51) fun b53=> bif b53 then ( some (t,1)) else ( aq (eQ x t) au (t.2.2.2.2.2.2.1.1.1,t.2.2.2.2.2.2.1.1.2.1,t.2.2.2.2.2.2.1.1.2.2.1,t.2.2.2.2.2.2.1.1.2.2.2.1,t.2.2.2.2.2.2.1.1.2.2.2.2,t.2.2.2.2.2.2.1.2.1.1,t.2.2.2.2.2.2.1.2.1.2.1,t.2.2.2.2.2.2.1.2.1.2.2.1,t.2.2.2.2.2.2.1.2.1.2.2.2.1,t.2.2.2.2.2.2.1.2.1.2.2.2.2,t.2.2.2.2.2.2.1.2.2.1,t.2.2.2.2.2.2.1.2.2.2.1,t.2.2.2.2.2.2.1.2.2.2.2.1,t.2.2.2.2.2.2.1.2.2.2.2.2.1,t.2.2.2.2.2.2.1.2.2.2.2.2.2,0))
def mH (m:Int) (k:Int) (seed:Int) (again42:(Q1×Q1×Q1×Int)→Option (Q6×Int)):Q1×Q1×Q1×Int→Option (Q6×Int):=fun ⟨l32,l35,l38,t41⟩=> bif (decide (t41<3)) then ( chk (decide (0≤(IntKind.i64.wrap (Int.tdiv (IntKind.i64.wrap (m+7)) 8))))<| chk (aw (Int.toNat (IntKind.i64.wrap (Int.tdiv (IntKind.i64.wrap (m+7)) 8))) 1)<| bif (t41==0) then ( again42 ((List.replicate (Int.toNat (IntKind.i64.wrap (Int.tdiv (IntKind.i64.wrap (m+7)) 8))) 0),l35,l38,(IntKind.i64.wrap (t41+1)))) else ( bif (t41==1) then ( again42 (l32,(List.replicate (Int.toNat (IntKind.i64.wrap (Int.tdiv (IntKind.i64.wrap (m+7)) 8))) 0),l38,(IntKind.i64.wrap (t41+1)))) else ( bif (t41==2) then ( again42 (l32,l35,(List.replicate (Int.toNat (IntKind.i64.wrap (Int.tdiv (IntKind.i64.wrap (m+7)) 8))) 0),(IntKind.i64.wrap (t41+1)))) else ( none)))) else ( some ((m,k,seed,(l32,l35,l38)),0))
def pg (m:Int) (k:Int) (seed:Int):Option (Q6×Int):= aj (decide (m<1)) fun b12=> aj (decide (4194304<m)) fun b14=> aj (b12||b14) fun b16=> aj (decide (k<1)) fun b18=> aj (b16||b18) fun b20=> aj (decide (16<k)) fun b22=> aj (b20||b22) fun b24=> bif b24 then ( some ((0,0,0,([],[],[])),1)) else ( aq (mH m k seed) au ([],[],[],0))
def dG (_x:Unit) (t:Q3) (o:Q14):Option Q27:= aj (decide (o.2.1<0)) fun b49=> aj (decide (1048576<o.2.1)) fun b51=> aj (b49||b51) fun b53=> bif b53 then ( some (t,1)) else ( (pg o.2.2.2.2.1 o.2.2.2.2.2 o.2.2.2.1).bind fun r57=> some ((t.1,t.2.1,t.2.2.1,t.2.2.2.1,t.2.2.2.2.1,t.2.2.2.2.2.1,t.2.2.2.2.2.2.1,r57.1),r57.2))
def cn (s:Q4) (o:Q14):Option Q27:= (od s).bind fun r29=> aj (!r29) fun b32=> aj (decide (o.1<0)) fun b34=> aj (b32||b34) fun b36=> cf (!b36) default (aC) fun r38=> aj (decide ((List.length r38:Int)≤o.1)) fun b46=> aj (b36||b46) fun b48=> bif b48 then ( some ((0,[],0,((0,[],[]),[]),([],(0,[],[]),[]),([],[]),((0,[],0,0,[]),(0,[],0,0,[]),(0,[],0,0,[])),(0,0,0,([],[],[]))),1)) else ( (aC).bind fun r54=> (idx r54 o.1).bind fun e58=> (cJ s).bind fun r60=> bif (Nat.beq e58 133) then ( (eV () (o.1,r60,o.2.1,((0,[],[]),[]),([],(0,[],[]),[]),([],[]),((0,[],0,0,[]),(0,[],0,0,[]),(0,[],0,0,[])),(0,0,0,([],[],[]))) o).bind fun r65=> bif (r65.2 != 0) then ( some ((0,[],0,((0,[],[]),[]),([],(0,[],[]),[]),([],[]),((0,[],0,0,[]),(0,[],0,0,[]),(0,[],0,0,[])),(0,0,0,([],[],[]))),r65.2)) else ( some (r65.1,0))) else ( bif (Nat.beq e58 134) then ( (dU () (o.1,r60,o.2.1,((0,[],[]),[]),([],(0,[],[]),[]),([],[]),((0,[],0,0,[]),(0,[],0,0,[]),(0,[],0,0,[])),(0,0,0,([],[],[]))) o).bind fun r96=> bif (r96.2 != 0) then ( some ((0,[],0,((0,[],[]),[]),([],(0,[],[]),[]),([],[]),((0,[],0,0,[]),(0,[],0,0,[]),(0,[],0,0,[])),(0,0,0,([],[],[]))),r96.2)) else ( some (r96.1,0))) else ( bif (Nat.beq e58 135) then ( (dZ () (o.1,r60,o.2.1,((0,[],[]),[]),([],(0,[],[]),[]),([],[]),((0,[],0,0,[]),(0,[],0,0,[]),(0,[],0,0,[])),(0,0,0,([],[],[]))) o).bind fun r128=> bif (r128.2 != 0) then ( some ((0,[],0,((0,[],[]),[]),([],(0,[],[]),[]),([],[]),((0,[],0,0,[]),(0,[],0,0,[]),(0,[],0,0,[])),(0,0,0,([],[],[]))),r128.2)) else ( some (r128.1,0))) else ( bif (Nat.beq e58 136) then ( (dE () (o.1,r60,o.2.1,((0,[],[]),[]),([],(0,[],[]),[]),([],[]),((0,[],0,0,[]),(0,[],0,0,[]),(0,[],0,0,[])),(0,0,0,([],[],[]))) o).bind fun r158=> bif (r158.2 != 0) then ( some ((0,[],0,((0,[],[]),[]),([],(0,[],[]),[]),([],[]),((0,[],0,0,[]),(0,[],0,0,[]),(0,[],0,0,[])),(0,0,0,([],[],[]))),r158.2)) else ( some (r158.1,0))) else ( bif (Nat.beq e58 137) then ( (dG () (o.1,r60,o.2.1,((0,[],[]),[]),([],(0,[],[]),[]),([],[]),((0,[],0,0,[]),(0,[],0,0,[]),(0,[],0,0,[])),(0,0,0,([],[],[]))) o).bind fun r186=> bif (r186.2 != 0) then ( some ((0,[],0,((0,[],[]),[]),([],(0,[],[]),[]),([],[]),((0,[],0,0,[]),(0,[],0,0,[]),(0,[],0,0,[])),(0,0,0,([],[],[]))),r186.2)) else ( some (r186.1,0))) else ( none))))))
def ld (f:Q13) (n:Int):Option Bool:= aj (decide (f.1≤n)) fun b5=> aj (decide (n≤f.2)) fun b7=> aj (b5&&b7) fun b9=> some b9
def lG (s:Q4) (v3:Q1) (again6:Int→Option Int) (t5:Int):Option Int:= bif (decide (t5<(List.length v3:Int))) then ( (idx v3 t5).bind fun e8=> (idx s t5).bind fun e10=> (ld e10 e8).bind fun r12=> bif (!r12) then ( some 5) else ( again6 (IntKind.i64.wrap (t5+1)))) else ( some 0)
def bV (s:Q4) (v3:Q1):Option Int:= bif ((List.length v3:Int) != (List.length s:Int)) then ( some 1) else ( aq (lG s v3) au 0)
def aV (t:Q3):Option Nat:= (aC).bind fun r7=> (idx r7 t.1).bind fun e12=> some e12
def mG (b:Q1):Option Q1:= chk (aw (List.length b) 1)<| some b
def EB (w1:Q12):Option Q12:= (mG w1.1).bind fun r5=> some (r5,w1.2)
def tE (N:Int) (l11:Q1):Option Q12:= some (l11,(IntKind.i64.wrap (N+1)))
def oL (one:Bool) (N:Int) (c7:Q1):Option Q12:= aj (fun (s14:Q1)=>tE N s14) fun kk13=> bif one then ( (idx c7 (IntKind.i64.wrap (Int.tdiv N 8))).bind fun e18=> chk (decide (0≤(Int.tmod N 8)))<| (idx c7 (IntKind.i64.wrap (Int.tdiv N 8))).bind fun _e21=> kk13 (List.set c7 (Int.toNat (IntKind.i64.wrap (Int.tdiv N 8))) (orI .u8 e18 (ar .u8 128 (Int.tmod N 8))))) else ( kk13 c7)
def nX (one:Bool) (B:Q1) (N:Int):Option Q12:= aj (fun (s25:Q1)=>oL one N s25) fun kk24=> bif ((Int.tmod N 8)==0) then ( chk (aw (List.length B+List.length ([0]:List Int)) 1)<| kk24 (B++([0]:List Int))) else ( kk24 B)
def uk (n:Int) (again35:(Q1×Int×Int)→Option (Q12×Int)):Q1×Int×Int→Option (Q12×Int):=fun ⟨c30,c33,i34⟩=> bif (decide (0≤i34)) then ( chk (decide (0≤i34))<| (nX ((gC .u64 (ar .u64 n i34) 1)==1) c30 c33).bind fun r40=> again35 (r40.1,r40.2,(IntKind.i64.wrap (i34-1)))) else ( some ((c30,c33),0))
def xt (w1:Q12) (n:Int) (wide:Int):Option (Q12×Int):= aj (decide (wide<0)) fun b10=> aj (decide (64<wide)) fun b12=> aj (b10||b12) fun b14=> bif b14 then ( some (w1,1)) else ( (qq n).bind fun r18=> bif (decide (wide<r18)) then ( some (w1,5)) else ( (EB w1).bind fun r23=> aq (uk n) au (r23.1,r23.2,(IntKind.i64.wrap (wide-1)))))
def nb (s:Q4) (v3:Q1) (r14:Q1) (again24:(Q1×Int×Int)→Option Q12):Q1×Int×Int→Option Q12:=fun ⟨c20,c22,t23⟩=> bif (decide (t23<(List.length r14:Int))) then ( (idx r14 t23).bind fun e26=> (idx v3 t23).bind fun e30=> (idx s t23).bind fun e32=> (xt (c20,c22) (IntKind.u64.wrap (IntKind.i64.wrap (e30-e32.1))) e26).bind fun r34=> again24 (r34.1.1,r34.1.2,(IntKind.i64.wrap (t23+1)))) else ( (jW s).bind fun r39=> chk (decide (0≤r39))<| chk (aw (Int.toNat r39) 1)<| some ((oB (List.replicate (Int.toNat r39) 0) c20),0))
def fW (s:Q4) (v3:Q1):Option Q12:= (bV s v3).bind fun r8=> bif (r8 != 0) then ( some ([],r8)) else ( (iY s).bind fun r14=> aq (nb s v3 r14) au ([],0,0))
def bX (t:Q3) (v39:Q1):Option Q1:= (fW t.2.1 v39).bind fun r7=> some r7.1
def ur (x:Int):Option Int:= some (gM .u64 x (ar .u64 x 29))
def ue (x:Int):Option Int:= some (IntKind.u64.wrap (x*13787848793156543929))
def u9 (x:Int):Option Int:= some (gM .u64 x (ar .u64 x 32))
def uH (b:Q1) (again9:Q13→Option Int):Int×Int→Option Int:=fun ⟨c7,t8⟩=> bif (decide (t8<(List.length b:Int))) then ( (idx b t8).bind fun e11=> again9 ((IntKind.u64.wrap ((gM .u64 c7 (IntKind.u64.wrap e11))*1099511628211)),(IntKind.i64.wrap (t8+1)))) else ( (ur c7).bind fun r17=> (ue r17).bind fun r20=> (u9 r20).bind fun r23=> some r23)
def pd (b:Q1) (seed:Int):Option Int:= aq (uH b) au ((gM .u64 seed 11400714819323198485),0)
def nE (h:Int) (n:Int):Option Int:= bif (decide (n<1)) then ( some 0) else ( chk ((IntKind.u64.wrap n) != 0)<| some (IntKind.i64.wrap (Int.tmod h (IntKind.u64.wrap n))))
def mF (a:Q1) (b:Q1):Option Bool:= some ((strOf a)==(strOf b))
def dp (v1:Q5) (key:Q1) (again15:Int→Option Int) (at14:Int):Option Int:= (idx v1.2.2 at14).bind fun e16=> aj (e16==0) fun b18=> cf (!b18) [] (idx v1.2.1 (IntKind.i64.wrap (e16-1))) fun e20=> cf (!b18) default (mF e20 key) fun r26=> aj (b18||r26) fun b32=> bif b32 then ( some at14) else ( chk ((List.length v1.2.2:Int) != 0)<| again15 (Int.tmod (IntKind.i64.wrap (at14+1)) (List.length v1.2.2:Int)))
def da (v1:Q5) (key:Q1):Option Int:= (pd key 0).bind fun r7=> (nE r7 (List.length v1.2.2:Int)).bind fun r10=> aq (dp v1 key) au r10
def oJ (v1:Q5) (key:Q1):Option Q23:= bif ((List.length v1.2.2:Int)==0) then ( some (0,false)) else ( (da v1 key).bind fun r9=> (idx v1.2.2 r9).bind fun e12=> some ((max (IntKind.i64.wrap (e12-1)) 0),(decide (0<e12))))
def bS (t:Q5) (key:Q1):Option Q23:= (oJ t key).bind fun r6=> some (r6.1,r6.2)
def np (v1:Q5) (key:Q1) (again15:Int→Option Int) (at14:Int):Option Int:= (idx v1.2.2 at14).bind fun e16=> aj (e16==0) fun b18=> cf (!b18) [] (idx v1.2.1 (IntKind.i64.wrap (e16-1))) fun e20=> cf (!b18) default (mF e20 key) fun r26=> aj (b18||r26) fun b32=> bif b32 then ( some at14) else ( chk ((List.length v1.2.2:Int) != 0)<| again15 (Int.tmod (IntKind.i64.wrap (at14+1)) (List.length v1.2.2:Int)))
def iR (v1:Q5) (key:Q1):Option Int:= (pd key 0).bind fun r7=> (nE r7 (List.length v1.2.2:Int)).bind fun r10=> aq (np v1 key) au r10
def il (Cap:Int) (Keys:(List Q1)) (again15:((List Q1)×Q1×Int)→Option ((List Q1)×Q1)):(List Q1)×Q1×Int→Option ((List Q1)×Q1):=fun ⟨l12,l13,t14⟩=> bif (decide (t14<(List.length Keys:Int))) then ( (idx l12 t14).bind fun e17=> (iR (Cap,l12,l13) e17).bind fun r25=> (idx ((Cap,l12,l13).2.2) r25).bind fun _e28=> again15 ((Cap,l12,l13).2.1,(List.set ((Cap,l12,l13).2.2) (Int.toNat r25) (IntKind.i64.wrap (t14+1))),(IntKind.i64.wrap (t14+1)))) else ( some (l12,l13))
def kC (n:Int) (Cap:Int) (Keys:(List Q1)) (_Slot:Q1):Option ((List Q1)×Q1):= chk (decide (0≤n))<| chk (aw (Int.toNat n) 8)<| aq (il Cap Keys) au (Keys,(List.replicate (Int.toNat n) 0),0)
def dw (s:Q1):Option Q1:= chk (aw (List.length s) 8)<| some s
def tK (t:Q5) (l41:(List Q1)) (c42:Q1):Option (Q5×Int×Bool×Int):= some ((t.1,l41,c42),(List.length t.2.1:Int),true,0)
def bk (t:Q5) (key:Q1):Option (Q5×Int×Bool×Int):= (bS t key).bind fun r14=> bif r14.2 then ( some (t,r14.1,false,0)) else ( bif (decide (t.1≤(List.length t.2.1:Int))) then ( some (t,0,false,7)) else ( chk (jj 0 (List.length t.2.1:Int) (List.length t.2.1:Int) (List.length t.2.1)&&((List.length t.2.1:Int)==(List.length t.2.1:Int)))<| (mG key).bind fun r28=> chk (aw (List.length (bd t.2.1 0 (List.length t.2.1:Int))+List.length ([r28]:List Q1)) 24)<| aj (fun (s46:(List Q1)×Q1)=>tK t s46.1 s46.2) fun kk45=> bif (decide ((max (List.length t.2.2:Int) 8)<(IntKind.i64.wrap (2*(IntKind.i64.wrap ((List.length t.2.1:Int)+1)))))) then ( (kC (IntKind.i64.wrap (2*(max (List.length t.2.2:Int) 8))) t.1 ((bd t.2.1 0 (List.length t.2.1:Int))++([r28]:List Q1)) t.2.2).bind fun r48=> kk45 (r48.1,r48.2)) else ( (dw t.2.2).bind fun r52=> (da t key).bind fun r60=> (idx r52 r60).bind fun _e63=> kk45 (((bd t.2.1 0 (List.length t.2.1:Int))++([r28]:List Q1)),(List.set r52 (Int.toNat r60) (IntKind.i64.wrap ((List.length t.2.1:Int)+1)))))))
def pK (s:(Q5×Q1)) (key:Q1):Option ((Q5×Q1)×Bool×Int):= (bk s.1 key).bind fun r15=> bif (!r15.2.2.1) then ( some (s,false,r15.2.2.2)) else ( chk (jj 0 (List.length s.2:Int) (List.length s.2:Int) (List.length s.2)&&((List.length s.2:Int)==(List.length s.2:Int)))<| chk (aw (List.length (bd s.2 0 (List.length s.2:Int))+List.length ([0]:List Int)) 1)<| some ((r15.1,((bd s.2 0 (List.length s.2:Int))++([0]:List Int))),true,0))
def fM (_x:Unit) (t:Q3) (v39:Q1):Option Q25:= (bX t v39).bind fun r52=> (pK t.2.2.2.1 r52).bind fun r56=> some ((t.1,t.2.1,t.2.2.1,r56.1,t.2.2.2.2.1,t.2.2.2.2.2.1,t.2.2.2.2.2.2.1,t.2.2.2.2.2.2.2),r56.2.1,r56.2.2)
def jm (s:Q4) (v3:Q1):Option (Q4×Q1):= some (s,v3)
def lN (t10:Int) (again11:Q12→Option Q1) (e13:Int) (again20:Q12→Option Q1):Q1×Int→Option Q1:=fun ⟨row16,t19⟩=> bif (decide (t19<4)) then ( chk (decide (0≤(IntKind.i64.wrap (8*t19))))<| chk (aw (List.length row16+List.length ([(IntKind.u8.wrap (ar .i64 e13 (IntKind.i64.wrap (8*t19))))]:List Int)) 1)<| again20 ((row16++([(IntKind.u8.wrap (ar .i64 e13 (IntKind.i64.wrap (8*t19))))]:List Int)),(IntKind.i64.wrap (t19+1)))) else ( again11 (row16,(IntKind.i64.wrap (t10+1))))
def ph (places:Q1) (again11:Q12→Option Q1):Q1×Int→Option Q1:=fun ⟨row7,t10⟩=> bif (decide (t10<(List.length places:Int))) then ( (idx places t10).bind fun e13=> aq (lN t10 again11 e13) au (row7,0)) else ( some row7)
def kO (row:Q1) (places:Q1):Option Q1:= aq (ph places) au (row,0)
def jZ (c:Q11) (_s:Q4) (r9:(Q4×Q1)) (again24:(Int×Int×Q1)→Option Int):Int×Int×Q1→Option Int:=fun ⟨s19,c20,l21⟩=> bif (decide ((IntKind.i64.wrap (s19*2))<(List.length r9.1:Int))) then ( chk (fX (IntKind.i64.wrap (s19*2)) (min (List.length r9.1:Int) (IntKind.i64.wrap ((IntKind.i64.wrap (s19+1))*2))) (List.length r9.1))<| chk (fX (IntKind.i64.wrap (s19*2)) (min (List.length r9.1:Int) (IntKind.i64.wrap ((IntKind.i64.wrap (s19+1))*2))) (List.length r9.2))<| (fW (bd r9.1 (IntKind.i64.wrap (s19*2)) (min (List.length r9.1:Int) (IntKind.i64.wrap ((IntKind.i64.wrap (s19+1))*2)))) (bd r9.2 (IntKind.i64.wrap (s19*2)) (min (List.length r9.1:Int) (IntKind.i64.wrap ((IntKind.i64.wrap (s19+1))*2))))).bind fun r36=> (idx c.1 s19).bind fun e41=> (bS e41 r36.1).bind fun r49=> bif (!r49.2) then ( bif (!false) then ( some (-1)) else ( again24 ((IntKind.i64.wrap (s19+1)),(-1),l21))) else ( (kO l21 ([r49.1]:List Int)).bind fun r57=> bif (!true) then ( (bS c.2.1 r57).bind fun r64=> bif (!r64.2) then ( some (-1)) else ( some r64.1)) else ( again24 ((IntKind.i64.wrap (s19+1)),c20,r57)))) else ( (bS c.2.1 l21).bind fun r70=> bif (!r70.2) then ( some (-1)) else ( some r70.1))
def jd (c:Q11) (s:Q4) (v11:Q1):Option Int:= (jm s v11).bind fun r9=> aq (jZ c s r9) au (0,0,[])
def iQ (t:Q5):Option Int:= some (List.length t.2.1:Int)
def nQ (c:Q11):Option Int:= (iQ c.2.1).bind fun r5=> some r5
def bQ (s:(List Q5)):Option (List Q5):= chk (aw (List.length s) 56)<| some s
def fA (c:Q11) (_s:Q4) (r42:(Q4×Q1)) (again55:(Int×(List Q5)×Q1)→Option Q28):Int×(List Q5)×Q1→Option Q28:=fun ⟨s50,l51,l52⟩=> bif (decide ((IntKind.i64.wrap (s50*2))<(List.length r42.1:Int))) then ( chk (fX (IntKind.i64.wrap (s50*2)) (min (List.length r42.1:Int) (IntKind.i64.wrap ((IntKind.i64.wrap (s50+1))*2))) (List.length r42.1))<| chk (fX (IntKind.i64.wrap (s50*2)) (min (List.length r42.1:Int) (IntKind.i64.wrap ((IntKind.i64.wrap (s50+1))*2))) (List.length r42.2))<| (fW (bd r42.1 (IntKind.i64.wrap (s50*2)) (min (List.length r42.1:Int) (IntKind.i64.wrap ((IntKind.i64.wrap (s50+1))*2)))) (bd r42.2 (IntKind.i64.wrap (s50*2)) (min (List.length r42.1:Int) (IntKind.i64.wrap ((IntKind.i64.wrap (s50+1))*2))))).bind fun r67=> (idx l51 s50).bind fun e72=> (bk e72 r67.1).bind fun r80=> (kO l52 ([r80.2.1]:List Int)).bind fun r92=> (idx l51 s50).bind fun _e97=> bif (!true) then ( (bk c.2.1 r92).bind fun r108=> chk (jj 0 (List.length c.2.2:Int) (List.length c.2.2:Int) (List.length c.2.2)&&((List.length c.2.2:Int)==(List.length c.2.2:Int)))<| chk (aw (List.length (bd c.2.2 0 (List.length c.2.2:Int))+List.length ([0]:List Int)) 1)<| some (((List.set l51 (Int.toNat s50) r80.1),r108.1,((bd c.2.2 0 (List.length c.2.2:Int))++([0]:List Int))),true,0)) else ( again55 ((IntKind.i64.wrap (s50+1)),(List.set l51 (Int.toNat s50) r80.1),r92))) else ( (bk c.2.1 l52).bind fun r127=> chk (jj 0 (List.length c.2.2:Int) (List.length c.2.2:Int) (List.length c.2.2)&&((List.length c.2.2:Int)==(List.length c.2.2:Int)))<| chk (aw (List.length (bd c.2.2 0 (List.length c.2.2:Int))+List.length ([0]:List Int)) 1)<| some ((l51,r127.1,((bd c.2.2 0 (List.length c.2.2:Int))++([0]:List Int))),true,0))
def pZ (c:Q11) (s:Q4) (v11:Q1):Option Q28:= (bV s v11).bind fun r17=> bif (r17 != 0) then ( some (c,false,r17)) else ( (jd c s v11).bind fun r22=> bif (decide (0≤r22)) then ( some (c,false,0)) else ( (nQ c).bind fun r29=> bif (decide (c.2.1.1≤r29)) then ( some (c,false,7)) else ( (bQ c.1).bind fun r34=> (jm s v11).bind fun r42=> aq (fA c s r42) au (0,r34,[]))))
def fj (_x:Unit) (t:Q3) (v39:Q1):Option Q25:= (pZ t.2.2.2.2.1 t.2.1 v39).bind fun r50=> some ((t.1,t.2.1,t.2.2.1,t.2.2.2.1,r50.1,t.2.2.2.2.2.1,t.2.2.2.2.2.2.1,t.2.2.2.2.2.2.2),r50.2.1,r50.2.2)
def nV (s:Q4) (v3:Q1) (again12:Q12→Option Q1):Q1×Int→Option Q1:=fun ⟨out8,t11⟩=> bif (decide (t11<(List.length v3:Int))) then ( (idx v3 t11).bind fun e14=> (idx s t11).bind fun e16=> chk (aw (List.length out8+List.length ([(IntKind.u32.wrap (IntKind.i64.wrap (e14-e16.1)))]:List Int)) 4)<| again12 ((out8++([(IntKind.u32.wrap (IntKind.i64.wrap (e14-e16.1)))]:List Int)),(IntKind.i64.wrap (t11+1)))) else ( some out8)
def lI (s:Q4) (v3:Q1):Option Q1:= aq (nV s v3) au ([],0)
def JW (a:Int) (b:Int) (again17:(Int×Int×Int×Int×Int×Int×Int×Int×Int)→Option Q19):Int×Int×Int×Int×Int×Int×Int×Int×Int→Option Q19:=fun ⟨c8,c9,c10,c11,c12,c13,c14,c15,t16⟩=> bif (decide (t16<4)) then ( chk (decide (0≤(IntKind.i64.wrap (8*t16))))<| chk (decide (0≤(IntKind.i64.wrap (8*t16))))<| bif (t16==0) then ( bif ((IntKind.i64.wrap (4+t16))==0) then ( again17 ((IntKind.u8.wrap (ar .u32 b (IntKind.i64.wrap (8*t16)))),c9,c10,c11,c12,c13,c14,c15,(IntKind.i64.wrap (t16+1)))) else ( bif ((IntKind.i64.wrap (4+t16))==1) then ( again17 ((IntKind.u8.wrap (ar .u32 a (IntKind.i64.wrap (8*t16)))),(IntKind.u8.wrap (ar .u32 b (IntKind.i64.wrap (8*t16)))),c10,c11,c12,c13,c14,c15,(IntKind.i64.wrap (t16+1)))) else ( bif ((IntKind.i64.wrap (4+t16))==2) then ( again17 ((IntKind.u8.wrap (ar .u32 a (IntKind.i64.wrap (8*t16)))),c9,(IntKind.u8.wrap (ar .u32 b (IntKind.i64.wrap (8*t16)))),c11,c12,c13,c14,c15,(IntKind.i64.wrap (t16+1)))) else ( bif ((IntKind.i64.wrap (4+t16))==3) then ( again17 ((IntKind.u8.wrap (ar .u32 a (IntKind.i64.wrap (8*t16)))),c9,c10,(IntKind.u8.wrap (ar .u32 b (IntKind.i64.wrap (8*t16)))),c12,c13,c14,c15,(IntKind.i64.wrap (t16+1)))) else ( bif ((IntKind.i64.wrap (4+t16))==4) then ( again17 ((IntKind.u8.wrap (ar .u32 a (IntKind.i64.wrap (8*t16)))),c9,c10,c11,(IntKind.u8.wrap (ar .u32 b (IntKind.i64.wrap (8*t16)))),c13,c14,c15,(IntKind.i64.wrap (t16+1)))) else ( bif ((IntKind.i64.wrap (4+t16))==5) then ( again17 ((IntKind.u8.wrap (ar .u32 a (IntKind.i64.wrap (8*t16)))),c9,c10,c11,c12,(IntKind.u8.wrap (ar .u32 b (IntKind.i64.wrap (8*t16)))),c14,c15,(IntKind.i64.wrap (t16+1)))) else ( bif ((IntKind.i64.wrap (4+t16))==6) then ( again17 ((IntKind.u8.wrap (ar .u32 a (IntKind.i64.wrap (8*t16)))),c9,c10,c11,c12,c13,(IntKind.u8.wrap (ar .u32 b (IntKind.i64.wrap (8*t16)))),c15,(IntKind.i64.wrap (t16+1)))) else ( bif ((IntKind.i64.wrap (4+t16))==7) then ( again17 ((IntKind.u8.wrap (ar .u32 a (IntKind.i64.wrap (8*t16)))),c9,c10,c11,c12,c13,c14,(IntKind.u8.wrap (ar .u32 b (IntKind.i64.wrap (8*t16)))),(IntKind.i64.wrap (t16+1)))) else ( none))))))))) else ( bif (t16==1) then ( bif ((IntKind.i64.wrap (4+t16))==0) then ( again17 ((IntKind.u8.wrap (ar .u32 b (IntKind.i64.wrap (8*t16)))),(IntKind.u8.wrap (ar .u32 a (IntKind.i64.wrap (8*t16)))),c10,c11,c12,c13,c14,c15,(IntKind.i64.wrap (t16+1)))) else ( bif ((IntKind.i64.wrap (4+t16))==1) then ( again17 (c8,(IntKind.u8.wrap (ar .u32 b (IntKind.i64.wrap (8*t16)))),c10,c11,c12,c13,c14,c15,(IntKind.i64.wrap (t16+1)))) else ( bif ((IntKind.i64.wrap (4+t16))==2) then ( again17 (c8,(IntKind.u8.wrap (ar .u32 a (IntKind.i64.wrap (8*t16)))),(IntKind.u8.wrap (ar .u32 b (IntKind.i64.wrap (8*t16)))),c11,c12,c13,c14,c15,(IntKind.i64.wrap (t16+1)))) else ( bif ((IntKind.i64.wrap (4+t16))==3) then ( again17 (c8,(IntKind.u8.wrap (ar .u32 a (IntKind.i64.wrap (8*t16)))),c10,(IntKind.u8.wrap (ar .u32 b (IntKind.i64.wrap (8*t16)))),c12,c13,c14,c15,(IntKind.i64.wrap (t16+1)))) else ( bif ((IntKind.i64.wrap (4+t16))==4) then ( again17 (c8,(IntKind.u8.wrap (ar .u32 a (IntKind.i64.wrap (8*t16)))),c10,c11,(IntKind.u8.wrap (ar .u32 b (IntKind.i64.wrap (8*t16)))),c13,c14,c15,(IntKind.i64.wrap (t16+1)))) else ( bif ((IntKind.i64.wrap (4+t16))==5) then ( again17 (c8,(IntKind.u8.wrap (ar .u32 a (IntKind.i64.wrap (8*t16)))),c10,c11,c12,(IntKind.u8.wrap (ar .u32 b (IntKind.i64.wrap (8*t16)))),c14,c15,(IntKind.i64.wrap (t16+1)))) else ( bif ((IntKind.i64.wrap (4+t16))==6) then ( again17 (c8,(IntKind.u8.wrap (ar .u32 a (IntKind.i64.wrap (8*t16)))),c10,c11,c12,c13,(IntKind.u8.wrap (ar .u32 b (IntKind.i64.wrap (8*t16)))),c15,(IntKind.i64.wrap (t16+1)))) else ( bif ((IntKind.i64.wrap (4+t16))==7) then ( again17 (c8,(IntKind.u8.wrap (ar .u32 a (IntKind.i64.wrap (8*t16)))),c10,c11,c12,c13,c14,(IntKind.u8.wrap (ar .u32 b (IntKind.i64.wrap (8*t16)))),(IntKind.i64.wrap (t16+1)))) else ( none))))))))) else ( bif (t16==2) then ( bif ((IntKind.i64.wrap (4+t16))==0) then ( again17 ((IntKind.u8.wrap (ar .u32 b (IntKind.i64.wrap (8*t16)))),c9,(IntKind.u8.wrap (ar .u32 a (IntKind.i64.wrap (8*t16)))),c11,c12,c13,c14,c15,(IntKind.i64.wrap (t16+1)))) else ( bif ((IntKind.i64.wrap (4+t16))==1) then ( again17 (c8,(IntKind.u8.wrap (ar .u32 b (IntKind.i64.wrap (8*t16)))),(IntKind.u8.wrap (ar .u32 a (IntKind.i64.wrap (8*t16)))),c11,c12,c13,c14,c15,(IntKind.i64.wrap (t16+1)))) else ( bif ((IntKind.i64.wrap (4+t16))==2) then ( again17 (c8,c9,(IntKind.u8.wrap (ar .u32 b (IntKind.i64.wrap (8*t16)))),c11,c12,c13,c14,c15,(IntKind.i64.wrap (t16+1)))) else ( bif ((IntKind.i64.wrap (4+t16))==3) then ( again17 (c8,c9,(IntKind.u8.wrap (ar .u32 a (IntKind.i64.wrap (8*t16)))),(IntKind.u8.wrap (ar .u32 b (IntKind.i64.wrap (8*t16)))),c12,c13,c14,c15,(IntKind.i64.wrap (t16+1)))) else ( bif ((IntKind.i64.wrap (4+t16))==4) then ( again17 (c8,c9,(IntKind.u8.wrap (ar .u32 a (IntKind.i64.wrap (8*t16)))),c11,(IntKind.u8.wrap (ar .u32 b (IntKind.i64.wrap (8*t16)))),c13,c14,c15,(IntKind.i64.wrap (t16+1)))) else ( bif ((IntKind.i64.wrap (4+t16))==5) then ( again17 (c8,c9,(IntKind.u8.wrap (ar .u32 a (IntKind.i64.wrap (8*t16)))),c11,c12,(IntKind.u8.wrap (ar .u32 b (IntKind.i64.wrap (8*t16)))),c14,c15,(IntKind.i64.wrap (t16+1)))) else ( bif ((IntKind.i64.wrap (4+t16))==6) then ( again17 (c8,c9,(IntKind.u8.wrap (ar .u32 a (IntKind.i64.wrap (8*t16)))),c11,c12,c13,(IntKind.u8.wrap (ar .u32 b (IntKind.i64.wrap (8*t16)))),c15,(IntKind.i64.wrap (t16+1)))) else ( bif ((IntKind.i64.wrap (4+t16))==7) then ( again17 (c8,c9,(IntKind.u8.wrap (ar .u32 a (IntKind.i64.wrap (8*t16)))),c11,c12,c13,c14,(IntKind.u8.wrap (ar .u32 b (IntKind.i64.wrap (8*t16)))),(IntKind.i64.wrap (t16+1)))) else ( none))))))))) else ( bif (t16==3) then ( bif ((IntKind.i64.wrap (4+t16))==0) then ( again17 ((IntKind.u8.wrap (ar .u32 b (IntKind.i64.wrap (8*t16)))),c9,c10,(IntKind.u8.wrap (ar .u32 a (IntKind.i64.wrap (8*t16)))),c12,c13,c14,c15,(IntKind.i64.wrap (t16+1)))) else ( bif ((IntKind.i64.wrap (4+t16))==1) then ( again17 (c8,(IntKind.u8.wrap (ar .u32 b (IntKind.i64.wrap (8*t16)))),c10,(IntKind.u8.wrap (ar .u32 a (IntKind.i64.wrap (8*t16)))),c12,c13,c14,c15,(IntKind.i64.wrap (t16+1)))) else ( bif ((IntKind.i64.wrap (4+t16))==2) then ( again17 (c8,c9,(IntKind.u8.wrap (ar .u32 b (IntKind.i64.wrap (8*t16)))),(IntKind.u8.wrap (ar .u32 a (IntKind.i64.wrap (8*t16)))),c12,c13,c14,c15,(IntKind.i64.wrap (t16+1)))) else ( bif ((IntKind.i64.wrap (4+t16))==3) then ( again17 (c8,c9,c10,(IntKind.u8.wrap (ar .u32 b (IntKind.i64.wrap (8*t16)))),c12,c13,c14,c15,(IntKind.i64.wrap (t16+1)))) else ( bif ((IntKind.i64.wrap (4+t16))==4) then ( again17 (c8,c9,c10,(IntKind.u8.wrap (ar .u32 a (IntKind.i64.wrap (8*t16)))),(IntKind.u8.wrap (ar .u32 b (IntKind.i64.wrap (8*t16)))),c13,c14,c15,(IntKind.i64.wrap (t16+1)))) else ( bif ((IntKind.i64.wrap (4+t16))==5) then ( again17 (c8,c9,c10,(IntKind.u8.wrap (ar .u32 a (IntKind.i64.wrap (8*t16)))),c12,(IntKind.u8.wrap (ar .u32 b (IntKind.i64.wrap (8*t16)))),c14,c15,(IntKind.i64.wrap (t16+1)))) else ( bif ((IntKind.i64.wrap (4+t16))==6) then ( again17 (c8,c9,c10,(IntKind.u8.wrap (ar .u32 a (IntKind.i64.wrap (8*t16)))),c12,c13,(IntKind.u8.wrap (ar .u32 b (IntKind.i64.wrap (8*t16)))),c15,(IntKind.i64.wrap (t16+1)))) else ( bif ((IntKind.i64.wrap (4+t16))==7) then ( again17 (c8,c9,c10,(IntKind.u8.wrap (ar .u32 a (IntKind.i64.wrap (8*t16)))),c12,c13,c14,(IntKind.u8.wrap (ar .u32 b (IntKind.i64.wrap (8*t16)))),(IntKind.i64.wrap (t16+1)))) else ( none))))))))) else ( bif (t16==4) then ( bif ((IntKind.i64.wrap (4+t16))==0) then ( again17 ((IntKind.u8.wrap (ar .u32 b (IntKind.i64.wrap (8*t16)))),c9,c10,c11,(IntKind.u8.wrap (ar .u32 a (IntKind.i64.wrap (8*t16)))),c13,c14,c15,(IntKind.i64.wrap (t16+1)))) else ( bif ((IntKind.i64.wrap (4+t16))==1) then ( again17 (c8,(IntKind.u8.wrap (ar .u32 b (IntKind.i64.wrap (8*t16)))),c10,c11,(IntKind.u8.wrap (ar .u32 a (IntKind.i64.wrap (8*t16)))),c13,c14,c15,(IntKind.i64.wrap (t16+1)))) else ( bif ((IntKind.i64.wrap (4+t16))==2) then ( again17 (c8,c9,(IntKind.u8.wrap (ar .u32 b (IntKind.i64.wrap (8*t16)))),c11,(IntKind.u8.wrap (ar .u32 a (IntKind.i64.wrap (8*t16)))),c13,c14,c15,(IntKind.i64.wrap (t16+1)))) else ( bif ((IntKind.i64.wrap (4+t16))==3) then ( again17 (c8,c9,c10,(IntKind.u8.wrap (ar .u32 b (IntKind.i64.wrap (8*t16)))),(IntKind.u8.wrap (ar .u32 a (IntKind.i64.wrap (8*t16)))),c13,c14,c15,(IntKind.i64.wrap (t16+1)))) else ( bif ((IntKind.i64.wrap (4+t16))==4) then ( again17 (c8,c9,c10,c11,(IntKind.u8.wrap (ar .u32 b (IntKind.i64.wrap (8*t16)))),c13,c14,c15,(IntKind.i64.wrap (t16+1)))) else ( bif ((IntKind.i64.wrap (4+t16))==5) then ( again17 (c8,c9,c10,c11,(IntKind.u8.wrap (ar .u32 a (IntKind.i64.wrap (8*t16)))),(IntKind.u8.wrap (ar .u32 b (IntKind.i64.wrap (8*t16)))),c14,c15,(IntKind.i64.wrap (t16+1)))) else ( bif ((IntKind.i64.wrap (4+t16))==6) then ( again17 (c8,c9,c10,c11,(IntKind.u8.wrap (ar .u32 a (IntKind.i64.wrap (8*t16)))),c13,(IntKind.u8.wrap (ar .u32 b (IntKind.i64.wrap (8*t16)))),c15,(IntKind.i64.wrap (t16+1)))) else ( bif ((IntKind.i64.wrap (4+t16))==7) then ( again17 (c8,c9,c10,c11,(IntKind.u8.wrap (ar .u32 a (IntKind.i64.wrap (8*t16)))),c13,c14,(IntKind.u8.wrap (ar .u32 b (IntKind.i64.wrap (8*t16)))),(IntKind.i64.wrap (t16+1)))) else ( none))))))))) else ( bif (t16==5) then ( bif ((IntKind.i64.wrap (4+t16))==0) then ( again17 ((IntKind.u8.wrap (ar .u32 b (IntKind.i64.wrap (8*t16)))),c9,c10,c11,c12,(IntKind.u8.wrap (ar .u32 a (IntKind.i64.wrap (8*t16)))),c14,c15,(IntKind.i64.wrap (t16+1)))) else ( bif ((IntKind.i64.wrap (4+t16))==1) then ( again17 (c8,(IntKind.u8.wrap (ar .u32 b (IntKind.i64.wrap (8*t16)))),c10,c11,c12,(IntKind.u8.wrap (ar .u32 a (IntKind.i64.wrap (8*t16)))),c14,c15,(IntKind.i64.wrap (t16+1)))) else ( bif ((IntKind.i64.wrap (4+t16))==2) then ( again17 (c8,c9,(IntKind.u8.wrap (ar .u32 b (IntKind.i64.wrap (8*t16)))),c11,c12,(IntKind.u8.wrap (ar .u32 a (IntKind.i64.wrap (8*t16)))),c14,c15,(IntKind.i64.wrap (t16+1)))) else ( bif ((IntKind.i64.wrap (4+t16))==3) then ( again17 (c8,c9,c10,(IntKind.u8.wrap (ar .u32 b (IntKind.i64.wrap (8*t16)))),c12,(IntKind.u8.wrap (ar .u32 a (IntKind.i64.wrap (8*t16)))),c14,c15,(IntKind.i64.wrap (t16+1)))) else ( bif ((IntKind.i64.wrap (4+t16))==4) then ( again17 (c8,c9,c10,c11,(IntKind.u8.wrap (ar .u32 b (IntKind.i64.wrap (8*t16)))),(IntKind.u8.wrap (ar .u32 a (IntKind.i64.wrap (8*t16)))),c14,c15,(IntKind.i64.wrap (t16+1)))) else ( bif ((IntKind.i64.wrap (4+t16))==5) then ( again17 (c8,c9,c10,c11,c12,(IntKind.u8.wrap (ar .u32 b (IntKind.i64.wrap (8*t16)))),c14,c15,(IntKind.i64.wrap (t16+1)))) else ( bif ((IntKind.i64.wrap (4+t16))==6) then ( again17 (c8,c9,c10,c11,c12,(IntKind.u8.wrap (ar .u32 a (IntKind.i64.wrap (8*t16)))),(IntKind.u8.wrap (ar .u32 b (IntKind.i64.wrap (8*t16)))),c15,(IntKind.i64.wrap (t16+1)))) else ( bif ((IntKind.i64.wrap (4+t16))==7) then ( again17 (c8,c9,c10,c11,c12,(IntKind.u8.wrap (ar .u32 a (IntKind.i64.wrap (8*t16)))),c14,(IntKind.u8.wrap (ar .u32 b (IntKind.i64.wrap (8*t16)))),(IntKind.i64.wrap (t16+1)))) else ( none))))))))) else ( bif (t16==6) then ( bif ((IntKind.i64.wrap (4+t16))==0) then ( again17 ((IntKind.u8.wrap (ar .u32 b (IntKind.i64.wrap (8*t16)))),c9,c10,c11,c12,c13,(IntKind.u8.wrap (ar .u32 a (IntKind.i64.wrap (8*t16)))),c15,(IntKind.i64.wrap (t16+1)))) else ( bif ((IntKind.i64.wrap (4+t16))==1) then ( again17 (c8,(IntKind.u8.wrap (ar .u32 b (IntKind.i64.wrap (8*t16)))),c10,c11,c12,c13,(IntKind.u8.wrap (ar .u32 a (IntKind.i64.wrap (8*t16)))),c15,(IntKind.i64.wrap (t16+1)))) else ( bif ((IntKind.i64.wrap (4+t16))==2) then ( again17 (c8,c9,(IntKind.u8.wrap (ar .u32 b (IntKind.i64.wrap (8*t16)))),c11,c12,c13,(IntKind.u8.wrap (ar .u32 a (IntKind.i64.wrap (8*t16)))),c15,(IntKind.i64.wrap (t16+1)))) else ( bif ((IntKind.i64.wrap (4+t16))==3) then ( again17 (c8,c9,c10,(IntKind.u8.wrap (ar .u32 b (IntKind.i64.wrap (8*t16)))),c12,c13,(IntKind.u8.wrap (ar .u32 a (IntKind.i64.wrap (8*t16)))),c15,(IntKind.i64.wrap (t16+1)))) else ( bif ((IntKind.i64.wrap (4+t16))==4) then ( again17 (c8,c9,c10,c11,(IntKind.u8.wrap (ar .u32 b (IntKind.i64.wrap (8*t16)))),c13,(IntKind.u8.wrap (ar .u32 a (IntKind.i64.wrap (8*t16)))),c15,(IntKind.i64.wrap (t16+1)))) else ( bif ((IntKind.i64.wrap (4+t16))==5) then ( again17 (c8,c9,c10,c11,c12,(IntKind.u8.wrap (ar .u32 b (IntKind.i64.wrap (8*t16)))),(IntKind.u8.wrap (ar .u32 a (IntKind.i64.wrap (8*t16)))),c15,(IntKind.i64.wrap (t16+1)))) else ( bif ((IntKind.i64.wrap (4+t16))==6) then ( again17 (c8,c9,c10,c11,c12,c13,(IntKind.u8.wrap (ar .u32 b (IntKind.i64.wrap (8*t16)))),c15,(IntKind.i64.wrap (t16+1)))) else ( bif ((IntKind.i64.wrap (4+t16))==7) then ( again17 (c8,c9,c10,c11,c12,c13,(IntKind.u8.wrap (ar .u32 a (IntKind.i64.wrap (8*t16)))),(IntKind.u8.wrap (ar .u32 b (IntKind.i64.wrap (8*t16)))),(IntKind.i64.wrap (t16+1)))) else ( none))))))))) else ( bif (t16==7) then ( bif ((IntKind.i64.wrap (4+t16))==0) then ( again17 ((IntKind.u8.wrap (ar .u32 b (IntKind.i64.wrap (8*t16)))),c9,c10,c11,c12,c13,c14,(IntKind.u8.wrap (ar .u32 a (IntKind.i64.wrap (8*t16)))),(IntKind.i64.wrap (t16+1)))) else ( bif ((IntKind.i64.wrap (4+t16))==1) then ( again17 (c8,(IntKind.u8.wrap (ar .u32 b (IntKind.i64.wrap (8*t16)))),c10,c11,c12,c13,c14,(IntKind.u8.wrap (ar .u32 a (IntKind.i64.wrap (8*t16)))),(IntKind.i64.wrap (t16+1)))) else ( bif ((IntKind.i64.wrap (4+t16))==2) then ( again17 (c8,c9,(IntKind.u8.wrap (ar .u32 b (IntKind.i64.wrap (8*t16)))),c11,c12,c13,c14,(IntKind.u8.wrap (ar .u32 a (IntKind.i64.wrap (8*t16)))),(IntKind.i64.wrap (t16+1)))) else ( bif ((IntKind.i64.wrap (4+t16))==3) then ( again17 (c8,c9,c10,(IntKind.u8.wrap (ar .u32 b (IntKind.i64.wrap (8*t16)))),c12,c13,c14,(IntKind.u8.wrap (ar .u32 a (IntKind.i64.wrap (8*t16)))),(IntKind.i64.wrap (t16+1)))) else ( bif ((IntKind.i64.wrap (4+t16))==4) then ( again17 (c8,c9,c10,c11,(IntKind.u8.wrap (ar .u32 b (IntKind.i64.wrap (8*t16)))),c13,c14,(IntKind.u8.wrap (ar .u32 a (IntKind.i64.wrap (8*t16)))),(IntKind.i64.wrap (t16+1)))) else ( bif ((IntKind.i64.wrap (4+t16))==5) then ( again17 (c8,c9,c10,c11,c12,(IntKind.u8.wrap (ar .u32 b (IntKind.i64.wrap (8*t16)))),c14,(IntKind.u8.wrap (ar .u32 a (IntKind.i64.wrap (8*t16)))),(IntKind.i64.wrap (t16+1)))) else ( bif ((IntKind.i64.wrap (4+t16))==6) then ( again17 (c8,c9,c10,c11,c12,c13,(IntKind.u8.wrap (ar .u32 b (IntKind.i64.wrap (8*t16)))),(IntKind.u8.wrap (ar .u32 a (IntKind.i64.wrap (8*t16)))),(IntKind.i64.wrap (t16+1)))) else ( bif ((IntKind.i64.wrap (4+t16))==7) then ( again17 (c8,c9,c10,c11,c12,c13,c14,(IntKind.u8.wrap (ar .u32 b (IntKind.i64.wrap (8*t16)))),(IntKind.i64.wrap (t16+1)))) else ( none))))))))) else ( none))))))))) else ( some (c8,c9,c10,c11,c12,c13,c14,c15))
def rE (a:Int) (b:Int):Option Q19:= aq (JW a b) au (0,0,0,0,0,0,0,0,0)
def lS (p:Q19):Option Q1:= some ([p.1,p.2.1,p.2.2.1,p.2.2.2.1,p.2.2.2.2.1,p.2.2.2.2.2.1,p.2.2.2.2.2.2.1,p.2.2.2.2.2.2.2]:List Int)
def qU (p:Q5) (a:Int) (b:Int):Option Q23:= (rE a b).bind fun r8=> (lS r8).bind fun r11=> (bS p r11).bind fun r15=> some (r15.1,r15.2)
def jV (row:Int) (a:Int) (b2:Int) (pairs:(List Q5)):Option (Except Int Int):= (idx pairs row).bind fun e3=> (qU e3 a b2).bind fun r11=> bif (!r11.2) then ( some (.error row)) else ( some (.ok (IntKind.u32.wrap r11.1)))
def gV (rF:Q26→Option (Except Int Int)) (row:Int) (l:Q1) (pairs:(List Q5)):Option (Except Int Int):= bif ((List.length l:Int)==1) then ( (idx l 0).bind fun e4=> some (.ok e4)) else ( chk (fX 0 (IntKind.i64.wrap (Int.tdiv (IntKind.i64.wrap ((List.length l:Int)+1)) 2)) (List.length l))<| Al (rF ((IntKind.i64.wrap (row+1)),(bd l 0 (IntKind.i64.wrap (Int.tdiv (IntKind.i64.wrap ((List.length l:Int)+1)) 2))),pairs)) fun r10=> chk (fX (IntKind.i64.wrap (Int.tdiv (IntKind.i64.wrap ((List.length l:Int)+1)) 2)) ((List.length l):Int) (List.length l))<| (nH (IntKind.i64.wrap (Int.tdiv (IntKind.i64.wrap ((List.length l:Int)+1)) 2))).bind fun r22=> Al (rF ((IntKind.i64.wrap ((IntKind.i64.wrap (row+1))+r22)),(bd l (IntKind.i64.wrap (Int.tdiv (IntKind.i64.wrap ((List.length l:Int)+1)) 2)) ((List.length l):Int)),pairs)) fun r25=> Al (jV row r10 r25 pairs) fun r31=> some (.ok r31))
def lT (row:Int) (l:Q1) (pairs:(List Q5)):Option (Except Int Int):=
 aq (fun k (s:Q26)=>gV k s.1 s.2.1 s.2.2) au (row,l,pairs)
def iM (l:Q1) (pairs:(List Q5)):Option (Except Int Int):= bif ((List.length l:Int)==1) then ( (idx l 0).bind fun e6=> Al (jV 0 e6 0 pairs) fun r8=> some (.ok r8)) else ( Al (lT 0 l pairs) fun r14=> some (.ok r14))
def lE (t:Q18) (s:Q4) (v7:Q1):Option Q23:= (lI s v7).bind fun r13=> GH (iM r13 t.1) (fun _p20=> some (0,false)) fun r18=> some ((IntKind.i64.wrap r18),true)
def q9 (p:Q5):Option Int:= (iQ p).bind fun r5=> some r5
def lq (t:Q18):Option Int:= bif ((List.length t.1:Int)==0) then ( some 0) else ( (idx t.1 0).bind fun e6=> (q9 e6).bind fun r14=> some r14)
def cF (s:(List Q5)):Option (List Q5):= chk (aw (List.length s) 56)<| some s
def oy (p:Q5) (a:Int) (b:Int):Option (Q5×Int×Bool×Int):= (rE a b).bind fun r15=> (lS r15).bind fun r18=> (bk p r18).bind fun r22=> some (r22.1,r22.2.1,r22.2.2.1,r22.2.2.2)
def ic (row:Int) (a:Int) (b2:Int) (pairs:(List Q5)):Option Q30:= (idx pairs row).bind fun e4=> (oy e4 a b2).bind fun r12=> (idx pairs row).bind fun _e22=> some ((IntKind.u32.wrap r12.2.1),(List.set pairs (Int.toNat row) r12.1))
def fq (oP:Q26→Option Q30) (row:Int) (l:Q1) (pairs:(List Q5)):Option Q30:= bif ((List.length l:Int)==1) then ( (idx l 0).bind fun e5=> some (e5,pairs)) else ( chk (fX 0 (IntKind.i64.wrap (Int.tdiv (IntKind.i64.wrap ((List.length l:Int)+1)) 2)) (List.length l))<| (oP ((IntKind.i64.wrap (row+1)),(bd l 0 (IntKind.i64.wrap (Int.tdiv (IntKind.i64.wrap ((List.length l:Int)+1)) 2))),pairs)).bind fun r11=> chk (fX (IntKind.i64.wrap (Int.tdiv (IntKind.i64.wrap ((List.length l:Int)+1)) 2)) ((List.length l):Int) (List.length l))<| (nH (IntKind.i64.wrap (Int.tdiv (IntKind.i64.wrap ((List.length l:Int)+1)) 2))).bind fun r20=> (oP ((IntKind.i64.wrap ((IntKind.i64.wrap (row+1))+r20)),(bd l (IntKind.i64.wrap (Int.tdiv (IntKind.i64.wrap ((List.length l:Int)+1)) 2)) ((List.length l):Int)),r11.2)).bind fun r23=> (ic row r11.1 r23.1 r23.2).bind fun r26=> some (r26.1,r26.2))
def mz (row:Int) (l:Q1) (pairs:(List Q5)):Option Q30:=
 aq (fun k (s:Q26)=>fq k s.1 s.2.1 s.2.2) au (row,l,pairs)
def iL (l:Q1) (pairs:(List Q5)):Option Q30:= bif ((List.length l:Int)==1) then ( (idx l 0).bind fun e7=> (ic 0 e7 0 pairs).bind fun r9=> some (r9.1,r9.2)) else ( (mz 0 l pairs).bind fun r12=> some (r12.1,r12.2))
def pU (t:Q18) (s:Q4) (v7:Q1):Option (Q18×Bool×Int):= (bV s v7).bind fun r13=> bif (r13 != 0) then ( some (t,false,r13)) else ( (lE t s v7).bind fun r18=> bif r18.2 then ( some (t,false,0)) else ( (idx t.1 0).bind fun e25=> (lq t).bind fun r33=> bif (decide (e25.1≤r33)) then ( some (t,false,7)) else ( (cF t.1).bind fun r38=> (lI s v7).bind fun r46=> (iL r46 r38).bind fun r51=> chk (jj 0 (List.length t.2:Int) (List.length t.2:Int) (List.length t.2)&&((List.length t.2:Int)==(List.length t.2:Int)))<| chk (aw (List.length (bd t.2 0 (List.length t.2:Int))+List.length ([0]:List Int)) 1)<| some ((r51.2,((bd t.2 0 (List.length t.2:Int))++([0]:List Int))),true,0))))
def fi (_x:Unit) (t:Q3) (v39:Q1):Option Q25:= (pU t.2.2.2.2.2.1 t.2.1 v39).bind fun r50=> some ((t.1,t.2.1,t.2.2.1,t.2.2.2.1,t.2.2.2.2.1,r50.1,t.2.2.2.2.2.2.1,t.2.2.2.2.2.2.2),r50.2.1,r50.2.2)
def lR (x:Int):Option Bool:= some (x != x)
def gW (x:Int) (y:Int):Option Int:= (lR x).bind fun r3=> (lR y).bind fun r6=> bif r3 then ( bif r6 then ( some 0) else ( some (-1))) else ( bif r6 then ( some 1) else ( bif (decide (x<y)) then ( some (-1)) else ( bif (decide (y<x)) then ( some 1) else ( some 0))))
def qk (e:Q13) (by_:Int):Option Int:= (gW e.1 by_).bind fun r5=> some r5
def bp (x:Q4) (target:Int) (again7:Q13→Option Q23):Int×Int→Option Q23:=fun ⟨i5,j6⟩=> bif (decide (i5<j6)) then ( (idx x (IntKind.i64.wrap (ar .u64 (IntKind.u64.wrap (IntKind.i64.wrap (i5+j6))) 1))).bind fun e9=> (qk e9 target).bind fun r11=> bif (decide (r11<0)) then ( again7 ((IntKind.i64.wrap ((IntKind.i64.wrap (ar .u64 (IntKind.u64.wrap (IntKind.i64.wrap (i5+j6))) 1))+1)),j6)) else ( again7 (i5,(IntKind.i64.wrap (ar .u64 (IntKind.u64.wrap (IntKind.i64.wrap (i5+j6))) 1))))) else ( aj (decide (i5<(List.length x:Int))) fun b15=> cf b15 (0,0) (idx x i5) fun e17=> cf b15 default (qk e17 target) fun r19=> aj (r19==0) fun b25=> aj (b15&&b25) fun b27=> some (i5,b27))
def aO (x:Q4) (target:Int):Option Q23:= aq (bp x target) au (0,(List.length x:Int))
def ql (d:Q15) (at_:Int) (by_:Int):Option Int:= bif (at_==(-1)) then ( some (-1)) else ( (idx d.2.1 at_).bind fun e6=> (aO e6.1 by_).bind fun r12=> bif (!r12.2) then ( some (-1)) else ( (idx d.2.1 at_).bind fun e16=> (idx e16.1 r12.1).bind fun e22=> some e22.2))
def l6 (d:Q15) (w5:Q1) (again9:Q13→Option Bool):Int×Int→Option Bool:=fun ⟨at7,t8⟩=> bif (decide (t8<(List.length w5:Int))) then ( (idx w5 t8).bind fun e11=> (ql d at7 e11).bind fun r13=> again9 (r13,(IntKind.i64.wrap (t8+1)))) else ( aj ((List.length w5:Int)==d.1) fun b16=> aj (decide (0<d.1)) fun b18=> aj (b16&&b18) fun b20=> aj (at7 != (-1)) fun b22=> aj (b20&&b22) fun b24=> some b24)
def iI (d:Q15) (w5:Q1):Option Bool:= aq (l6 d w5) au (d.2.2.1,0)
def sU (d:Q15):Option Int:= some d.2.2.2.1
def cd (s:Q7):Option Q7:= chk (aw (List.length s) 32)<| some s
def dO (s1:Q4) (s2:Q4) (again6:Int→Option Bool) (t5:Int):Option Bool:= bif (decide (t5<(List.length s1:Int))) then ( (idx s1 t5).bind fun e10=> (idx s2 t5).bind fun e12=> bif (!(NO e10.1 e10.2 e12.1 e12.2)) then ( some false) else ( again6 (IntKind.i64.wrap (t5+1)))) else ( some true)
def db (s1:Q4) (s2:Q4):Option Bool:= bif ((List.length s1:Int) != (List.length s2:Int)) then ( some false) else ( aq (dO s1 s2) au 0)
def dT (next_:Q4) (Node:Q7) (young:Q9) (again6:Int→Option Q23) (t5:Int):Option Q23:= bif (decide (t5<(List.length Node:Int))) then ( (idx Node t5).bind fun e8=> aj (decide (0<e8.2)) fun b17=> aj (dL young t5 false) fun b19=> aj (b17||b19) fun b21=> cf b21 default (db e8.1 next_) fun r23=> aj (b21&&r23) fun b29=> bif b29 then ( some (t5,true)) else ( again6 (IntKind.i64.wrap (t5+1)))) else ( some ((-1),false))
def qA (next_:Q4) (_Wide:Int) (Node:Q7) (_Root:Int) (_Many:Int) (_Free:Q1) (young:Q9):Option Q23:= aq (dT next_ Node young) au 0
def fN (h:Q1):Option Int:= some (List.length h:Int)
def cS (h:Q1) (i:Int) (j:Int):Option Q1:= (idx h j).bind fun e5=> (idx h i).bind fun e7=> (idx h i).bind fun _e9=> (idx (List.set h (Int.toNat i) e5) j).bind fun _e12=> some (List.set (List.set h (Int.toNat i) e5) (Int.toNat j) e7)
def dM (h:Q1) (i:Int) (j:Int):Option Bool:= (idx h i).bind fun e5=> (idx h j).bind fun e7=> some (decide (e5<e7))
def jr (i0:Int) (l5:Q1) (i6:Int) (again7:Q12→Option (Bool×Q1)) (j16:Int):Option (Bool×Q1):= (dM l5 j16 i6).bind fun r17=> bif (!r17) then ( some ((decide (i0<i6)),l5)) else ( (cS l5 i6 j16).bind fun r21=> again7 (r21,j16))
def dP (i0:Int) (n:Int) (again7:Q12→Option (Bool×Q1)):Q1×Int→Option (Bool×Q1):=fun ⟨l5,i6⟩=> aj (decide (n≤(IntKind.i64.wrap ((IntKind.i64.wrap (2*i6))+1)))) fun b8=> aj (decide ((IntKind.i64.wrap ((IntKind.i64.wrap (2*i6))+1))<0)) fun b10=> aj (b8||b10) fun b12=> bif b12 then ( some ((decide (i0<i6)),l5)) else ( aj (fun (s25:Int)=>jr i0 l5 i6 again7 s25) fun kk24=> aj (decide ((IntKind.i64.wrap ((IntKind.i64.wrap ((IntKind.i64.wrap (2*i6))+1))+1))<n)) fun b26=> cf b26 default (dM l5 (IntKind.i64.wrap ((IntKind.i64.wrap ((IntKind.i64.wrap (2*i6))+1))+1)) (IntKind.i64.wrap ((IntKind.i64.wrap (2*i6))+1))) fun r28=> aj (b26&&r28) fun b34=> bif b34 then ( kk24 (IntKind.i64.wrap ((IntKind.i64.wrap ((IntKind.i64.wrap (2*i6))+1))+1))) else ( kk24 (IntKind.i64.wrap ((IntKind.i64.wrap (2*i6))+1))))
def kV (i0:Int) (n:Int) (h:Q1):Option (Bool×Q1):= aq (dP i0 n) au (h,i0)
def ot (h:Q1):Option (Int×Q1):= (idx h (IntKind.i64.wrap ((List.length h:Int)-1))).bind fun e1=> chk (fX 0 (IntKind.i64.wrap ((List.length h:Int)-1)) (List.length h))<| some (e1,(bd h 0 (IntKind.i64.wrap ((List.length h:Int)-1))))
def iZ (h:Q1):Option (Int×Q1):= (fN h).bind fun r1=> (cS h 0 (IntKind.i64.wrap (r1-1))).bind fun r4=> (kV 0 (IntKind.i64.wrap (r1-1)) r4).bind fun r7=> (ot r7.2).bind fun r10=> some (r10.1,r10.2)
def l7 (_Wide:Int) (Node:Q7) (_Root:Int) (_Many:Int) (Free:Q1) (_young:Q9):Option (Int×Q7×Q1):= bif ((List.length Free:Int)==0) then ( chk (aw (List.length Node+List.length ([([],0)]:List (Q4×Int))) 32)<| some ((IntKind.i64.wrap ((List.length (Node++([([],0)]:List (Q4×Int))):Int)-1)),(Node++([([],0)]:List (Q4×Int))),Free)) else ( (iZ Free).bind fun r21=> some (r21.1,Node,r21.2))
def hU (next_:Q4) (r15:(Int×Q7×Q1)) (m29:(List Q23)) (again35:(Q7×Int)→Option Q16):Q7×Int→Option Q16:=fun ⟨l33,t34⟩=> bif (decide (t34<(List.length next_:Int))) then ( (idx next_ t34).bind fun e37=> (idx l33 e37.2).bind fun e44=> (idx l33 e37.2).bind fun e50=> again35 ((List.set l33 (Int.toNat e37.2) (e50.1,(IntKind.i64.wrap (e44.2+1)))),(IntKind.i64.wrap (t34+1)))) else ( some (r15.1,l33,r15.2.2,(some (kI m29 r15.1 true))))
def kL (next_:Q4) (Wide:Int) (Node:Q7) (Root:Int) (Many:Int) (Free:Q1) (young:Q9):Option Q16:= (qA next_ Wide Node Root Many Free young).bind fun r11=> bif r11.2 then ( some (r11.1,Node,Free,young)) else ( (l7 Wide Node Root Many Free young).bind fun r15=> (idx r15.2.1 r15.1).bind fun _e22=> (young).bind fun m29=> aq (hU next_ r15 m29) au ((List.set r15.2.1 (Int.toNat r15.1) (next_,0)),0))
def zE (d:Q15) (at_:Int) (by_:Int):Option Int:= bif (at_==(-1)) then ( some (-1)) else ( (idx d.2.1 at_).bind fun e6=> (aO e6.1 by_).bind fun r12=> bif (!r12.2) then ( some (-1)) else ( (idx d.2.1 at_).bind fun e16=> (idx e16.1 r12.1).bind fun e22=> some e22.2))
def oH (e:Q13) (by_:Int):Option Int:= (gW e.1 by_).bind fun r5=> some r5
def fU (x:Q4) (target:Int) (again7:Q13→Option Q23):Int×Int→Option Q23:=fun ⟨i5,j6⟩=> bif (decide (i5<j6)) then ( (idx x (IntKind.i64.wrap (ar .u64 (IntKind.u64.wrap (IntKind.i64.wrap (i5+j6))) 1))).bind fun e9=> (oH e9 target).bind fun r11=> bif (decide (r11<0)) then ( again7 ((IntKind.i64.wrap ((IntKind.i64.wrap (ar .u64 (IntKind.u64.wrap (IntKind.i64.wrap (i5+j6))) 1))+1)),j6)) else ( again7 (i5,(IntKind.i64.wrap (ar .u64 (IntKind.u64.wrap (IntKind.i64.wrap (i5+j6))) 1))))) else ( aj (decide (i5<(List.length x:Int))) fun b15=> cf b15 (0,0) (idx x i5) fun e17=> cf b15 default (oH e17 target) fun r19=> aj (r19==0) fun b25=> aj (b15&&b25) fun b27=> some (i5,b27))
def bn (x:Q4) (target:Int):Option Q23:= aq (fU x target) au (0,(List.length x:Int))
def cW (s:Q4):Option Q4:= chk (aw (List.length s) 16)<| some s
def n3 (Wide:Int) (Root:Int) (Many:Int) (r36:Q16) (next50:Q4):Option Q16:= (kL next50 Wide r36.2.1 Root Many r36.2.2.1 r36.2.2.2).bind fun r53=> some (r53.1,r53.2.1,r53.2.2.1,r53.2.2.2)
def ov (pC:Q22→Option Q16) (at_:Int) (word:Q1) (Wide:Int) (Node:Q7) (Root:Int) (Many:Int) (Free:Q1) (young:Q9) (next20:Q4):Option Q16:= (idx word 0).bind fun e25=> (idx word 0).bind fun e27=> chk (fX 1 ((List.length word):Int) (List.length word))<| (zE (Wide,Node,Root,Many,Free) at_ e27).bind fun r33=> (pC (r33,(bd word 1 ((List.length word):Int)),Wide,(Wide,Node,Root,Many,Free).2.1,Root,Many,(Wide,Node,Root,Many,Free).2.2.2.2,young)).bind fun r36=> (bn next20 e25).bind fun r46=> aj (fun (s61:Q4)=>n3 Wide Root Many r36 s61) fun kk60=> bif r46.2 then ( (idx next20 r46.1).bind fun _e63=> kk60 (List.set next20 (Int.toNat r46.1) (e25,r36.1))) else ( (EA 16 next20 r46.1 ([(e25,r36.1)]:List Q13)).bind fun r68=> kk60 r68)
def gK (pC:Q22→Option Q16) (at_:Int) (word:Q1) (Wide:Int) (Node:Q7) (Root:Int) (Many:Int) (Free:Q1) (young:Q9):Option Q16:= bif ((List.length word:Int)==0) then ( (kL [] Wide Node Root Many Free young).bind fun r12=> some (r12.1,r12.2.1,r12.2.2.1,r12.2.2.2)) else ( aj (fun (s72:Q4)=>ov pC at_ word Wide Node Root Many Free young s72) fun kk71=> bif (at_ != (-1)) then ( (idx Node at_).bind fun e74=> (cW e74.1).bind fun r80=> kk71 r80) else ( kk71 []))
def oM (at_:Int) (word:Q1) (Wide:Int) (Node:Q7) (Root:Int) (Many:Int) (Free:Q1) (young:Q9):Option Q16:=
 aq (fun k (s:Q22)=>gK k s.1 s.2.1 s.2.2.1 s.2.2.2.1 s.2.2.2.2.1 s.2.2.2.2.2.1 s.2.2.2.2.2.2.1 s.2.2.2.2.2.2.2) au (at_,word,Wide,Node,Root,Many,Free,young)
def nj (x:Int) (h:Q1):Option Q1:= chk (aw (List.length h+List.length ([x]:List Int)) 8)<| some (h++([x]:List Int))
def iC (again6:Q12→Option Q1):Q1×Int→Option Q1:=fun ⟨l4,j5⟩=> aj ((IntKind.i64.wrap (Int.tdiv (IntKind.i64.wrap (j5-1)) 2))==j5) fun b7=> cf (!b7) default (dM l4 j5 (IntKind.i64.wrap (Int.tdiv (IntKind.i64.wrap (j5-1)) 2))) fun r9=> aj (!r9) fun b15=> aj (b7||b15) fun b17=> bif b17 then ( some l4) else ( (cS l4 (IntKind.i64.wrap (Int.tdiv (IntKind.i64.wrap (j5-1)) 2)) j5).bind fun r20=> again6 (r20,(IntKind.i64.wrap (Int.tdiv (IntKind.i64.wrap (j5-1)) 2))))
def kr (j:Int) (h:Q1):Option Q1:= aq iC au (h,j)
def ir (x:Int) (h:Q1):Option Q1:= (nj x h).bind fun r5=> (fN r5).bind fun r10=> (kr (IntKind.i64.wrap (r10-1)) r5).bind fun r13=> some r13
def jE (mU:Q24→Option (Q7×Q1)) (i:Int) (Wide:Int) (Root:Int) (Many:Int) (young:Q9) (e27:(Q4×Int)) (again39:(Q7×Q1×Int)→Option (Q7×Q1)):Q7×Q1×Int→Option (Q7×Q1):=fun ⟨l34,c35,t38⟩=> bif (decide (t38<(List.length e27.1:Int))) then ( (idx e27.1 t38).bind fun e41=> (mU (e41.2,Wide,l34,Root,Many,c35,young)).bind fun r46=> again39 (r46.1,r46.2,(IntKind.i64.wrap (t38+1)))) else ( (idx l34 i).bind fun _e51=> (ir i c35).bind fun r61=> some ((List.set l34 (Int.toNat i) ([],0)),r61))
def kE (mU:Q24→Option (Q7×Q1)) (i:Int) (Wide:Int) (Node:Q7) (Root:Int) (Many:Int) (Free:Q1) (young:Q9):Option (Q7×Q1):= (idx Node i).bind fun e7=> (idx Node i).bind fun e13=> (idx (List.set Node (Int.toNat i) (e13.1,(IntKind.i64.wrap (e7.2-1)))) i).bind fun e20=> bif (decide (0<e20.2)) then ( some ((List.set Node (Int.toNat i) (e13.1,(IntKind.i64.wrap (e7.2-1)))),Free)) else ( (idx (List.set Node (Int.toNat i) (e13.1,(IntKind.i64.wrap (e7.2-1)))) i).bind fun e27=> aq (jE mU i Wide Root Many young e27) au ((List.set Node (Int.toNat i) (e13.1,(IntKind.i64.wrap (e7.2-1)))),Free,0))
def l8 (i:Int) (Wide:Int) (Node:Q7) (Root:Int) (Many:Int) (Free:Q1) (young:Q9):Option (Q7×Q1):=
 aq (fun k (s:Q24)=>kE k s.1 s.2.1 s.2.2.1 s.2.2.2.1 s.2.2.2.2.1 s.2.2.2.2.2.1 s.2.2.2.2.2.2) au (i,Wide,Node,Root,Many,Free,young)
def qt (d:Q15) (r44:Q16) (l68:Q7) (c69:Q1):Option (Q15×Bool×Int):= some ((d.1,l68,r44.1,(IntKind.i64.wrap (d.2.2.2.1+1)),c69),true,0)
def cZ (d:Q15) (word:Q1):Option (Q15×Bool×Int):= aj ((List.length word:Int) != d.1) fun b13=> aj (d.1==0) fun b15=> aj (b13||b15) fun b17=> bif b17 then ( some (d,false,1)) else ( (iI d word).bind fun r21=> bif r21 then ( some (d,false,0)) else ( (cd d.2.1).bind fun r32=> (dw d.2.2.2.2).bind fun r37=> (oM d.2.2.1 word d.1 r32 d.2.2.1 d.2.2.2.1 r37 (some []:Q9)).bind fun r44=> (idx r44.2.1 r44.1).bind fun e54=> (idx r44.2.1 r44.1).bind fun e60=> aj (fun (s75:Q7×Q1)=>qt d r44 s75.1 s75.2) fun kk74=> bif (d.2.2.1 != (-1)) then ( (l8 d.2.2.1 d.1 (List.set r44.2.1 (Int.toNat r44.1) (e60.1,(IntKind.i64.wrap (e54.2+1)))) r44.1 d.2.2.2.1 r44.2.2.1 r44.2.2.2).bind fun r77=> kk74 (r77.1,r77.2)) else ( kk74 ((List.set r44.2.1 (Int.toNat r44.1) (e60.1,(IntKind.i64.wrap (e54.2+1)))),r44.2.2.1))))
def fJ (_x:Unit) (t:Q3) (v39:Q1):Option Q25:= (bX t v39).bind fun r50=> (iI t.2.2.2.2.2.2.1.1 r50).bind fun r54=> bif r54 then ( some (t,false,0)) else ( (sU t.2.2.2.2.2.2.1.1).bind fun r61=> bif (decide (t.2.2.1≤r61)) then ( some (t,false,7)) else ( (cZ t.2.2.2.2.2.2.1.1 r50).bind fun r66=> some ((t.1,t.2.1,t.2.2.1,t.2.2.2.1,t.2.2.2.2.1,t.2.2.2.2.2.1,(r66.1,t.2.2.2.2.2.2.1.2.1,t.2.2.2.2.2.2.1.2.2),t.2.2.2.2.2.2.2),true,0)))
def qE (b:Q1) (seed:Int) (k:Int) (n:Int) (again10:Q12→Option Q1):Q1×Int→Option Q1:=fun ⟨out6,t9⟩=> bif (decide (t9<(max k 0))) then ( (pd b (IntKind.u64.wrap (seed+(IntKind.u64.wrap t9)))).bind fun r12=> (nE r12 n).bind fun r15=> chk (aw (List.length out6+List.length ([r15]:List Int)) 8)<| again10 ((out6++([r15]:List Int)),(IntKind.i64.wrap (t9+1)))) else ( some out6)
def gu (b:Q1) (seed:Int) (k:Int) (n:Int):Option Q1:= aq (qE b seed k n) au ([],0)
def sg (b:Q6) (_c:Bool) (r5:Q1) (again14:Q17→Option Bool):Bool×Int→Option Bool:=fun ⟨c12,t13⟩=> bif (decide (t13<(List.length r5:Int))) then ( (idx r5 t13).bind fun e16=> (idx b.2.2.2.1 (IntKind.i64.wrap (Int.tdiv e16 8))).bind fun e20=> chk (decide (0≤(Int.tmod e16 8)))<| aj ((gC .u8 e20 (fT .u8 1 (Int.tmod e16 8))) != 0) fun b23=> aj (c12&&b23) fun b25=> again14 (b25,(IntKind.i64.wrap (t13+1)))) else ( some c12)
def ze (b:Q6) (key:Q1) (c:Bool):Option Bool:= (gu key b.2.2.1 b.2.1 b.1).bind fun r5=> aq (sg b c r5) au (c,0)
def BT (b:Q6) (key:Q1):Option Bool:= (ze b key true).bind fun r8=> some r8
def kP (b:Q6) (key:Q1):Option Bool:= (BT b key).bind fun r5=> some r5
def br (s:Q1):Option Q1:= chk (aw (List.length s) 1)<| some s
def dJ (r5:Q1) (again14:Q12→Option Q1):Q1×Int→Option Q1:=fun ⟨l12,t13⟩=> bif (decide (t13<(List.length r5:Int))) then ( (idx r5 t13).bind fun e16=> (idx l12 (IntKind.i64.wrap (Int.tdiv e16 8))).bind fun e20=> chk (decide (0≤(Int.tmod e16 8)))<| again14 ((List.set l12 (Int.toNat (IntKind.i64.wrap (Int.tdiv e16 8))) (orI .u8 e20 (fT .u8 1 (Int.tmod e16 8)))),(IntKind.i64.wrap (t13+1)))) else ( some l12)
def oa (b:Q6) (key:Q1):Option Q1:= (gu key b.2.2.1 b.2.1 b.1).bind fun r5=> aq (dJ r5) au (b.2.2.2.1,0)
def Bq (b:Q6) (key:Q1):Option Q6:= (br b.2.2.2.1).bind fun r13=> (oa (b.1,b.2.1,b.2.2.1,(r13,b.2.2.2.2.1,b.2.2.2.2.2)) key).bind fun r19=> some (b.1,b.2.1,b.2.2.1,(r19,b.2.2.2.2.1,b.2.2.2.2.2))
def pT (b:Q6) (key:Q1):Option (Q6×Bool):= (kP b key).bind fun r14=> bif r14 then ( some (b,false)) else ( (Bq b key).bind fun r19=> some (r19,true))
def fI (_x:Unit) (t:Q3) (v39:Q1):Option Q25:= (bX t v39).bind fun r52=> (pT t.2.2.2.2.2.2.2 r52).bind fun r56=> some ((t.1,t.2.1,t.2.2.1,t.2.2.2.1,t.2.2.2.2.1,t.2.2.2.2.2.1,t.2.2.2.2.2.2.1,r56.1),r56.2,0)
def aZ (t:Q3) (v39:Q1):Option Q25:= (bV t.2.1 v39).bind fun r48=> bif (r48 != 0) then ( some (t,false,r48)) else ( (aV t).bind fun r55=> bif (Nat.beq r55 133) then ( (fM () t v39).bind fun r58=> some (r58.1,r58.2.1,r58.2.2)) else ( bif (Nat.beq r55 134) then ( (fj () t v39).bind fun r81=> some (r81.1,r81.2.1,r81.2.2)) else ( bif (Nat.beq r55 135) then ( (fi () t v39).bind fun r104=> some (r104.1,r104.2.1,r104.2.2)) else ( bif (Nat.beq r55 136) then ( (fJ () t v39).bind fun r127=> some (r127.1,r127.2.1,r127.2.2)) else ( bif (Nat.beq r55 137) then ( (fI () t v39).bind fun r150=> some (r150.1,r150.2.1,r150.2.2)) else ( none))))))
def su (flag:Int):Option Int:= bif (flag==0) then ( some 1) else ( bif (flag==1) then ( some 2) else ( some 0))
def uU (i:Int) (b:Int) (_Cap:Int) (_Keys:(List Q1)) (_Slot:Q1) (Flag:Q1) (_Cap11:Int) (_Keys12:(List Q1)) (_Slot15:Q1) (_Flag18:Q1):Option Q1:= (br Flag).bind fun r4=> (idx r4 i).bind fun e10=> (idx r4 i).bind fun _e12=> some (List.set r4 (Int.toNat i) (orI .u8 e10 b))
def DW (s:(Q5×Q1)) (key:Q1) (flag:Int) (Cap:Int) (Keys:(List Q1)) (Slot:Q1) (Flag:Q1) (Cap18:Int) (Keys19:(List Q1)) (Slot22:Q1) (Flag25:Q1):Option (Int×Int×(List Q1)×Q1×Q1):= (su flag).bind fun r13=> bif (r13==0) then ( some (1,Cap18,Keys19,Slot22,Flag25)) else ( (bS s.1 key).bind fun r17=> bif (!r17.2) then ( some (10,Cap18,Keys19,Slot22,Flag25)) else ( (uU r17.1 r13 Cap Keys Slot Flag Cap18 Keys19 Slot22 Flag25).bind fun r21=> some (0,Cap18,Keys19,Slot22,r21)))
def wC (s:(Q5×Q1)) (key:Q1) (flag:Int):Option ((Q5×Q1)×Int):= (DW s key flag s.1.1 s.1.2.1 s.1.2.2 s.2 s.1.1 s.1.2.1 s.1.2.2 s.2).bind fun r17=> some (((r17.2.1,r17.2.2.1,r17.2.2.2.1),r17.2.2.2.2),r17.1)
def iN (_x:Unit) (t:Q3) (v39:Q1) (flag:Int):Option Q27:= (bX t v39).bind fun r51=> (wC t.2.2.2.1 r51 flag).bind fun r55=> some ((t.1,t.2.1,t.2.2.1,r55.1,t.2.2.2.2.1,t.2.2.2.2.2.1,t.2.2.2.2.2.2.1,t.2.2.2.2.2.2.2),r55.2)
def ru (c:Q11) (s:Q4) (v11:Q1) (flag:Int):Option Q13:= (bV s v11).bind fun r6=> bif (r6 != 0) then ( some (0,r6)) else ( aj (decide (flag<0)) fun b10=> aj (decide (1<flag)) fun b12=> aj (b10||b12) fun b14=> bif b14 then ( some (0,1)) else ( (jd c s v11).bind fun r17=> bif (decide (r17<0)) then ( some (0,10)) else ( some (r17,0))))
def wQ (c:Q11) (s:Q4) (v11:Q1) (flag:Int):Option (Q11×Int):= (ru c s v11 flag).bind fun r16=> bif (r16.2 != 0) then ( some (c,r16.2)) else ( (br c.2.2).bind fun r21=> (idx r21 r16.1).bind fun e29=> chk (decide (0≤flag))<| (idx r21 r16.1).bind fun _e32=> some ((c.1,c.2.1,(List.set r21 (Int.toNat r16.1) (orI .u8 e29 (fT .u8 1 flag)))),0))
def gS (_x:Unit) (t:Q3) (v39:Q1) (flag:Int):Option Q27:= (wQ t.2.2.2.2.1 t.2.1 v39 flag).bind fun r49=> some ((t.1,t.2.1,t.2.2.1,t.2.2.2.1,r49.1,t.2.2.2.2.2.1,t.2.2.2.2.2.2.1,t.2.2.2.2.2.2.2),r49.2)
def rv (t:Q18) (s:Q4) (v7:Q1) (flag:Int):Option Q13:= (bV s v7).bind fun r6=> bif (r6 != 0) then ( some (0,r6)) else ( aj (flag != 0) fun b10=> aj (flag != 1) fun b12=> aj (b10&&b12) fun b14=> bif b14 then ( some (0,1)) else ( (lE t s v7).bind fun r17=> bif (!r17.2) then ( some (0,10)) else ( some (r17.1,0))))
def wN (t:Q18) (s:Q4) (v7:Q1) (flag:Int):Option (Q18×Int):= (rv t s v7 flag).bind fun r12=> bif (r12.2 != 0) then ( some (t,r12.2)) else ( (br t.2).bind fun r17=> (idx r17 r12.1).bind fun e25=> chk (decide (0≤flag))<| (idx r17 r12.1).bind fun _e28=> some ((t.1,(List.set r17 (Int.toNat r12.1) (orI .u8 e25 (fT .u8 1 flag)))),0))
def gT (_x:Unit) (t:Q3) (v39:Q1) (flag:Int):Option Q27:= (wN t.2.2.2.2.2.1 t.2.1 v39 flag).bind fun r49=> some ((t.1,t.2.1,t.2.2.1,t.2.2.2.1,t.2.2.2.2.1,r49.1,t.2.2.2.2.2.2.1,t.2.2.2.2.2.2.2),r49.2)
def kK (t:Q3) (v39:Q1) (flag:Int):Option Int:= aj (decide (flag<0)) fun b5=> aj (decide (1<flag)) fun b7=> aj (b5||b7) fun b9=> bif b9 then ( some 1) else ( (bX t v39).bind fun r14=> (iI t.2.2.2.2.2.2.1.1 r14).bind fun r18=> bif (!r18) then ( some 10) else ( some 0))
def je (_x:Unit) (t:Q3) (v39:Q1) (flag:Int):Option Q27:= (kK t v39 flag).bind fun r49=> bif (r49 != 0) then ( some (t,r49)) else ( bif ((IntKind.i64.wrap (1+flag))==0) then ( (bX t v39).bind fun r57=> (cZ t.2.2.2.2.2.2.1.1 r57).bind fun r61=> bif ((IntKind.i64.wrap (1+flag))==0) then ( some ((t.1,t.2.1,t.2.2.1,t.2.2.2.1,t.2.2.2.2.1,t.2.2.2.2.2.1,(r61.1,t.2.2.2.2.2.2.1.2.1,t.2.2.2.2.2.2.1.2.2),t.2.2.2.2.2.2.2),0)) else ( bif ((IntKind.i64.wrap (1+flag))==1) then ( some ((t.1,t.2.1,t.2.2.1,t.2.2.2.1,t.2.2.2.2.1,t.2.2.2.2.2.1,(t.2.2.2.2.2.2.1.1,r61.1,t.2.2.2.2.2.2.1.2.2),t.2.2.2.2.2.2.2),0)) else ( bif ((IntKind.i64.wrap (1+flag))==2) then ( some ((t.1,t.2.1,t.2.2.1,t.2.2.2.1,t.2.2.2.2.1,t.2.2.2.2.2.1,(t.2.2.2.2.2.2.1.1,t.2.2.2.2.2.2.1.2.1,r61.1),t.2.2.2.2.2.2.2),0)) else ( none)))) else ( bif ((IntKind.i64.wrap (1+flag))==1) then ( (bX t v39).bind fun r76=> (cZ t.2.2.2.2.2.2.1.2.1 r76).bind fun r80=> bif ((IntKind.i64.wrap (1+flag))==0) then ( some ((t.1,t.2.1,t.2.2.1,t.2.2.2.1,t.2.2.2.2.1,t.2.2.2.2.2.1,(r80.1,t.2.2.2.2.2.2.1.2.1,t.2.2.2.2.2.2.1.2.2),t.2.2.2.2.2.2.2),0)) else ( bif ((IntKind.i64.wrap (1+flag))==1) then ( some ((t.1,t.2.1,t.2.2.1,t.2.2.2.1,t.2.2.2.2.1,t.2.2.2.2.2.1,(t.2.2.2.2.2.2.1.1,r80.1,t.2.2.2.2.2.2.1.2.2),t.2.2.2.2.2.2.2),0)) else ( bif ((IntKind.i64.wrap (1+flag))==2) then ( some ((t.1,t.2.1,t.2.2.1,t.2.2.2.1,t.2.2.2.2.1,t.2.2.2.2.2.1,(t.2.2.2.2.2.2.1.1,t.2.2.2.2.2.2.1.2.1,r80.1),t.2.2.2.2.2.2.2),0)) else ( none)))) else ( bif ((IntKind.i64.wrap (1+flag))==2) then ( (bX t v39).bind fun r95=> (cZ t.2.2.2.2.2.2.1.2.2 r95).bind fun r99=> bif ((IntKind.i64.wrap (1+flag))==0) then ( some ((t.1,t.2.1,t.2.2.1,t.2.2.2.1,t.2.2.2.2.1,t.2.2.2.2.2.1,(r99.1,t.2.2.2.2.2.2.1.2.1,t.2.2.2.2.2.2.1.2.2),t.2.2.2.2.2.2.2),0)) else ( bif ((IntKind.i64.wrap (1+flag))==1) then ( some ((t.1,t.2.1,t.2.2.1,t.2.2.2.1,t.2.2.2.2.1,t.2.2.2.2.2.1,(t.2.2.2.2.2.2.1.1,r99.1,t.2.2.2.2.2.2.1.2.2),t.2.2.2.2.2.2.2),0)) else ( bif ((IntKind.i64.wrap (1+flag))==2) then ( some ((t.1,t.2.1,t.2.2.1,t.2.2.2.1,t.2.2.2.2.1,t.2.2.2.2.2.1,(t.2.2.2.2.2.2.1.1,t.2.2.2.2.2.2.1.2.1,r99.1),t.2.2.2.2.2.2.2),0)) else ( none)))) else ( none))))
def sh (b:Q6) (key:Q1) (flag:Int):Option Int:= aj (decide (flag<0)) fun b5=> aj (decide (1<flag)) fun b7=> aj (b5||b7) fun b9=> bif b9 then ( some 1) else ( (kP b key).bind fun r12=> bif (!r12) then ( some 10) else ( some 0))
def tQ (r5:Q1) (again14:Q12→Option Q1):Q1×Int→Option Q1:=fun ⟨l12,t13⟩=> bif (decide (t13<(List.length r5:Int))) then ( (idx r5 t13).bind fun e16=> (idx l12 (IntKind.i64.wrap (Int.tdiv e16 8))).bind fun e20=> chk (decide (0≤(Int.tmod e16 8)))<| again14 ((List.set l12 (Int.toNat (IntKind.i64.wrap (Int.tdiv e16 8))) (orI .u8 e20 (fT .u8 1 (Int.tmod e16 8)))),(IntKind.i64.wrap (t13+1)))) else ( some l12)
def sR (b:Q6) (key:Q1):Option Q1:= (gu key b.2.2.1 b.2.1 b.1).bind fun r5=> aq (tQ r5) au (b.2.2.2.2.1,0)
def tx (r5:Q1) (again14:Q12→Option Q1):Q1×Int→Option Q1:=fun ⟨l12,t13⟩=> bif (decide (t13<(List.length r5:Int))) then ( (idx r5 t13).bind fun e16=> (idx l12 (IntKind.i64.wrap (Int.tdiv e16 8))).bind fun e20=> chk (decide (0≤(Int.tmod e16 8)))<| again14 ((List.set l12 (Int.toNat (IntKind.i64.wrap (Int.tdiv e16 8))) (orI .u8 e20 (fT .u8 1 (Int.tmod e16 8)))),(IntKind.i64.wrap (t13+1)))) else ( some l12)
def sq (b:Q6) (key:Q1):Option Q1:= (gu key b.2.2.1 b.2.1 b.1).bind fun r5=> aq (tx r5) au (b.2.2.2.2.2,0)
def pS (b:Q6) (key:Q1) (row:Int):Option Q6:= bif (row==0) then ( (br b.2.2.2.1).bind fun r13=> (oa (b.1,b.2.1,b.2.2.1,(r13,b.2.2.2.2.1,b.2.2.2.2.2)) key).bind fun r19=> some (b.1,b.2.1,b.2.2.1,(r19,b.2.2.2.2.1,b.2.2.2.2.2))) else (bif (row==1) then ( (br b.2.2.2.2.1).bind fun r27=> (sR (b.1,b.2.1,b.2.2.1,(b.2.2.2.1,r27,b.2.2.2.2.2)) key).bind fun r33=> some (b.1,b.2.1,b.2.2.1,(b.2.2.2.1,r33,b.2.2.2.2.2))) else (bif (row==2) then ( (br b.2.2.2.2.2).bind fun r41=> (sq (b.1,b.2.1,b.2.2.1,(b.2.2.2.1,b.2.2.2.2.1,r41)) key).bind fun r47=> some (b.1,b.2.1,b.2.2.1,(b.2.2.2.1,b.2.2.2.2.1,r47))) else ( none)))
def wV (b:Q6) (key:Q1) (flag:Int):Option (Q6×Int):= (sh b key flag).bind fun r14=> bif (r14 != 0) then ( some (b,r14)) else ( (pS b key (IntKind.i64.wrap (1+flag))).bind fun r19=> some (r19,0))
def iJ (_x:Unit) (t:Q3) (v39:Q1) (flag:Int):Option Q27:= (bX t v39).bind fun r51=> (wV t.2.2.2.2.2.2.2 r51 flag).bind fun r55=> some ((t.1,t.2.1,t.2.2.1,t.2.2.2.1,t.2.2.2.2.1,t.2.2.2.2.2.1,t.2.2.2.2.2.2.1,r55.1),r55.2)
def cC (t:Q3) (v39:Q1) (flag:Int):Option Q27:= (bV t.2.1 v39).bind fun r47=> bif (r47 != 0) then ( some (t,r47)) else ( (aV t).bind fun r54=> bif (Nat.beq r54 133) then ( (iN () t v39 flag).bind fun r57=> some (r57.1,r57.2)) else ( bif (Nat.beq r54 134) then ( (gS () t v39 flag).bind fun r80=> some (r80.1,r80.2)) else ( bif (Nat.beq r54 135) then ( (gT () t v39 flag).bind fun r103=> some (r103.1,r103.2)) else ( bif (Nat.beq r54 136) then ( (je () t v39 flag).bind fun r126=> some (r126.1,r126.2)) else ( bif (Nat.beq r54 137) then ( (iJ () t v39 flag).bind fun r149=> some (r149.1,r149.2)) else ( none))))))
def uB (i:Int) (b:Int) (_Cap:Int) (_Keys:(List Q1)) (_Slot:Q1) (Flag:Q1) (_x:Bool):Option Bool:= (idx Flag i).bind fun e3=> some ((gC .u8 e3 b) != 0)
def wB (s:(Q5×Q1)) (key:Q1) (flag:Int) (Cap:Int) (Keys:(List Q1)) (Slot:Q1) (Flag:Q1) (c:Bool):Option Q23:= (su flag).bind fun r6=> bif (r6==0) then ( some (1,c)) else ( (bS s.1 key).bind fun r10=> bif (!r10.2) then ( some (10,c)) else ( (uB r10.1 r6 Cap Keys Slot Flag c).bind fun r14=> some (0,r14)))
def wx (s:(Q5×Q1)) (key:Q1) (flag:Int):Option Q17:= (wB s key flag s.1.1 s.1.2.1 s.1.2.2 s.2 false).bind fun r9=> some (r9.2,r9.1)
def iX (_x:Unit) (t:Q3) (v39:Q1) (flag:Int):Option Q17:= (bX t v39).bind fun r10=> (wx t.2.2.2.1 r10 flag).bind fun r14=> some (r14.1,r14.2)
def xS (c:Q11) (s:Q4) (v11:Q1) (flag:Int):Option Q17:= (ru c s v11 flag).bind fun r6=> bif (r6.2 != 0) then ( some (false,r6.2)) else ( (idx c.2.2 r6.1).bind fun e10=> chk (decide (0≤flag))<| some (((gC .u8 (ar .u8 e10 flag) 1)==1),0))
def gP (_x:Unit) (t:Q3) (v39:Q1) (flag:Int):Option Q17:= (xS t.2.2.2.2.1 t.2.1 v39 flag).bind fun r8=> some (r8.1,r8.2)
def wm (t:Q18) (s:Q4) (v7:Q1) (flag:Int):Option Q17:= (rv t s v7 flag).bind fun r6=> bif (r6.2 != 0) then ( some (false,r6.2)) else ( (idx t.2 r6.1).bind fun e12=> chk (decide (0≤flag))<| some (((gC .u8 e12 (fT .u8 1 flag)) != 0),0))
def ig (_x:Unit) (t:Q3) (v39:Q1) (flag:Int):Option Q17:= (wm t.2.2.2.2.2.1 t.2.1 v39 flag).bind fun r8=> some (r8.1,r8.2)
def ja (_x:Unit) (t:Q3) (v39:Q1) (flag:Int):Option Q17:= (kK t v39 flag).bind fun r8=> bif (r8 != 0) then ( some (false,r8)) else ( bif ((IntKind.i64.wrap (1+flag))==0) then ( (bX t v39).bind fun r15=> (iI t.2.2.2.2.2.2.1.1 r15).bind fun r20=> some (r20,0)) else ( bif ((IntKind.i64.wrap (1+flag))==1) then ( (bX t v39).bind fun r24=> (iI t.2.2.2.2.2.2.1.2.1 r24).bind fun r28=> some (r28,0)) else ( bif ((IntKind.i64.wrap (1+flag))==2) then ( (bX t v39).bind fun r32=> (iI t.2.2.2.2.2.2.1.2.2 r32).bind fun r36=> some (r36,0)) else ( none))))
def iP (b:Q6) (row:Int) (_c:Bool) (r5:Q1) (again14:Q17→Option Bool):Bool×Int→Option Bool:=fun ⟨c12,t13⟩=> bif (decide (t13<(List.length r5:Int))) then ( (idx r5 t13).bind fun e16=> bif (row==0) then ( (idx b.2.2.2.1 (IntKind.i64.wrap (Int.tdiv e16 8))).bind fun e21=> chk (decide (0≤(Int.tmod e16 8)))<| aj ((gC .u8 e21 (fT .u8 1 (Int.tmod e16 8))) != 0) fun b24=> aj (c12&&b24) fun b26=> again14 (b26,(IntKind.i64.wrap (t13+1)))) else ( bif (row==1) then ( (idx b.2.2.2.2.1 (IntKind.i64.wrap (Int.tdiv e16 8))).bind fun e30=> chk (decide (0≤(Int.tmod e16 8)))<| aj ((gC .u8 e30 (fT .u8 1 (Int.tmod e16 8))) != 0) fun b33=> aj (c12&&b33) fun b35=> again14 (b35,(IntKind.i64.wrap (t13+1)))) else ( bif (row==2) then ( (idx b.2.2.2.2.2 (IntKind.i64.wrap (Int.tdiv e16 8))).bind fun e39=> chk (decide (0≤(Int.tmod e16 8)))<| aj ((gC .u8 e39 (fT .u8 1 (Int.tmod e16 8))) != 0) fun b42=> aj (c12&&b42) fun b44=> again14 (b44,(IntKind.i64.wrap (t13+1)))) else ( none)))) else ( some c12)
def rH (b:Q6) (key:Q1) (row:Int) (c:Bool):Option Bool:= (gu key b.2.2.1 b.2.1 b.1).bind fun r5=> aq (iP b row c r5) au (c,0)
def pQ (b:Q6) (key:Q1) (row:Int):Option Bool:= (rH b key row true).bind fun r8=> some r8
def w9 (b:Q6) (key:Q1) (flag:Int):Option Q17:= (sh b key flag).bind fun r6=> bif (r6 != 0) then ( some (false,r6)) else ( (pQ b key (IntKind.i64.wrap (1+flag))).bind fun r10=> some (r10,0))
def iU (_x:Unit) (t:Q3) (v39:Q1) (flag:Int):Option Q17:= (bX t v39).bind fun r10=> (w9 t.2.2.2.2.2.2.2 r10 flag).bind fun r14=> some (r14.1,r14.2)
def bU (t:Q3) (v39:Q1) (flag:Int):Option Q17:= (bV t.2.1 v39).bind fun r6=> bif (r6 != 0) then ( some (false,r6)) else ( (aV t).bind fun r12=> bif (Nat.beq r12 133) then ( (iX () t v39 flag).bind fun r15=> some (r15.1,r15.2)) else ( bif (Nat.beq r12 134) then ( (gP () t v39 flag).bind fun r18=> some (r18.1,r18.2)) else ( bif (Nat.beq r12 135) then ( (ig () t v39 flag).bind fun r21=> some (r21.1,r21.2)) else ( bif (Nat.beq r12 136) then ( (ja () t v39 flag).bind fun r24=> some (r24.1,r24.2)) else ( bif (Nat.beq r12 137) then ( (iU () t v39 flag).bind fun r27=> some (r27.1,r27.2)) else ( none))))))
def pM (s:(Q5×Q1)) (key:Q1):Option Bool:= (bS s.1 key).bind fun r5=> some r5.2
def fL (_x:Unit) (t:Q3) (v39:Q1):Option Bool:= (bX t v39).bind fun r9=> (pM t.2.2.2.1 r9).bind fun r14=> some r14
def pN (c:Q11) (s:Q4) (v11:Q1):Option Q17:= (bV s v11).bind fun r6=> bif (r6 != 0) then ( some (false,r6)) else ( (jd c s v11).bind fun r10=> some ((decide (0≤r10)),0))
def fv (_x:Unit) (t:Q3) (v39:Q1):Option Bool:= (pN t.2.2.2.2.1 t.2.1 v39).bind fun r7=> some r7.1
def pO (t:Q18) (s:Q4) (v7:Q1):Option Q17:= (bV s v7).bind fun r6=> bif (r6 != 0) then ( some (false,r6)) else ( (lE t s v7).bind fun r10=> some (r10.2,0))
def fm (_x:Unit) (t:Q3) (v39:Q1):Option Bool:= (pO t.2.2.2.2.2.1 t.2.1 v39).bind fun r7=> some r7.1
def fF (_x:Unit) (t:Q3) (v39:Q1):Option Bool:= (bX t v39).bind fun r9=> (iI t.2.2.2.2.2.2.1.1 r9).bind fun r14=> some r14
def fE (_x:Unit) (t:Q3) (v39:Q1):Option Bool:= (bX t v39).bind fun r9=> (kP t.2.2.2.2.2.2.2 r9).bind fun r14=> some r14
def bu (t:Q3) (v39:Q1):Option Q17:= (bV t.2.1 v39).bind fun r6=> bif (r6 != 0) then ( some (false,r6)) else ( (aV t).bind fun r12=> bif (Nat.beq r12 133) then ( (fL () t v39).bind fun r15=> some (r15,0)) else ( bif (Nat.beq r12 134) then ( (fv () t v39).bind fun r18=> some (r18,0)) else ( bif (Nat.beq r12 135) then ( (fm () t v39).bind fun r21=> some (r21,0)) else ( bif (Nat.beq r12 136) then ( (fF () t v39).bind fun r24=> some (r24,0)) else ( bif (Nat.beq r12 137) then ( (fE () t v39).bind fun r27=> some (r27,0)) else ( none))))))
def zr (s:(Q5×Q1)):Option Int:= (iQ s.1).bind fun r5=> some r5
def gN (_x:Unit) (t:Q3):Option Int:= (zr t.2.2.2.1).bind fun r7=> some r7
def gm (_x:Unit) (t:Q3):Option Int:= (nQ t.2.2.2.2.1).bind fun r7=> some r7
def gb (_x:Unit) (t:Q3):Option Int:= (lq t.2.2.2.2.2.1).bind fun r7=> some r7
def ij (_x:Unit) (t:Q3):Option Int:= (sU t.2.2.2.2.2.2.1.1).bind fun r7=> some r7
def jT (t7:Int) (again8:Q13→Option Int) (again15:Q13→Option Int):Int×Int→Option Int:=fun ⟨n13,c14⟩=> bif (decide (0<c14)) then ( again15 ((IntKind.i64.wrap (n13+1)),(gC .u8 c14 (IntKind.u8.wrap (c14-1))))) else ( again8 (n13,(IntKind.i64.wrap (t7+1))))
def sP (b:Q6) (again8:Q13→Option Int):Int×Int→Option Int:=fun ⟨n6,t7⟩=> bif (decide (t7<(List.length b.2.2.2.1:Int))) then ( (idx b.2.2.2.1 t7).bind fun e10=> aq (jT t7 again8) au (n6,e10)) else ( some n6)
def tu (b:Q6):Option Int:= aq (sP b) au (0,0)
def gQ (_x:Unit) (t:Q3):Option Int:= (tu t.2.2.2.2.2.2.2).bind fun r7=> some r7
def bZ (t:Q3):Option Int:= (aV t).bind fun r7=> bif (Nat.beq r7 133) then ( (gN () t).bind fun r10=> some r10) else ( bif (Nat.beq r7 134) then ( (gm () t).bind fun r13=> some r13) else ( bif (Nat.beq r7 135) then ( (gb () t).bind fun r16=> some r16) else ( bif (Nat.beq r7 136) then ( (ij () t).bind fun r19=> some r19) else ( bif (Nat.beq r7 137) then ( (gQ () t).bind fun r22=> some r22) else ( none)))))
def uA (again7:Int→Option Bool) (k6:Int):Option Bool:= bif (decide (k6<5)) then ( (cn ([(0,9)]:List Q13) (k6,1,0,1,4000,2)).bind fun r9=> (aZ r9.1 ([3]:List Int)).bind fun r36=> (aZ r36.1 ([3]:List Int)).bind fun r63=> (aZ r36.1 ([4]:List Int)).bind fun r90=> (aZ r36.1 ([10]:List Int)).bind fun r117=> (cC r36.1 ([3]:List Int) 0).bind fun r144=> (bU r144.1 ([3]:List Int) 0).bind fun r171=> (bU r144.1 ([3]:List Int) 1).bind fun r176=> (bu r144.1 ([3]:List Int)).bind fun r181=> aj (r9.2 != 0) fun b184=> aj (!r36.2.1) fun b186=> aj (b184||b186) fun b188=> aj (r36.2.2 != 0) fun b190=> aj (b188||b190) fun b192=> aj (b192||r63.2.1) fun b194=> aj (r63.2.2 != 0) fun b196=> aj (b194||b196) fun b198=> aj (r90.2.2==7) fun b200=> aj (decide (k6<4)) fun b202=> aj (b200 != b202) fun b204=> aj (b198||b204) fun b206=> aj (r117.2.2 != 5) fun b208=> aj (b206||b208) fun b210=> aj (r144.2 != 0) fun b212=> aj (b210||b212) fun b214=> aj (!r171.1) fun b216=> aj (b214||b216) fun b218=> aj (r171.2 != 0) fun b220=> aj (b218||b220) fun b222=> aj (b222||r176.1) fun b224=> aj (r176.2 != 0) fun b226=> aj (b224||b226) fun b228=> aj (!r181.1) fun b230=> aj (b228||b230) fun b232=> aj (r181.2 != 0) fun b234=> aj (b232||b234) fun b236=> cf (!b236) default (bZ r144.1) fun r238=> aj (decide (r238<1)) fun b244=> aj (b236||b244) fun b246=> bif b246 then ( some false) else ( again7 (IntKind.i64.wrap (k6+1)))) else ( (cn ([(0,9)]:List Q13) (5,0,0,0,0,0)).bind fun r249=> some (r249.2==1))
def kU:Option Bool:= aq uA au 0
def dQ (s:Q4) (again12:Int→Option Bool) (i11:Int):Option Bool:= bif (decide (i11<(List.length s:Int))) then ( (idx s i11).bind fun e16=> (idx s i11).bind fun e18=> aj (decide (e18.2<e16.1)) fun b20=> cf (!b20) (0,0) (idx s i11) fun e22=> aj (decide (e22.1<(-1073741824))) fun b24=> aj (b20||b24) fun b26=> cf (!b26) (0,0) (idx s i11) fun e28=> aj (decide (1073741824<e28.2)) fun b30=> aj (b26||b30) fun b32=> cf (!b32) (0,0) (idx s i11) fun e34=> cf (!b32) (0,0) (idx s i11) fun e36=> aj (decide (65535<(IntKind.i64.wrap (e34.2-e36.1)))) fun b38=> aj (b32||b38) fun b40=> bif b40 then ( some false) else ( again12 (IntKind.i64.wrap (i11+1)))) else ( some true)
def im (s:Q4):Option Bool:= aj (decide ((List.length s:Int)<1)) fun b3=> aj (decide (17<(List.length s:Int))) fun b5=> aj (b3||b5) fun b7=> bif b7 then ( some false) else ( aq (dQ s) au 0)
def eK (l:(List Q29)) (again6:Int→Option Bool) (i5:Int):Option Bool:= bif (decide (i5<(List.length l:Int))) then ( (idx l i5).bind fun e8=> bif (decide (40<(List.length e8.2.1:Int))) then ( some false) else ( again6 (IntKind.i64.wrap (i5+1)))) else ( some true)
def ga (l:(List Q29)) (most:Int):Option Bool:= bif (decide (most<(List.length l:Int))) then ( some false) else ( aq (eK l) au 0)
def eT (a:Q1) (b:Q1) (again6:Int→Option Bool) (i5:Int):Option Bool:= bif (decide (i5<(List.length a:Int))) then ( (idx a i5).bind fun e10=> (idx b i5).bind fun e12=> bif (e10 != e12) then ( some false) else ( again6 (IntKind.i64.wrap (i5+1)))) else ( some true)
def gi (a:Q1) (b:Q1):Option Bool:= bif ((List.length a:Int) != (List.length b:Int)) then ( some false) else ( aq (eT a b) au 0)
def fu (s:Q4) (v3:Q1) (again6:Int→Option Int) (i5:Int):Option Int:= bif (decide (i5<(List.length v3:Int))) then ( (idx v3 i5).bind fun e10=> (idx s i5).bind fun e12=> aj (decide (e10<e12.1)) fun b14=> cf (!b14) 0 (idx v3 i5) fun e16=> cf (!b14) (0,0) (idx s i5) fun e18=> aj (decide (e18.2<e16)) fun b20=> aj (b14||b20) fun b22=> bif b22 then ( some 5) else ( again6 (IntKind.i64.wrap (i5+1)))) else ( some 0)
def dj (s:Q4) (v3:Q1):Option Int:= bif ((List.length v3:Int) != (List.length s:Int)) then ( some 1) else ( aq (fu s v3) au 0)
def qv (i102:Int) (again103:Q10→Option Bool) (r156:Q25) (in227:(List Q1)) (again236:Int→Option Bool) (k235:Int):Option Bool:= bif (decide (k235<(List.length in227:Int))) then ( (idx in227 k235).bind fun e240=> (bu r156.1 e240).bind fun r246=> aj (!r246.1) fun b249=> aj (r246.2 != 0) fun b251=> aj (b249||b251) fun b253=> bif b253 then ( some false) else ( again236 (IntKind.i64.wrap (k235+1)))) else ( again103 (r156.1.1,r156.1.2.1,r156.1.2.2.1,r156.1.2.2.2.1.1.1,r156.1.2.2.2.1.1.2.1,r156.1.2.2.2.1.1.2.2,r156.1.2.2.2.1.2,r156.1.2.2.2.2.1.1,r156.1.2.2.2.2.1.2.1.1,r156.1.2.2.2.2.1.2.1.2.1,r156.1.2.2.2.2.1.2.1.2.2,r156.1.2.2.2.2.1.2.2,r156.1.2.2.2.2.2.1.1,r156.1.2.2.2.2.2.1.2,r156.1.2.2.2.2.2.2.1.1.1,r156.1.2.2.2.2.2.2.1.1.2.1,r156.1.2.2.2.2.2.2.1.1.2.2.1,r156.1.2.2.2.2.2.2.1.1.2.2.2.1,r156.1.2.2.2.2.2.2.1.1.2.2.2.2,r156.1.2.2.2.2.2.2.1.2.1.1,r156.1.2.2.2.2.2.2.1.2.1.2.1,r156.1.2.2.2.2.2.2.1.2.1.2.2.1,r156.1.2.2.2.2.2.2.1.2.1.2.2.2.1,r156.1.2.2.2.2.2.2.1.2.1.2.2.2.2,r156.1.2.2.2.2.2.2.1.2.2.1,r156.1.2.2.2.2.2.2.1.2.2.2.1,r156.1.2.2.2.2.2.2.1.2.2.2.2.1,r156.1.2.2.2.2.2.2.1.2.2.2.2.2.1,r156.1.2.2.2.2.2.2.1.2.2.2.2.2.2,r156.1.2.2.2.2.2.2.2.1,r156.1.2.2.2.2.2.2.2.2.1,r156.1.2.2.2.2.2.2.2.2.2.1,r156.1.2.2.2.2.2.2.2.2.2.2.1,r156.1.2.2.2.2.2.2.2.2.2.2.2.1,r156.1.2.2.2.2.2.2.2.2.2.2.2.2,in227,(IntKind.i64.wrap (i102+1))))
def qB (i102:Int) (again103:Q10→Option Bool) (r156:Q25) (in227:(List Q1)):Option Bool:= (bZ r156.1).bind fun r230=> bif (r230 != (List.length in227:Int)) then ( some false) else ( aq (qv i102 again103 r156 in227) au 0)
def fY (with_:(Q4×Int×Int×(List Q1))) (c45:Int) (c46:Q4) (c48:Int) (c49:Int) (c50:(List Q1)) (c52:Q1) (c54:Q1) (c56:(List Q5)) (c58:Int) (c59:(List Q1)) (c61:Q1) (c63:Q1) (c65:(List Q5)) (c67:Q1) (c69:Int) (c70:Q7) (c72:Int) (c73:Int) (c74:Q1) (c76:Int) (c77:Q7) (c79:Int) (c80:Int) (c81:Q1) (c83:Int) (c84:Q7) (c86:Int) (c87:Int) (c88:Q1) (c90:Int) (c91:Int) (c92:Int) (c93:Q1) (c95:Q1) (c97:Q1) (in99:(List Q1)) (i102:Int) (again103:Q10→Option Bool) (again115:Q17→Option Bool):Bool×Int→Option Bool:=fun ⟨has113,k114⟩=> bif (decide (k114<(List.length in99:Int))) then ( cf (!has113) [] (idx in99 k114) fun e119=> cf (!has113) [] (idx with_.2.2.2 i102) fun e125=> cf (!has113) default (gi e119 e125) fun r131=> aj (has113||r131) fun b137=> again115 (b137,(IntKind.i64.wrap (k114+1)))) else ( (idx with_.2.2.2 i102).bind fun e139=> (dj with_.1 e139).bind fun r145=> (idx with_.2.2.2 i102).bind fun e150=> (aZ (c45,c46,c48,((c49,c50,c52),c54),(c56,(c58,c59,c61),c63),(c65,c67),((c69,c70,c72,c73,c74),(c76,c77,c79,c80,c81),(c83,c84,c86,c87,c88)),(c90,c91,c92,(c93,c95,c97))) e150).bind fun r156=> aj (r145==0) fun b181=> aj (!has113) fun b183=> aj (b181&&b183) fun b185=> aj (decide ((Int.tmod (IntKind.i64.wrap with_.2.2.1) 21)≤(List.length in99:Int))) fun b187=> aj (b185&&b187) fun b189=> aj (r145 != 0) fun b191=> aj (r156.2.2 != r145) fun b193=> aj (b193||r156.2.1) fun b195=> aj (b191&&b195) fun b197=> aj (r145==0) fun b199=> aj (r156.2.2==7) fun b201=> aj (b201 != b189) fun b203=> aj (r156.2.2==0) fun b205=> aj (b205==b189) fun b207=> aj (b203||b207) fun b209=> aj (!has113) fun b211=> aj (!b189) fun b213=> aj (b211&&b213) fun b215=> aj (r156.2.1 != b215) fun b217=> aj (b209||b217) fun b219=> aj (b199&&b219) fun b221=> aj (b197||b221) fun b223=> bif b223 then ( some false) else ( aj (fun (s258:(List Q1))=>qB i102 again103 r156 s258) fun kk257=> bif r156.2.1 then ( (idx with_.2.2.2 i102).bind fun e260=> chk (aw (List.length in99+List.length ([e260]:List Q1)) 24)<| kk257 (in99++([e260]:List Q1))) else ( kk257 in99)))
def mw (s:Q4) (most:Int):Option (Q8×Int):= aj (decide (most<0)) fun b11=> aj (decide (1048576<most)) fun b13=> aj (b11||b13) fun b15=> bif b15 then ( some (([],0,[],[]),1)) else ( some ((s,most,[],[]),0))
def eX (m:Int) (k:Int) (seed:Int):Option (Q6×Int):= aj (decide (m<1)) fun b12=> aj (decide (4194304<m)) fun b14=> aj (b12||b14) fun b16=> aj (decide (k<1)) fun b18=> aj (b16||b18) fun b20=> aj (decide (16<k)) fun b22=> aj (b20||b22) fun b24=> bif b24 then ( some ((0,0,0,([],[],[])),1)) else ( some ((m,k,seed,([],[],[])),0))
def gf (s:Q4) (o:Q14):Option (Q20×Int):= (im s).bind fun r20=> aj (!r20) fun b23=> aj (decide (o.1<0)) fun b25=> aj (b23||b25) fun b27=> aj (decide (4<o.1)) fun b29=> aj (b27||b29) fun b31=> bif b31 then ( some (([],false,([],0,[],[]),(0,0,0,([],[],[]))),1)) else ( (mw s o.2.1).bind fun r35=> bif (r35.2 != 0) then ( some (([],false,([],0,[],[]),(0,0,0,([],[],[]))),r35.2)) else ( bif (decide (o.1<4)) then ( some ((s,false,r35.1,(0,0,0,([],[],[]))),0)) else ( (eX o.2.2.2.2.1 o.2.2.2.2.2 o.2.2.2.1).bind fun r50=> bif (r50.2 != 0) then ( some (([],false,([],0,[],[]),(0,0,0,([],[],[]))),r50.2)) else ( some ((s,true,([],0,[],[]),r50.1),0)))))
def j8 (again8:Q13→Option Int):Int×Int→Option Int:=fun ⟨k6,n7⟩=> bif (decide (0<n7)) then ( again8 ((IntKind.i64.wrap (k6+1)),(IntKind.i64.wrap (Int.tdiv n7 2)))) else ( some k6)
def fG (f:Q13):Option Int:= aq j8 au (0,(IntKind.i64.wrap (f.2-f.1)))
def jK (again6:Q13→Option Int):Int×Int→Option Int:=fun ⟨n4,k5⟩=> bif (decide (0<n4)) then ( again6 ((IntKind.u64.wrap (Int.tdiv n4 2)),(IntKind.i64.wrap (k5+1)))) else ( some k5)
def jb (n:Int):Option Int:= aq jK au (n,0)
def kA (k:Int) (again11:Q13→Option Int):Int×Int→Option Int:=fun ⟨c9,i10⟩=> bif (decide (i10<(IntKind.i64.wrap (7-(Int.tmod k 8))))) then ( again11 ((IntKind.i64.wrap (Int.tdiv c9 2)),(IntKind.i64.wrap (i10+1)))) else ( some (Int.tmod c9 2))
def jG (w1:Q12) (k:Int):Option Int:= (idx w1.1 (IntKind.i64.wrap (Int.tdiv k 8))).bind fun e6=> aq (kA k) au ((IntKind.i64.wrap e6),0)
def ka (w1:Q12) (again13:Q12→Option Q1):Q1×Int→Option Q1:=fun ⟨l9,k12⟩=> bif (decide (k12<w1.2)) then ( (jG w1 k12).bind fun r15=> chk (aw (List.length l9+List.length ([r15]:List Int)) 8)<| again13 ((l9++([r15]:List Int)),(IntKind.i64.wrap (k12+1)))) else ( some l9)
def jg (w1:Q12):Option Q1:= aq (ka w1) au ([],0)
def ky (l:Q1) (i13:Int) (again14:Q12→Option Q12) (c17:Q1) (again23:Q13→Option Q12):Int×Int→Option Q12:=fun ⟨p21,k22⟩=> bif (decide (k22<(IntKind.i64.wrap (7-(Int.tmod i13 8))))) then ( again23 ((IntKind.i64.wrap (2*p21)),(IntKind.i64.wrap (k22+1)))) else ( (idx c17 (IntKind.i64.wrap (Int.tdiv i13 8))).bind fun e27=> (idx l i13).bind fun e29=> (idx c17 (IntKind.i64.wrap (Int.tdiv i13 8))).bind fun _e31=> again14 ((List.set c17 (Int.toNat (IntKind.i64.wrap (Int.tdiv i13 8))) (IntKind.u8.wrap (e27+(IntKind.u8.wrap (IntKind.i64.wrap (e29*p21)))))),(IntKind.i64.wrap (i13+1))))
def gF (l:Q1) (i13:Int) (again14:Q12→Option Q12) (c17:Q1):Option Q12:= aq (ky l i13 again14 c17) au (1,0)
def kc (l:Q1) (again14:Q12→Option Q12):Q1×Int→Option Q12:=fun ⟨l10,i13⟩=> bif (decide (i13<(List.length l:Int))) then ( aj (fun (s35:Q1)=>gF l i13 again14 s35) fun kk34=> bif ((Int.tmod i13 8)==0) then ( chk (aw (List.length l10+List.length ([0]:List Int)) 1)<| kk34 (l10++([0]:List Int))) else ( kk34 l10)) else ( some (l10,(List.length l:Int)))
def jx (l:Q1):Option Q12:= aq (kc l) au ([],0)
def kG (w1:Q12) (again31:Q29→Option (Q12×Int)):Int×Q1×Int→Option (Q12×Int):=fun ⟨n28,l29,i30⟩=> bif (decide (0≤i30)) then ( (idx l29 i30).bind fun _e33=> again31 ((IntKind.u64.wrap (Int.tdiv n28 2)),(List.set l29 (Int.toNat i30) (IntKind.i64.wrap (Int.tmod n28 2))),(IntKind.i64.wrap (i30-1)))) else ( (jg w1).bind fun r36=> chk (aw (List.length r36+List.length l29) 8)<| (jx (r36++l29)).bind fun r45=> some (r45,0))
def jC (w1:Q12) (n:Int) (wide:Int):Option (Q12×Int):= aj (decide (wide<0)) fun b10=> aj (decide (64<wide)) fun b12=> aj (b10||b12) fun b14=> bif b14 then ( some (w1,1)) else ( (jb n).bind fun r18=> bif (decide (wide<r18)) then ( some (w1,5)) else ( chk (decide (0≤wide))<| chk (aw (Int.toNat wide) 8)<| aq (kG w1) au (n,(List.replicate (Int.toNat wide) 0),(IntKind.i64.wrap (wide-1)))))
def j9 (s:Q4) (again6:Q13→Option Int):Int×Int→Option Int:=fun ⟨n4,i5⟩=> bif (decide (i5<(List.length s:Int))) then ( (idx s i5).bind fun e8=> (fG e8).bind fun r10=> again6 ((IntKind.i64.wrap (n4+r10)),(IntKind.i64.wrap (i5+1)))) else ( some n4)
def iT (s:Q4):Option Int:= aq (j9 s) au (0,0)
def iv (s:Q4):Option Int:= (iT s).bind fun r3=> bif (r3==0) then ( some 1) else ( some (IntKind.i64.wrap (Int.tdiv (IntKind.i64.wrap (r3+7)) 8)))
def iy (s:Q4) (again50:Q1→Option Q12) (out47:Q1):Option Q12:= (iv s).bind fun r51=> bif (decide ((List.length out47:Int)<r51)) then ( chk (aw (List.length out47+List.length ([0]:List Int)) 1)<| again50 (out47++([0]:List Int))) else ( some (out47,0))
def iA (s:Q4) (v3:Q1) (again19:(Q1×Int×Int)→Option Q12):Q1×Int×Int→Option Q12:=fun ⟨c15,c17,i18⟩=> bif (decide (i18<(List.length v3:Int))) then ( (idx v3 i18).bind fun e23=> (idx s i18).bind fun e25=> (idx s i18).bind fun e27=> (fG e27).bind fun r29=> (jC (c15,c17) (IntKind.u64.wrap (IntKind.i64.wrap (e23-e25.1))) r29).bind fun r32=> again19 (r32.1.1,r32.1.2,(IntKind.i64.wrap (i18+1)))) else ( chk (aw (List.length ([]:List Int)+List.length c15) 1)<| aq (iy s) au (([]:List Int)++c15))
def cL (s:Q4) (v3:Q1):Option Q12:= (dj s v3).bind fun r8=> bif (r8 != 0) then ( some ([],r8)) else ( aq (iA s v3) au ([],0,0))
def jN (b:Q1) (again6:Q13→Option Int):Int×Int→Option Int:=fun ⟨h4,i5⟩=> bif (decide (i5<(List.length b:Int))) then ( (idx b i5).bind fun e8=> again6 ((IntKind.u64.wrap ((gM .u64 h4 (IntKind.u64.wrap e8))*1099511628211)),(IntKind.i64.wrap (i5+1)))) else ( some (gM .u64 (IntKind.u64.wrap ((gM .u64 h4 (IntKind.u64.wrap (Int.tdiv h4 536870912)))*13787848793156543929)) (IntKind.u64.wrap (Int.tdiv (IntKind.u64.wrap ((gM .u64 h4 (IntKind.u64.wrap (Int.tdiv h4 536870912)))*13787848793156543929)) 4294967296))))
def iV (b:Q1) (seed:Int):Option Int:= aq (jN b) au ((gM .u64 seed 11400714819323198485),0)
def ix (h:Int) (n:Int):Option Int:= bif (decide (n<1)) then ( some 0) else ( chk ((IntKind.u64.wrap n) != 0)<| some (IntKind.i64.wrap (Int.tmod h (IntKind.u64.wrap n))))
def iz (b:Q1) (seed:Int) (k:Int) (n:Int) (again10:Q12→Option Q1):Q1×Int→Option Q1:=fun ⟨out6,i9⟩=> bif (decide (i9<k)) then ( (iV b (IntKind.u64.wrap (seed+(IntKind.u64.wrap i9)))).bind fun r12=> (ix r12 n).bind fun r15=> chk (aw (List.length out6+List.length ([r15]:List Int)) 8)<| again10 ((out6++([r15]:List Int)),(IntKind.i64.wrap (i9+1)))) else ( some out6)
def bf (b:Q1) (seed:Int) (k:Int) (n:Int):Option Q1:= aq (iz b seed k n) au ([],0)
def uy (l:Q1) (n:Int) (again5:Int→Option Bool) (i4:Int):Option Bool:= bif (decide (i4<(List.length l:Int))) then ( (idx l i4).bind fun e7=> bif (e7==n) then ( some true) else ( again5 (IntKind.i64.wrap (i4+1)))) else ( some false)
def kR (l:Q1) (n:Int):Option Bool:= aq (uy l n) au 0
def dN (u:Q8) (v7:Q1) (again7:Int→Option Int) (i6:Int):Option Int:= bif (decide (i6<(List.length u.2.2.1:Int))) then ( (idx u.2.2.1 i6).bind fun e9=> (gi e9 v7).bind fun r15=> bif r15 then ( some i6) else ( again7 (IntKind.i64.wrap (i6+1)))) else ( some (-1))
def cR (u:Q8) (v7:Q1):Option Int:= aq (dN u v7) au 0
def gB (u:Q8) (v7:Q1):Option (Q8×Bool×Int):= (dj u.1 v7).bind fun r16=> bif (r16 != 0) then ( some (u,false,r16)) else ( (cR u v7).bind fun r21=> bif (decide (0≤r21)) then ( some (u,false,0)) else ( bif (decide (u.2.1≤(List.length u.2.2.1:Int))) then ( some (u,false,7)) else ( chk (aw (List.length ([]:List Q1)+List.length u.2.2.1) 24)<| chk (aw (List.length ([]:List Int)+List.length v7) 8)<| chk (aw (List.length (([]:List Q1)++u.2.2.1)+List.length ([(([]:List Int)++v7)]:List Q1)) 24)<| chk (aw (List.length ([]:List Q21)+List.length u.2.2.2) 2)<| chk (aw (List.length (([]:List Q21)++u.2.2.2)+List.length ([(false,false)]:List Q21)) 2)<| some ((u.1,u.2.1,((([]:List Q1)++u.2.2.1)++([(([]:List Int)++v7)]:List Q1)),((([]:List Q21)++u.2.2.2)++([(false,false)]:List Q21))),true,0))))
def fp (l:Q1) (n:Int) (again5:Int→Option Bool) (i4:Int):Option Bool:= bif (decide (i4<(List.length l:Int))) then ( (idx l i4).bind fun e7=> bif (e7==n) then ( some true) else ( again5 (IntKind.i64.wrap (i4+1)))) else ( some false)
def fy (l:Q1) (n:Int):Option Bool:= aq (fp l n) au 0
def eN (l:Q1) (p:Q1) (again5:Int→Option Bool) (i4:Int):Option Bool:= bif (decide (i4<(List.length p:Int))) then ( (idx p i4).bind fun e7=> (fy l e7).bind fun r9=> bif (!r9) then ( some false) else ( again5 (IntKind.i64.wrap (i4+1)))) else ( some true)
def dD (l:Q1) (p:Q1):Option Bool:= aq (eN l p) au 0
def cH (b:Q6) (key:Q1):Option Bool:= (bf key b.2.2.1 b.2.1 b.1).bind fun r7=> (dD b.2.2.2.1 r7).bind fun r12=> some r12
def df (p:Q1) (again17:Q12→Option Q1):Q1×Int→Option Q1:=fun ⟨out13,i16⟩=> bif (decide (i16<(List.length p:Int))) then ( (idx p i16).bind fun e19=> (kR out13 e19).bind fun r21=> bif (!r21) then ( (idx p i16).bind fun e25=> chk (aw (List.length out13+List.length ([e25]:List Int)) 8)<| again17 ((out13++([e25]:List Int)),(IntKind.i64.wrap (i16+1)))) else ( again17 (out13,(IntKind.i64.wrap (i16+1))))) else ( some out13)
def dn (l:Q1) (p:Q1):Option Q1:= chk (aw (List.length ([]:List Int)+List.length l) 8)<| aq (df p) au ((([]:List Int)++l),0)
def gw (b:Q6) (key:Q1):Option (Q6×Bool):= (cH b key).bind fun r14=> (bf key b.2.2.1 b.2.1 b.1).bind fun r19=> (dn b.2.2.2.1 r19).bind fun r24=> some ((b.1,b.2.1,b.2.2.1,(r24,b.2.2.2.2.1,b.2.2.2.2.2)),(!r14))
def dy (t:Q20) (v15:Q1):Option (Q20×Bool×Int):= bif (!t.2.1) then ( (gB t.2.2.1 v15).bind fun r25=> some ((t.1,t.2.1,r25.1,t.2.2.2),r25.2.1,r25.2.2)) else ( (cL t.1 v15).bind fun r36=> bif (r36.2 != 0) then ( some (t,false,r36.2)) else ( (gw t.2.2.2 r36.1).bind fun r43=> some ((t.1,t.2.1,t.2.2.1,r43.1),r43.2,0)))
def gE (u:Q8) (v7:Q1):Option Q17:= (dj u.1 v7).bind fun r6=> bif (r6 != 0) then ( some (false,r6)) else ( (cR u v7).bind fun r10=> some ((decide (0≤r10)),0))
def dv (t:Q20) (v15:Q1):Option Q17:= bif (!t.2.1) then ( (gE t.2.2.1 v15).bind fun r7=> some (r7.1,r7.2)) else ( (cL t.1 v15).bind fun r10=> bif (r10.2 != 0) then ( some (false,r10.2)) else ( (cH t.2.2.2 r10.1).bind fun r16=> some (r16,0)))
def dY (t:Q20):Option Int:= bif t.2.1 then ( some (List.length t.2.2.2.2.2.2.1:Int)) else ( some (List.length t.2.2.1.2.2.1:Int))
def fC (u:Q8) (v7:Q1) (flag:Int):Option Q13:= (dj u.1 v7).bind fun r6=> bif (r6 != 0) then ( some (0,r6)) else ( aj (decide (flag<0)) fun b10=> aj (decide (1<flag)) fun b12=> aj (b10||b12) fun b14=> bif b14 then ( some (0,1)) else ( (cR u v7).bind fun r17=> bif (decide (r17<0)) then ( some (0,10)) else ( some (r17,0))))
def jB (u:Q8) (v7:Q1) (flag:Int):Option (Q8×Int):= (fC u v7 flag).bind fun r15=> bif (r15.2 != 0) then ( some (u,r15.2)) else ( chk (aw (List.length ([]:List Q21)+List.length u.2.2.2) 2)<| (idx (([]:List Q21)++u.2.2.2) r15.1).bind fun e26=> bif (flag==0) then ( some ((u.1,u.2.1,u.2.2.1,(List.set (([]:List Q21)++u.2.2.2) (Int.toNat r15.1) (true,e26.2))),0)) else ( bif (flag==1) then ( some ((u.1,u.2.1,u.2.2.1,(List.set (([]:List Q21)++u.2.2.2) (Int.toNat r15.1) (e26.1,true))),0)) else ( none)))
def jF (b:Q6) (key:Q1) (flag:Int):Option (Q6×Int):= aj (decide (flag<0)) fun b14=> aj (decide (1<flag)) fun b16=> aj (b14||b16) fun b18=> bif b18 then ( some (b,1)) else ( (cH b key).bind fun r22=> bif (!r22) then ( some (b,10)) else ( bif ((IntKind.i64.wrap (flag+1))==0) then ( (bf key b.2.2.1 b.2.1 b.1).bind fun r30=> (dn b.2.2.2.1 r30).bind fun r35=> bif ((IntKind.i64.wrap (flag+1))==0) then ( some ((b.1,b.2.1,b.2.2.1,(r35,b.2.2.2.2.1,b.2.2.2.2.2)),0)) else ( bif ((IntKind.i64.wrap (flag+1))==1) then ( some ((b.1,b.2.1,b.2.2.1,(b.2.2.2.1,r35,b.2.2.2.2.2)),0)) else ( bif ((IntKind.i64.wrap (flag+1))==2) then ( some ((b.1,b.2.1,b.2.2.1,(b.2.2.2.1,b.2.2.2.2.1,r35)),0)) else ( none)))) else ( bif ((IntKind.i64.wrap (flag+1))==1) then ( (bf key b.2.2.1 b.2.1 b.1).bind fun r50=> (dn b.2.2.2.2.1 r50).bind fun r55=> bif ((IntKind.i64.wrap (flag+1))==0) then ( some ((b.1,b.2.1,b.2.2.1,(r55,b.2.2.2.2.1,b.2.2.2.2.2)),0)) else ( bif ((IntKind.i64.wrap (flag+1))==1) then ( some ((b.1,b.2.1,b.2.2.1,(b.2.2.2.1,r55,b.2.2.2.2.2)),0)) else ( bif ((IntKind.i64.wrap (flag+1))==2) then ( some ((b.1,b.2.1,b.2.2.1,(b.2.2.2.1,b.2.2.2.2.1,r55)),0)) else ( none)))) else ( bif ((IntKind.i64.wrap (flag+1))==2) then ( (bf key b.2.2.1 b.2.1 b.1).bind fun r70=> (dn b.2.2.2.2.2 r70).bind fun r75=> bif ((IntKind.i64.wrap (flag+1))==0) then ( some ((b.1,b.2.1,b.2.2.1,(r75,b.2.2.2.2.1,b.2.2.2.2.2)),0)) else ( bif ((IntKind.i64.wrap (flag+1))==1) then ( some ((b.1,b.2.1,b.2.2.1,(b.2.2.2.1,r75,b.2.2.2.2.2)),0)) else ( bif ((IntKind.i64.wrap (flag+1))==2) then ( some ((b.1,b.2.1,b.2.2.1,(b.2.2.2.1,b.2.2.2.2.1,r75)),0)) else ( none)))) else ( none)))))
def dV (t:Q20) (v15:Q1) (flag:Int):Option (Q20×Int):= bif (!t.2.1) then ( (jB t.2.2.1 v15 flag).bind fun r24=> some ((t.1,t.2.1,r24.1,t.2.2.2),r24.2)) else ( (cL t.1 v15).bind fun r35=> bif (r35.2 != 0) then ( some (t,r35.2)) else ( (jF t.2.2.2 r35.1 flag).bind fun r42=> some ((t.1,t.2.1,t.2.2.1,r42.1),r42.2)))
def jA (u:Q8) (v7:Q1) (flag:Int):Option Q17:= (fC u v7 flag).bind fun r6=> bif (r6.2 != 0) then ( some (false,r6.2)) else ( (idx u.2.2.2 r6.1).bind fun e10=> bif (flag==0) then ( some (e10.1,0)) else ( bif (flag==1) then ( some (e10.2,0)) else ( none)))
def jH (b:Q6) (key:Q1) (flag:Int):Option Q17:= aj (decide (flag<0)) fun b6=> aj (decide (1<flag)) fun b8=> aj (b6||b8) fun b10=> bif b10 then ( some (false,1)) else ( (cH b key).bind fun r13=> bif (!r13) then ( some (false,10)) else ( bif ((IntKind.i64.wrap (flag+1))==0) then ( (bf key b.2.2.1 b.2.1 b.1).bind fun r20=> (dD b.2.2.2.1 r20).bind fun r25=> some (r25,0)) else ( bif ((IntKind.i64.wrap (flag+1))==1) then ( (bf key b.2.2.1 b.2.1 b.1).bind fun r29=> (dD b.2.2.2.2.1 r29).bind fun r34=> some (r34,0)) else ( bif ((IntKind.i64.wrap (flag+1))==2) then ( (bf key b.2.2.1 b.2.1 b.1).bind fun r38=> (dD b.2.2.2.2.2 r38).bind fun r43=> some (r43,0)) else ( none)))))
def eW (t:Q20) (v15:Q1) (flag:Int):Option Q17:= bif (!t.2.1) then ( (jA t.2.2.1 v15 flag).bind fun r7=> some (r7.1,r7.2)) else ( (cL t.1 v15).bind fun r10=> bif (r10.2 != 0) then ( some (false,r10.2)) else ( (jH t.2.2.2 r10.1 flag).bind fun r16=> some (r16.1,r16.2)))
def fK (_s:Q4) (i148:Int) (again149:(Int×Q4×Int×Int×(List Q1)×Q1×Q1×(List Q5)×Int×(List Q1)×Q1×Q1×(List Q5)×Q1×Int×Q7×Int×Int×Q1×Int×Q7×Int×Int×Q1×Int×Q7×Int×Int×Q1×Int×Int×Int×Q1×Q1×Q1×Q4×Bool×Q4×Int×(List Q1)×(List Q21)×Int×Int×Int×Q1×Q1×Q1×Int)→Option Bool) (e151:Q29) (c161:Int) (c162:Q4) (c164:Int) (c165:Int) (c166:(List Q1)) (c168:Q1) (c170:Q1) (c172:(List Q5)) (c174:Int) (c175:(List Q1)) (c177:Q1) (c179:Q1) (c181:(List Q5)) (c183:Q1) (c185:Int) (c186:Q7) (c188:Int) (c189:Int) (c190:Q1) (c192:Int) (c193:Q7) (c195:Int) (c196:Int) (c197:Q1) (c199:Int) (c200:Q7) (c202:Int) (c203:Int) (c204:Q1) (c206:Int) (c207:Int) (c208:Int) (c209:Q1) (c211:Q1) (c213:Q1) (c215:Q4) (c217:Bool) (c218:Q4) (c220:Int) (c221:(List Q1)) (c223:(List Q21)) (c225:Int) (c226:Int) (c227:Int) (c228:Q1) (c230:Q1) (c232:Q1):Option Bool:= (bu (c161,c162,c164,((c165,c166,c168),c170),(c172,(c174,c175,c177),c179),(c181,c183),((c185,c186,c188,c189,c190),(c192,c193,c195,c196,c197),(c199,c200,c202,c203,c204)),(c206,c207,c208,(c209,c211,c213))) e151.2.1).bind fun r234=> (dv (c215,c217,(c218,c220,c221,c223),(c225,c226,c227,(c228,c230,c232))) e151.2.1).bind fun r237=> aj (r234.1 != r237.1) fun b242=> aj (r234.2 != r237.2) fun b244=> aj (b242||b244) fun b246=> cf (!b246) default (bZ (c161,c162,c164,((c165,c166,c168),c170),(c172,(c174,c175,c177),c179),(c181,c183),((c185,c186,c188,c189,c190),(c192,c193,c195,c196,c197),(c199,c200,c202,c203,c204)),(c206,c207,c208,(c209,c211,c213)))) fun r248=> cf (!b246) default (dY (c215,c217,(c218,c220,c221,c223),(c225,c226,c227,(c228,c230,c232)))) fun r254=> aj (r248 != r254) fun b260=> aj (b246||b260) fun b262=> bif b262 then ( some false) else ( again149 (c161,c162,c164,c165,c166,c168,c170,c172,c174,c175,c177,c179,c181,c183,c185,c186,c188,c189,c190,c192,c193,c195,c196,c197,c199,c200,c202,c203,c204,c206,c207,c208,c209,c211,c213,c215,c217,c218,c220,c221,c223,c225,c226,c227,c228,c230,c232,(IntKind.i64.wrap (i148+1))))
def bF (s:Q4) (l:(List Q29)) (r5:Bool) (again149:(Int×Q4×Int×Int×(List Q1)×Q1×Q1×(List Q5)×Int×(List Q1)×Q1×Q1×(List Q5)×Q1×Int×Q7×Int×Int×Q1×Int×Q7×Int×Int×Q1×Int×Q7×Int×Int×Q1×Int×Int×Int×Q1×Q1×Q1×Q4×Bool×Q4×Int×(List Q1)×(List Q21)×Int×Int×Int×Q1×Q1×Q1×Int)→Option Bool):Int×Q4×Int×Int×(List Q1)×Q1×Q1×(List Q5)×Int×(List Q1)×Q1×Q1×(List Q5)×Q1×Int×Q7×Int×Int×Q1×Int×Q7×Int×Int×Q1×Int×Q7×Int×Int×Q1×Int×Int×Int×Q1×Q1×Q1×Q4×Bool×Q4×Int×(List Q1)×(List Q21)×Int×Int×Int×Q1×Q1×Q1×Int→Option Bool:=fun ⟨c75,c76,c78,c79,c80,c82,c84,c86,c88,c89,c91,c93,c95,c97,c99,c100,c102,c103,c104,c106,c107,c109,c110,c111,c113,c114,c116,c117,c118,c120,c121,c122,c123,c125,c127,c129,c131,c132,c134,c135,c137,c139,c140,c141,c142,c144,c146,i148⟩=> bif (decide (i148<(List.length l:Int))) then ( (idx l i148).bind fun e151=> aj (fun (s266:Int×Q4×Int×Int×(List Q1)×Q1×Q1×(List Q5)×Int×(List Q1)×Q1×Q1×(List Q5)×Q1×Int×Q7×Int×Int×Q1×Int×Q7×Int×Int×Q1×Int×Q7×Int×Int×Q1×Int×Int×Int×Q1×Q1×Q1×Q4×Bool×Q4×Int×(List Q1)×(List Q21)×Int×Int×Int×Q1×Q1×Q1)=>fK s i148 again149 e151 s266.1 s266.2.1 s266.2.2.1 s266.2.2.2.1 s266.2.2.2.2.1 s266.2.2.2.2.2.1 s266.2.2.2.2.2.2.1 s266.2.2.2.2.2.2.2.1 s266.2.2.2.2.2.2.2.2.1 s266.2.2.2.2.2.2.2.2.2.1 s266.2.2.2.2.2.2.2.2.2.2.1 s266.2.2.2.2.2.2.2.2.2.2.2.1 s266.2.2.2.2.2.2.2.2.2.2.2.2.1 s266.2.2.2.2.2.2.2.2.2.2.2.2.2.1 s266.2.2.2.2.2.2.2.2.2.2.2.2.2.2.1 s266.2.2.2.2.2.2.2.2.2.2.2.2.2.2.2.1 s266.2.2.2.2.2.2.2.2.2.2.2.2.2.2.2.2.1 s266.2.2.2.2.2.2.2.2.2.2.2.2.2.2.2.2.2.1 s266.2.2.2.2.2.2.2.2.2.2.2.2.2.2.2.2.2.2.1 s266.2.2.2.2.2.2.2.2.2.2.2.2.2.2.2.2.2.2.2.1 s266.2.2.2.2.2.2.2.2.2.2.2.2.2.2.2.2.2.2.2.2.1 s266.2.2.2.2.2.2.2.2.2.2.2.2.2.2.2.2.2.2.2.2.2.1 s266.2.2.2.2.2.2.2.2.2.2.2.2.2.2.2.2.2.2.2.2.2.2.1 s266.2.2.2.2.2.2.2.2.2.2.2.2.2.2.2.2.2.2.2.2.2.2.2.1 s266.2.2.2.2.2.2.2.2.2.2.2.2.2.2.2.2.2.2.2.2.2.2.2.2.1 s266.2.2.2.2.2.2.2.2.2.2.2.2.2.2.2.2.2.2.2.2.2.2.2.2.2.1 s266.2.2.2.2.2.2.2.2.2.2.2.2.2.2.2.2.2.2.2.2.2.2.2.2.2.2.1 s266.2.2.2.2.2.2.2.2.2.2.2.2.2.2.2.2.2.2.2.2.2.2.2.2.2.2.2.1 s266.2.2.2.2.2.2.2.2.2.2.2.2.2.2.2.2.2.2.2.2.2.2.2.2.2.2.2.2.1 s266.2.2.2.2.2.2.2.2.2.2.2.2.2.2.2.2.2.2.2.2.2.2.2.2.2.2.2.2.2.1 s266.2.2.2.2.2.2.2.2.2.2.2.2.2.2.2.2.2.2.2.2.2.2.2.2.2.2.2.2.2.2.1 s266.2.2.2.2.2.2.2.2.2.2.2.2.2.2.2.2.2.2.2.2.2.2.2.2.2.2.2.2.2.2.2.1 s266.2.2.2.2.2.2.2.2.2.2.2.2.2.2.2.2.2.2.2.2.2.2.2.2.2.2.2.2.2.2.2.2.1 s266.2.2.2.2.2.2.2.2.2.2.2.2.2.2.2.2.2.2.2.2.2.2.2.2.2.2.2.2.2.2.2.2.2.1 s266.2.2.2.2.2.2.2.2.2.2.2.2.2.2.2.2.2.2.2.2.2.2.2.2.2.2.2.2.2.2.2.2.2.2.1 s266.2.2.2.2.2.2.2.2.2.2.2.2.2.2.2.2.2.2.2.2.2.2.2.2.2.2.2.2.2.2.2.2.2.2.2.1 s266.2.2.2.2.2.2.2.2.2.2.2.2.2.2.2.2.2.2.2.2.2.2.2.2.2.2.2.2.2.2.2.2.2.2.2.2.1 s266.2.2.2.2.2.2.2.2.2.2.2.2.2.2.2.2.2.2.2.2.2.2.2.2.2.2.2.2.2.2.2.2.2.2.2.2.2.1 s266.2.2.2.2.2.2.2.2.2.2.2.2.2.2.2.2.2.2.2.2.2.2.2.2.2.2.2.2.2.2.2.2.2.2.2.2.2.2.1 s266.2.2.2.2.2.2.2.2.2.2.2.2.2.2.2.2.2.2.2.2.2.2.2.2.2.2.2.2.2.2.2.2.2.2.2.2.2.2.2.1 s266.2.2.2.2.2.2.2.2.2.2.2.2.2.2.2.2.2.2.2.2.2.2.2.2.2.2.2.2.2.2.2.2.2.2.2.2.2.2.2.2.1 s266.2.2.2.2.2.2.2.2.2.2.2.2.2.2.2.2.2.2.2.2.2.2.2.2.2.2.2.2.2.2.2.2.2.2.2.2.2.2.2.2.2.1 s266.2.2.2.2.2.2.2.2.2.2.2.2.2.2.2.2.2.2.2.2.2.2.2.2.2.2.2.2.2.2.2.2.2.2.2.2.2.2.2.2.2.2.1 s266.2.2.2.2.2.2.2.2.2.2.2.2.2.2.2.2.2.2.2.2.2.2.2.2.2.2.2.2.2.2.2.2.2.2.2.2.2.2.2.2.2.2.2.1 s266.2.2.2.2.2.2.2.2.2.2.2.2.2.2.2.2.2.2.2.2.2.2.2.2.2.2.2.2.2.2.2.2.2.2.2.2.2.2.2.2.2.2.2.2.1 s266.2.2.2.2.2.2.2.2.2.2.2.2.2.2.2.2.2.2.2.2.2.2.2.2.2.2.2.2.2.2.2.2.2.2.2.2.2.2.2.2.2.2.2.2.2.1 s266.2.2.2.2.2.2.2.2.2.2.2.2.2.2.2.2.2.2.2.2.2.2.2.2.2.2.2.2.2.2.2.2.2.2.2.2.2.2.2.2.2.2.2.2.2.2) fun kk265=> bif ((Int.tmod e151.1 3)==0) then ( (aZ (c75,c76,c78,((c79,c80,c82),c84),(c86,(c88,c89,c91),c93),(c95,c97),((c99,c100,c102,c103,c104),(c106,c107,c109,c110,c111),(c113,c114,c116,c117,c118)),(c120,c121,c122,(c123,c125,c127))) e151.2.1).bind fun r268=> (dy (c129,c131,(c132,c134,c135,c137),(c139,c140,c141,(c142,c144,c146))) e151.2.1).bind fun r293=> aj (r268.2.1 != r293.2.1) fun b306=> aj (r268.2.2 != r293.2.2) fun b308=> aj (b306||b308) fun b310=> bif b310 then ( some false) else ( kk265 (r268.1.1,r268.1.2.1,r268.1.2.2.1,r268.1.2.2.2.1.1.1,r268.1.2.2.2.1.1.2.1,r268.1.2.2.2.1.1.2.2,r268.1.2.2.2.1.2,r268.1.2.2.2.2.1.1,r268.1.2.2.2.2.1.2.1.1,r268.1.2.2.2.2.1.2.1.2.1,r268.1.2.2.2.2.1.2.1.2.2,r268.1.2.2.2.2.1.2.2,r268.1.2.2.2.2.2.1.1,r268.1.2.2.2.2.2.1.2,r268.1.2.2.2.2.2.2.1.1.1,r268.1.2.2.2.2.2.2.1.1.2.1,r268.1.2.2.2.2.2.2.1.1.2.2.1,r268.1.2.2.2.2.2.2.1.1.2.2.2.1,r268.1.2.2.2.2.2.2.1.1.2.2.2.2,r268.1.2.2.2.2.2.2.1.2.1.1,r268.1.2.2.2.2.2.2.1.2.1.2.1,r268.1.2.2.2.2.2.2.1.2.1.2.2.1,r268.1.2.2.2.2.2.2.1.2.1.2.2.2.1,r268.1.2.2.2.2.2.2.1.2.1.2.2.2.2,r268.1.2.2.2.2.2.2.1.2.2.1,r268.1.2.2.2.2.2.2.1.2.2.2.1,r268.1.2.2.2.2.2.2.1.2.2.2.2.1,r268.1.2.2.2.2.2.2.1.2.2.2.2.2.1,r268.1.2.2.2.2.2.2.1.2.2.2.2.2.2,r268.1.2.2.2.2.2.2.2.1,r268.1.2.2.2.2.2.2.2.2.1,r268.1.2.2.2.2.2.2.2.2.2.1,r268.1.2.2.2.2.2.2.2.2.2.2.1,r268.1.2.2.2.2.2.2.2.2.2.2.2.1,r268.1.2.2.2.2.2.2.2.2.2.2.2.2,r293.1.1,r293.1.2.1,r293.1.2.2.1.1,r293.1.2.2.1.2.1,r293.1.2.2.1.2.2.1,r293.1.2.2.1.2.2.2,r293.1.2.2.2.1,r293.1.2.2.2.2.1,r293.1.2.2.2.2.2.1,r293.1.2.2.2.2.2.2.1,r293.1.2.2.2.2.2.2.2.1,r293.1.2.2.2.2.2.2.2.2))) else ( bif ((Int.tmod e151.1 3)==1) then ( (cC (c75,c76,c78,((c79,c80,c82),c84),(c86,(c88,c89,c91),c93),(c95,c97),((c99,c100,c102,c103,c104),(c106,c107,c109,c110,c111),(c113,c114,c116,c117,c118)),(c120,c121,c122,(c123,c125,c127))) e151.2.1 e151.2.2).bind fun r316=> (dV (c129,c131,(c132,c134,c135,c137),(c139,c140,c141,(c142,c144,c146))) e151.2.1 e151.2.2).bind fun r341=> bif (r316.2 != r341.2) then ( some false) else ( kk265 (r316.1.1,r316.1.2.1,r316.1.2.2.1,r316.1.2.2.2.1.1.1,r316.1.2.2.2.1.1.2.1,r316.1.2.2.2.1.1.2.2,r316.1.2.2.2.1.2,r316.1.2.2.2.2.1.1,r316.1.2.2.2.2.1.2.1.1,r316.1.2.2.2.2.1.2.1.2.1,r316.1.2.2.2.2.1.2.1.2.2,r316.1.2.2.2.2.1.2.2,r316.1.2.2.2.2.2.1.1,r316.1.2.2.2.2.2.1.2,r316.1.2.2.2.2.2.2.1.1.1,r316.1.2.2.2.2.2.2.1.1.2.1,r316.1.2.2.2.2.2.2.1.1.2.2.1,r316.1.2.2.2.2.2.2.1.1.2.2.2.1,r316.1.2.2.2.2.2.2.1.1.2.2.2.2,r316.1.2.2.2.2.2.2.1.2.1.1,r316.1.2.2.2.2.2.2.1.2.1.2.1,r316.1.2.2.2.2.2.2.1.2.1.2.2.1,r316.1.2.2.2.2.2.2.1.2.1.2.2.2.1,r316.1.2.2.2.2.2.2.1.2.1.2.2.2.2,r316.1.2.2.2.2.2.2.1.2.2.1,r316.1.2.2.2.2.2.2.1.2.2.2.1,r316.1.2.2.2.2.2.2.1.2.2.2.2.1,r316.1.2.2.2.2.2.2.1.2.2.2.2.2.1,r316.1.2.2.2.2.2.2.1.2.2.2.2.2.2,r316.1.2.2.2.2.2.2.2.1,r316.1.2.2.2.2.2.2.2.2.1,r316.1.2.2.2.2.2.2.2.2.2.1,r316.1.2.2.2.2.2.2.2.2.2.2.1,r316.1.2.2.2.2.2.2.2.2.2.2.2.1,r316.1.2.2.2.2.2.2.2.2.2.2.2.2,r341.1.1,r341.1.2.1,r341.1.2.2.1.1,r341.1.2.2.1.2.1,r341.1.2.2.1.2.2.1,r341.1.2.2.1.2.2.2,r341.1.2.2.2.1,r341.1.2.2.2.2.1,r341.1.2.2.2.2.2.1,r341.1.2.2.2.2.2.2.1,r341.1.2.2.2.2.2.2.2.1,r341.1.2.2.2.2.2.2.2.2))) else ( bif ((Int.tmod e151.1 3)==2) then ( (bU (c75,c76,c78,((c79,c80,c82),c84),(c86,(c88,c89,c91),c93),(c95,c97),((c99,c100,c102,c103,c104),(c106,c107,c109,c110,c111),(c113,c114,c116,c117,c118)),(c120,c121,c122,(c123,c125,c127))) e151.2.1 e151.2.2).bind fun r358=> (eW (c129,c131,(c132,c134,c135,c137),(c139,c140,c141,(c142,c144,c146))) e151.2.1 e151.2.2).bind fun r361=> aj (r358.1 != r361.1) fun b364=> aj (r358.2 != r361.2) fun b366=> aj (b364||b366) fun b368=> bif b368 then ( some false) else ( kk265 (c75,c76,c78,c79,c80,c82,c84,c86,c88,c89,c91,c93,c95,c97,c99,c100,c102,c103,c104,c106,c107,c109,c110,c111,c113,c114,c116,c117,c118,c120,c121,c122,c123,c125,c127,c129,c131,c132,c134,c135,c137,c139,c140,c141,c142,c144,c146))) else ( kk265 (c75,c76,c78,c79,c80,c82,c84,c86,c88,c89,c91,c93,c95,c97,c99,c100,c102,c103,c104,c106,c107,c109,c110,c111,c113,c114,c116,c117,c118,c120,c121,c122,c123,c125,c127,c129,c131,c132,c134,c135,c137,c139,c140,c141,c142,c144,c146))))) else ( some r5)
def eM (s:Q4) (o:Q14) (l:(List Q29)):Option Bool:= (kU).bind fun r5=> aj (decide (40<(List.length s:Int))) fun b8=> cf (!b8) default (ga l 40) fun r10=> aj (!r10) fun b16=> aj (b8||b16) fun b18=> aj (decide (3000<o.2.2.2.2.1)) fun b20=> aj (decide (o.2.2.2.2.1≤4194304)) fun b22=> aj (b20&&b22) fun b24=> aj (b18||b24) fun b26=> bif b26 then ( some r5) else ( (cn s o).bind fun r29=> (gf s o).bind fun r54=> bif (r29.2 != r54.2) then ( some false) else ( bif (r54.2 != 0) then ( some r5) else ( aq (bF s l r5) au (r29.1.1,r29.1.2.1,r29.1.2.2.1,r29.1.2.2.2.1.1.1,r29.1.2.2.2.1.1.2.1,r29.1.2.2.2.1.1.2.2,r29.1.2.2.2.1.2,r29.1.2.2.2.2.1.1,r29.1.2.2.2.2.1.2.1.1,r29.1.2.2.2.2.1.2.1.2.1,r29.1.2.2.2.2.1.2.1.2.2,r29.1.2.2.2.2.1.2.2,r29.1.2.2.2.2.2.1.1,r29.1.2.2.2.2.2.1.2,r29.1.2.2.2.2.2.2.1.1.1,r29.1.2.2.2.2.2.2.1.1.2.1,r29.1.2.2.2.2.2.2.1.1.2.2.1,r29.1.2.2.2.2.2.2.1.1.2.2.2.1,r29.1.2.2.2.2.2.2.1.1.2.2.2.2,r29.1.2.2.2.2.2.2.1.2.1.1,r29.1.2.2.2.2.2.2.1.2.1.2.1,r29.1.2.2.2.2.2.2.1.2.1.2.2.1,r29.1.2.2.2.2.2.2.1.2.1.2.2.2.1,r29.1.2.2.2.2.2.2.1.2.1.2.2.2.2,r29.1.2.2.2.2.2.2.1.2.2.1,r29.1.2.2.2.2.2.2.1.2.2.2.1,r29.1.2.2.2.2.2.2.1.2.2.2.2.1,r29.1.2.2.2.2.2.2.1.2.2.2.2.2.1,r29.1.2.2.2.2.2.2.1.2.2.2.2.2.2,r29.1.2.2.2.2.2.2.2.1,r29.1.2.2.2.2.2.2.2.2.1,r29.1.2.2.2.2.2.2.2.2.2.1,r29.1.2.2.2.2.2.2.2.2.2.2.1,r29.1.2.2.2.2.2.2.2.2.2.2.2.1,r29.1.2.2.2.2.2.2.2.2.2.2.2.2,r54.1.1,r54.1.2.1,r54.1.2.2.1.1,r54.1.2.2.1.2.1,r54.1.2.2.1.2.2.1,r54.1.2.2.1.2.2.2,r54.1.2.2.2.1,r54.1.2.2.2.2.1,r54.1.2.2.2.2.2.1,r54.1.2.2.2.2.2.2.1,r54.1.2.2.2.2.2.2.2.1,r54.1.2.2.2.2.2.2.2.2,0))))
end
end Go.Proofs.YtgcgmclghbebjaaGreat
namespace Go.Proofs.YtgcgmclghbebjaaGreat
open Go.Lib
abbrev MO {R:Type} (X:Cx) (H:List Row) (fn:Func) (K:AV→StB→Option R) (st:StB):Option R:=match og (xH X ⟨[],H,fn.ntmps⟩ st) fn.results.toList with
 | some rs=>K (ud rs) st
 | none=>none
noncomputable def B4 {R:Type} (X:Cx) (fn:Func) (args:List AV) (H:List Row) (st:StB) (K:AV→StB→Option R):Option R:=match fn.body with
 | some body=>ifS (Nat.ble args.length fn.ntmps) (den X [] [] body ⟨[],H,fn.ntmps⟩ (fun e st'=>match e with
  | .ret=>MO X H fn K st'
  | .nrm=>MO X H fn K st'
  | _=>none) ⟨st.c,jU 0 args,st.G,.o⟩) none
 | none=>none
theorem Dm {X:Cx} {f:FuncId} {fn:Func} (hen:cV X.P f) (hfn:X.P.funcs[f]? =some fn) (hg:X.gls=[]):(⟨f,fun args H st K=>B4 X fn args H st K⟩:Inl).Ok X.P:=by
 refine ⟨hen,fun {R} r args H st K ρ Φ w hs h=> ?_⟩
 have h':B4 X fn args H st K=some r:=h
 unfold B4 at h'
 split at h'
 ·rename_i body hb
  obtain ⟨h1,h2⟩:=ao h'
  refine jL hfn hb rfl (by rw [AV.aH];exact h1) ?_
  have hE:ai ρ [] (jU 0 args) []=iota 0 (AV.ah ρ args):=by
   show al.env ρ [] (jU 0 args)++[]=_
   rw [sa,List.append_nil]
  rw [← hE]
  have hΓ: ∀ it∈X.Γ,it∈Φ:=fun it hit=>by
   unfold Cx.Γ at hit
   rw [hg] at hit;cases hit
  refine dC (X:=X) (tb:=[]) (tp:=[]) (D:=[]) (fr:=⟨[],H,fn.ntmps⟩) (st:=⟨st.c,jU 0 args,st.G,.o⟩) hΓ (fun _ h=>nomatch h) (fun _ h=>nomatch h) body hs h2 (fun x st' ρ' w' a1 a2 a3 a4=> ?_)
  have fin:MO X H fn K st'=some r→At (BP X.P fn (fun v w'=> ∃ (ρ':Nms) (st':StB) (av:AV),K av st'=some r∧aA st.c ρ ρ'∧st.c≤st'.c∧av.val ρ'=v∧Sat (items ρ' [] st'.G++(items ρ' [] H++Φ)) w') (fun _ _=>False)) .ret fn.ntmps [] (ai ρ' [] st'.E []) w':=fun h=>by
   unfold MO at h
   split at h
   ·rename_i rs hrs
    exact OK (fr:=⟨[],H,fn.ntmps⟩) a4 hrs ⟨ρ',st',ud rs,h,a1,a2,rfl,a4⟩
   ·cases h
  cases x with
  | nrm=>exact fin a3
  | ret=>exact fin a3
  | ext i=>cases a3
  | gto l=>cases a3
  | pan v=>cases a3
  | panE v=>cases a3
 ·cases h'
end Go.Proofs.YtgcgmclghbebjaaGreat
namespace Go.Proofs.YtgcgmclghbebjaaGreat
open Go.Proofs
namespace I188
theorem tiI:TI Tryz.prog 290 2 16 (.agg #[(.int .u8 0),(.int .i64 0)]):=by unfold TI;kernel_rfl
set_option maxRecDepth 100000 in
theorem oh {w w':World} {p q:Option Addr} {n c m mc:Nat} {v':Value} (hn:n≤c) (hm:0<m) (hr:(Builtin.append_ #[177,177] 177 #[.slice p n c,.slice q m mc]).run Tryz.prog w= .ok v' w'):
  fg Tryz.prog 188 [.slice p n c,.int .i64 (n:Int),.slice q m mc] w (fun r w1=>r=v'∧w1=w'):=by
 have z1:((m:Int)==0)=false:=by simp;omega
 have z2:((n:Int)==(n:Int))=true:=by simp
 obtain ⟨vc,hcut⟩: ∃ vc,Hq (.slice p n c) (n:Int) ((n:Nat):Int) 2 vc:=⟨_,_,_,_,rfl,by omega,Int.le_refl _,Int.le_refl _,hn,rfl⟩
 refine jL Tryz.func188 rfl Tryz.ntmps188 rfl ?_
 refine aX ?_
 refine aW ?_
 refine ay (cK Opd.c) rfl rfl rfl rfl<| ?_
 refine bG ?_
 refine aN ?_
 refine aX ?_
 refine aW ?_
 refine ay (ax (Opd.t rfl)) rfl rfl rfl rfl<|ay (ax (Opd.t rfl)) rfl rfl rfl rfl<|ay (tz (lo:=some (.tmp 11)) (hi:=none) Tryz.underlying177 tiI (Opd.t rfl) (fun _=>⟨_,_,rfl⟩) ⟨_,(Opd.t rfl)⟩ rfl (fun _=>hcut)) rfl rfl rfl rfl<| ?_
 refine bG ?_
 refine aN ?_
 refine aX ?_
 refine aW ?_
 refine ay (ax (Opd.t rfl)) rfl rfl rfl rfl<|ay (kB Tryz.underlying177 (Opd.t rfl) (fun _=>⟨_,_,rfl⟩)) rfl rfl rfl rfl<|ay (cK (Opd.t rfl)) rfl rfl rfl rfl<| ?_
 refine bG ?_
 refine aN ?_
 refine aX ?_
 refine aX ?_
 refine aW ?_
 refine ay (ax (Opd.t rfl)) rfl rfl rfl rfl<|ay (Run.eqB (pJ (Opd.t rfl) Opd.c) z1) rfl rfl rfl rfl<| ?_
 refine bG ?_
 refine aN ?_
 refine iF (Opd.t rfl) (fun h=>by cases h) (fun _=> ?_)
 refine nu ?_
 refine aN ?_
 refine aX ?_
 refine aW ?_
 refine ay (ax (Opd.t rfl)) rfl rfl rfl rfl<|ay (kB Tryz.underlying177 (Opd.t rfl) (fun _=>⟨_,_,rfl⟩)) rfl rfl rfl rfl<|ay (cK (Opd.t rfl)) rfl rfl rfl rfl<| ?_
 refine bG ?_
 refine aN ?_
 refine aX ?_
 refine aX ?_
 refine aW ?_
 refine ay (ax (Opd.t rfl)) rfl rfl rfl rfl<|ay (ax (Opd.t rfl)) rfl rfl rfl rfl<|ay (Run.eqB (pJ (Opd.t rfl) (Opd.t rfl)) z2) rfl rfl rfl rfl<| ?_
 refine bG ?_
 refine aN ?_
 refine iF (Opd.t rfl) (fun _=> ?_) (fun h=>by cases h)
 refine aX ?_
 refine aW ?_
 refine ay (ax (Opd.t rfl)) rfl rfl rfl rfl<|ay (ax (Opd.t rfl)) rfl rfl rfl rfl<| ?_
 refine vT (Bf (Opd.t rfl) (Opd.t rfl) hr) rfl rfl rfl rfl ?_
 refine ay (cK (Opd.t rfl)) rfl rfl rfl rfl<| ?_
 refine bG ?_
 refine aN ?_
 refine wb ?_
 refine uP<| ?_
 refine Ls rfl (jD.t rfl) ?_
 exact ⟨rfl,rfl⟩
set_option maxRecDepth 100000 in
theorem yP {w:World} {b vb n c i m mc:Nat} {cur curv:Array Value} {ev:TypeId} (hin:i<n) (hm:0<m) (hroom:n+m≤c) (hc:c≤9223372036854775807) (hne:vb≠b)
  (hb:w.heap[b]? =some (.cells cur 290 (0,0))) (hsz:cur.size=c*2) (hv:w.heap[vb]? =some (.cells curv ev (0,0))) (hvs:m*2≤curv.size) (h1: ∀ v∈cur.toList.take (n*2),v.oneCell'=true) (h1v: ∀ v∈curv.toList.take (m*2),v.oneCell'=true):
  fg Tryz.prog 188 [.slice (some ⟨b,0,none⟩) n c,.int .i64 (i:Int),.slice (some ⟨vb,0,none⟩) m mc] w (fun r w1=>r= .slice (some ⟨b,0,none⟩) (n+m) c∧Chg [b] w w1∧ ∃ cur':Array Value,w1.heap[b]? =some (.cells cur' 290 (0,0))∧cur'.size=c*2∧cur'.toList.take ((n+m)*2)=(cur.toList.take (n*2)).take (i*2)++curv.toList.take (m*2)++(cur.toList.take (n*2)).drop (i*2)):=by
 have z1:((m:Int)==0)=false:=by simp;omega
 have z2:((i:Int)==(n:Int))=false:=by simp;omega
 have a1:IntKind.i64.wrap ((n:Int)+(m:Int))=((n+m:Nat):Int):=by rw [w64 (by omega)];omega
 have a2:IntKind.i64.wrap ((i:Int)+(m:Int))=((i+m:Nat):Int):=by rw [w64 (by omega)];omega
 have a3:IntKind.i64.wrap (((n+m:Nat):Int)-(i:Int))=((n+m-i:Nat):Int):=by rw [w64 (by omega)];omega
 have hl:cur.toList.length=c*2:=by rw [Array.length_toList,hsz]
 have hvl:(curv.toList.take (m*2)).length=m*2:=by rw [List.length_take,Array.length_toList];omega
 have z3:decide ((c:Int)<((n+m:Nat):Int))=false:=by simp;omega
 have hC:Chg [b] w w:=(Ext.refl w).chg _
 have hov: ∀ lb cb,(callFunc 193 [.slice (some ⟨vb,0,none⟩) m mc,.slice (some ⟨b,0+(i+m)*2,none⟩) lb cb].toArray).run Tryz.prog w= .ok (.value (.bool false)) w:=fun lb cb=>by
  rw [run_callFunc_extern Tryz.func193 (by kernel_rfl) (by kernel_rfl) (by kernel_rfl) (e:=Extern.SlicesOverlaps.overlaps #[177,177] #[4]) (by kernel_rfl)]
  have:=Lib.run_overlaps_apart (P:=Tryz.prog) w 177 4 290 Tryz.underlying177 2 (fun w=>by obtain ⟨i',hi',hs',_,_⟩:=tiI.out;simp [sizeOf,typeInfo,hi',hs']) ⟨vb,0,none⟩ ⟨b,0+(i+m)*2,none⟩ m mc lb cb hne ev 290 curv.size cur.size (by unfold World.shape?;rw [hv]) (by unfold World.shape?;rw [hb]) (by omega) (by unfold World.frozen?;rw [hv];rfl) (by unfold World.frozen?;rw [hv];simp)
  show ((Extern.SlicesOverlaps.overlaps #[177,177] #[4] #[.slice (some ⟨vb,0,none⟩) m mc,.slice (some ⟨b,0+(i+m)*2,none⟩) lb cb]).run Tryz.prog w).andThen _=_
  rw [this];rfl
 obtain ⟨hR1s,hR2s,hR2t⟩:=NH (l:=cur.toList) (vs:=curv.toList.take (m*2)) (a:=i*2) (b:=m*2) (n:=n*2) (c:=c*2) (by omega) hvl (by omega) hl
 have hcl:((cur.toList.drop (i*2)).take (n*2-i*2)).length=n*2-i*2:=by rw [List.length_take,List.length_drop];omega
 obtain ⟨R1,hR1⟩: ∃ R1:Array Value,R1=(cur.toList.take (i*2+m*2)++(cur.toList.drop (i*2)).take (n*2-i*2)++cur.toList.drop (i*2+m*2+((cur.toList.drop (i*2)).take (n*2-i*2)).length)).toArray:=⟨_,rfl⟩
 have hR1l:R1.toList=cur.toList.take (i*2+m*2)++(cur.toList.drop (i*2)).take (n*2-i*2)++cur.toList.drop (i*2+m*2+((cur.toList.drop (i*2)).take (n*2-i*2)).length):=by rw [hR1]
 rw [← hR1l] at hR1s hR2s hR2t
 obtain ⟨R2,hR2⟩: ∃ R2:Array Value,R2=(R1.toList.take (i*2)++curv.toList.take (m*2)++R1.toList.drop (i*2+(curv.toList.take (m*2)).length)).toArray:=⟨_,rfl⟩
 have hR2l:R2.toList=R1.toList.take (i*2)++curv.toList.take (m*2)++R1.toList.drop (i*2+(curv.toList.take (m*2)).length):=by rw [hR2]
 rw [← hR2l] at hR2s hR2t
 rw [Array.length_toList] at hR1s hR2s
 rw [show n*2+m*2=(n+m)*2 by omega] at hR2t
 have run1: ∀ W:World,W.heap[b]? =some (.cells cur 290 (0,0))→ ∀ ty dc sc,(Builtin.copy_ #[177,177] ty #[.slice (some ⟨b,0+(i+m)*2,none⟩) (n+m-(i+m)) dc,.slice (some ⟨b,0+i*2,none⟩) (n+m-i) sc]).run Tryz.prog W= .ok (goInt (Nat.min (n+m-i) (n+m-(i+m)))) (W.setRow b R1):=fun W hb ty dc sc=>by
  have hmin:Nat.min (n+m-i) (n+m-(i+m))=n-i:=by simp only [Nat.min_def];split <;> omega
  rw [hR1,show i*2+m*2=0+(i+m)*2 by omega]
  exact mK Tryz.underlying177 tiI (by rw [hcl,hmin];omega) (cell_of_heap hb _ _ (by rw [hcl,Nat.zero_add])) hb (by rw [hcl];omega) (fun v hv=>h1 v (by
   rw [← List.drop_take] at hv
   exact List.mem_of_mem_drop hv))
 have run2: ∀ W:World,W.heap[b]? =some (.cells R1 290 (0,0))→W.heap[vb]? =some (.cells curv ev (0,0))→ ∀ ty dc,(Builtin.copy_ #[177,177] ty #[.slice (some ⟨b,0+i*2,none⟩) (n+m-i) dc,.slice (some ⟨vb,0,none⟩) m mc]).run Tryz.prog W= .ok (goInt (Nat.min m (n+m-i))) (W.setRow b R2):=fun W hb hv ty dc=>by
  have hmin:Nat.min m (n+m-i)=m:=by simp only [Nat.min_def];split <;> omega
  rw [hR2,Nat.zero_add]
  exact mK Tryz.underlying177 tiI (by rw [hvl,hmin]) (cell_of_heap hv _ _ (by rw [hvl,List.drop_zero])) hb (by rw [hvl];omega) h1v
 clear hR1 hR2 hR1l hR2l
 refine jL Tryz.func188 rfl Tryz.ntmps188 rfl ?_
 refine aX ?_
 refine aW ?_
 refine ay (cK Opd.c) rfl rfl rfl rfl<| ?_
 refine bG ?_
 refine aN ?_
 refine aX ?_
 refine aW ?_
 refine ay (ax (Opd.t rfl)) rfl rfl rfl rfl<|ay (ax (Opd.t rfl)) rfl rfl rfl rfl<|ay (kl Tryz.underlying177 tiI (Opd.t rfl) (Opd.t rfl) (by omega) (by omega) (by omega)) rfl rfl rfl rfl<| ?_
 refine bG ?_
 refine aN ?_
 refine aX ?_
 refine aW ?_
 refine ay (ax (Opd.t rfl)) rfl rfl rfl rfl<|ay (kB Tryz.underlying177 (Opd.t rfl) (fun _=>⟨_,_,rfl⟩)) rfl rfl rfl rfl<|ay (cK (Opd.t rfl)) rfl rfl rfl rfl<| ?_
 refine bG ?_
 refine aN ?_
 refine aX ?_
 refine aX ?_
 refine aW ?_
 refine ay (ax (Opd.t rfl)) rfl rfl rfl rfl<|ay (Run.eqB (pJ (Opd.t rfl) Opd.c) z1) rfl rfl rfl rfl<| ?_
 refine bG ?_
 refine aN ?_
 refine iF (Opd.t rfl) (fun h=>by cases h) (fun _=> ?_)
 refine nu ?_
 refine aN ?_
 refine aX ?_
 refine aW ?_
 refine ay (ax (Opd.t rfl)) rfl rfl rfl rfl<|ay (kB Tryz.underlying177 (Opd.t rfl) (fun _=>⟨_,_,rfl⟩)) rfl rfl rfl rfl<|ay (cK (Opd.t rfl)) rfl rfl rfl rfl<| ?_
 refine bG ?_
 refine aN ?_
 refine aX ?_
 refine aX ?_
 refine aW ?_
 refine ay (ax (Opd.t rfl)) rfl rfl rfl rfl<|ay (ax (Opd.t rfl)) rfl rfl rfl rfl<|ay (Run.eqB (pJ (Opd.t rfl) (Opd.t rfl)) z2) rfl rfl rfl rfl<| ?_
 refine bG ?_
 refine aN ?_
 refine iF (Opd.t rfl) (fun h=>by cases h) (fun _=> ?_)
 refine nu ?_
 refine aN ?_
 refine aX ?_
 refine aX ?_
 refine aW ?_
 refine ay (ax (Opd.t rfl)) rfl rfl rfl rfl<|ay (ax (Opd.t rfl)) rfl rfl rfl rfl<|ay (Run.eqI (nD (Opd.t rfl) (Opd.t rfl)) a1) rfl rfl rfl rfl<|ay (ax (Opd.t rfl)) rfl rfl rfl rfl<|ay (Fj Tryz.underlying177 (Opd.t rfl)) rfl rfl rfl rfl<|ay (Run.eqB (Ec (Opd.t rfl) (Opd.t rfl)) z3) rfl rfl rfl rfl<| ?_
 refine bG ?_
 refine aN ?_
 refine iF (Opd.t rfl) (fun h=>by cases h) (fun _=> ?_)
 refine nu ?_
 refine aN ?_
 refine aX ?_
 refine aW ?_
 refine ay (ax (Opd.t rfl)) rfl rfl rfl rfl<|ay (ax (Opd.t rfl)) rfl rfl rfl rfl<|ay (ax (Opd.t rfl)) rfl rfl rfl rfl<|ay (Run.eqI (nD (Opd.t rfl) (Opd.t rfl)) a1) rfl rfl rfl rfl<|ay (JC Tryz.underlying177 tiI (Opd.t rfl) (Opd.t rfl) (by omega)) rfl rfl rfl rfl<|ay (cK (Opd.t rfl)) rfl rfl rfl rfl<| ?_
 refine bG ?_
 refine aN ?_
 refine aX ?_
 refine aX ?_
 refine aW ?_
 refine ay (ax (Opd.t rfl)) rfl rfl rfl rfl<|ay (ax (Opd.t rfl)) rfl rfl rfl rfl<|ay (ax (Opd.t rfl)) rfl rfl rfl rfl<|ay (ax (Opd.t rfl)) rfl rfl rfl rfl<|ay (Run.eqI (nD (Opd.t rfl) (Opd.t rfl)) a2) rfl rfl rfl rfl<|ay (kl Tryz.underlying177 tiI (Opd.t rfl) (Opd.t rfl) (by omega) (by omega) (by omega)) rfl rfl rfl rfl<|ay (M5 (xs:=[(.tmp 61),(.tmp 66)]) (.cons (Opd.t rfl) (.cons (Opd.t rfl) .nil)) (hov _ _)) rfl rfl rfl rfl<|ay (JB (Opd.t rfl)) rfl rfl rfl rfl<| ?_
 refine bG ?_
 refine aN ?_
 refine iF (Opd.t rfl) (fun _=> ?_) (fun h=>by cases h)
 refine aX ?_
 refine nS [0,0,0,6,9,0,0,96,144] (.q 0 0 (.q 1 1 (.q 2 3 (.q 3 7 (.q 4 15 (.q 5 31 (.q 6 63 (.q 7 127 (.l 8 255 .nil))))))))) (by kernel_rfl) (by kernel_rfl) ?_
 intro w1 hx2
 replace hb:=(hx2.block _ (Array.getElem?_eq_some_iff.1 hb).1).trans hb
 replace hv:=(hx2.block _ (Array.getElem?_eq_some_iff.1 hv).1).trans hv
 replace hC:=hC.trans (hx2.chg _)
 refine eU (fun _=>(ax (Opd.t rfl))) rfl rfl rfl rfl<|eU (fun _=>(ax (Opd.t rfl))) rfl rfl rfl rfl<|eU (fun _=>(ax (Opd.t rfl))) rfl rfl rfl rfl<|eU (fun _=>(Run.eqI (nD (Opd.t rfl) (Opd.t rfl)) a2)) rfl rfl rfl rfl<|eU (fun _=>(kl Tryz.underlying177 tiI (Opd.t rfl) (Opd.t rfl) (by omega) (by omega) (by omega))) rfl rfl rfl rfl<|eU (fun _=>(ax (Opd.t rfl))) rfl rfl rfl rfl<|eU (fun _=>(ax (Opd.t rfl))) rfl rfl rfl rfl<|eU (fun _=>(kl Tryz.underlying177 tiI (Opd.t rfl) (Opd.t rfl) (by omega) (by omega) (by omega))) rfl rfl rfl rfl<| ?_
 refine Le (pend':=[]) rfl (by kernel_rfl) ?_
 refine vT (qb (Opd.t rfl) (Opd.t rfl) (run1 _ hb _ _ _)) rfl rfl rfl rfl ?_
 replace hb:=setRow_heap _ b cur R1 290 (0,0) hb
 replace hv:=(setRow_other _ b vb R1 hne).trans hv
 replace hC:=hC.trans (nZ b R1)
 refine bG ?_
 refine SK Is ?_
 refine O4 ?_
 refine aN ?_
 refine aX ?_
 refine aW ?_
 refine ay (ax (Opd.t rfl)) rfl rfl rfl rfl<|ay (ax (Opd.t rfl)) rfl rfl rfl rfl<|ay (kl Tryz.underlying177 tiI (Opd.t rfl) (Opd.t rfl) (by omega) (by omega) (by omega)) rfl rfl rfl rfl<|ay (ax (Opd.t rfl)) rfl rfl rfl rfl<| ?_
 refine vT (qb (Opd.t rfl) (Opd.t rfl) (run2 _ hb hv _ _)) rfl rfl rfl rfl ?_
 replace hb:=setRow_heap _ b R1 R2 290 (0,0) hb
 replace hC:=hC.trans (nZ b R2)
 refine bG ?_
 refine aN ?_
 refine aX ?_
 refine aW ?_
 refine ay (ax (Opd.t rfl)) rfl rfl rfl rfl<|ay (cK (Opd.t rfl)) rfl rfl rfl rfl<| ?_
 refine bG ?_
 refine aN ?_
 refine wb ?_
 refine uP<| ?_
 refine Ls rfl (jD.t rfl) ?_
 exact ⟨rfl,hC,R2,hb,hR2s,hR2t⟩
set_option maxRecDepth 100000 in
theorem Wa {w:World} {b vb n c i m mc:Nat} {cur curv:Array Value} {ev:TypeId} (hin:i<n) (hm:0<m) (hnc:n≤c) (hroom:c<n+m) (hbig:(n+m)*16≤140737488355328)
  (hb:w.heap[b]? =some (.cells cur 290 (0,0))) (hsz:cur.size=c*2) (hv:w.heap[vb]? =some (.cells curv ev (0,0))) (hvs:m*2≤curv.size) (h1: ∀ v∈cur.toList.take (n*2),v.oneCell'=true) (h1v: ∀ v∈curv.toList.take (m*2),v.oneCell'=true):
  fg Tryz.prog 188 [.slice (some ⟨b,0,none⟩) n c,.int .i64 (i:Int),.slice (some ⟨vb,0,none⟩) m mc] w (fun r w1=>r= .slice (some ⟨w.heap.size,0,none⟩) (n+m) (grownCap w (n+m) c 290)∧Chg [w.heap.size] w w1∧ ∃ cur':Array Value,w1.heap[w.heap.size]? =some (.cells cur' 290 (0,0))∧cur'.size=grownCap w (n+m) c 290*2∧cur'.toList.take ((n+m)*2)=(cur.toList.take (n*2)).take (i*2)++curv.toList.take (m*2)++(cur.toList.take (n*2)).drop (i*2)):=by
 have z1:((m:Int)==0)=false:=by simp;omega
 have z2:((i:Int)==(n:Int))=false:=by simp;omega
 have a1:IntKind.i64.wrap ((n:Int)+(m:Int))=((n+m:Nat):Int):=by rw [w64 (by omega)];omega
 have a2:IntKind.i64.wrap ((i:Int)+(m:Int))=((i+m:Nat):Int):=by rw [w64 (by omega)];omega
 have a3:IntKind.i64.wrap (((n+m:Nat):Int)-(i:Int))=((n+m-i:Nat):Int):=by rw [w64 (by omega)];omega
 have hl:cur.toList.length=c*2:=by rw [Array.length_toList,hsz]
 have hvl:(curv.toList.take (m*2)).length=m*2:=by rw [List.length_take,Array.length_toList];omega
 have z3:decide ((c:Int)<((n+m:Nat):Int))=true:=by simp;omega
 have hbN:b≠w.heap.size:=by have:=(Array.getElem?_eq_some_iff.1 hb).1;omega
 have hvN:vb≠w.heap.size:=by have:=(Array.getElem?_eq_some_iff.1 hv).1;omega
 obtain ⟨i0,hi0,hs0,hb0,hz0⟩:=tiI.out
 have hcn:(cur.toList.take (n*2)).length=n*2:=by rw [List.length_take];omega
 have hci:((cur.toList.take (n*2)).take (i*2)).length=i*2:=by rw [List.length_take];omega
 have hold:(Builtin.firstCells i0.size i (.slice (some ⟨b,0,none⟩) i c)).run Tryz.prog w.drew= .ok ((cur.toList.take (n*2)).take (i*2)).toArray w.drew:=by
  rw [hs0]
  exact run_firstCells_some w.drew 2 i ⟨b,0,none⟩ i c _ (by rw [hci]) (cell_of_heap (w:=w.drew) hb 0 _ (by rw [hci,List.drop_zero,List.take_take,Nat.min_eq_left (by omega)]))
 have hrz0:=Lib.run_append_grow_zeros (P:=Tryz.prog) w 177 3 177 290 i0 _ .i64 .i64 Tryz.underlying177 Tryz.underlying3 hi0 hz0 (some ⟨b,0,none⟩) i c _ hold (n+m-i) (by omega) (by omega) (by omega) (by omega) (by rw [hb0];omega) (by rw [hb0];exact growslice_fits (by omega) (by rw [show i+(n+m-i)=n+m by omega];exact hbig))
 rw [show i+(n+m-i)=n+m by omega] at hrz0
 obtain ⟨G,hG⟩: ∃ G,G=grownCap w (n+m) c 290:=⟨_,rfl⟩
 have hGn:n+m≤G:=by rw [hG];exact grownCap_ge w _ _ _
 have hG63:G≤9223372036854775807:=by
  have:=grownCap_le_maxLen w (n+m) c 290 (by unfold maxLen;omega)
  rw [← hG] at this
  unfold maxLen at this
  omega
 rw [← hG] at hrz0 ⊢
 obtain ⟨zz,hzz⟩: ∃ zz:List Value,zz=(Builtin.zeroCells ((.agg #[(.int .u8 0),(.int .i64 0)]):Value).cells (n+m-i)++Builtin.zeroCells ((.agg #[(.int .u8 0),(.int .i64 0)]):Value).cells (G-(n+m))).toList:=⟨_,rfl⟩
 have hzl:zz.length=(G-i)*2:=by
  have hz2:((.agg #[(.int .u8 0),(.int .i64 0)]):Value).cells.size=2:=rfl
  rw [hzz,Array.length_toList,Array.size_append,size_zeroCells,size_zeroCells,hz2];omega
 obtain ⟨R0,hR0⟩: ∃ R0:Array Value,R0=((cur.toList.take (n*2)).take (i*2)).toArray++Builtin.zeroCells ((.agg #[(.int .u8 0),(.int .i64 0)]):Value).cells (n+m-i)++Builtin.zeroCells ((.agg #[(.int .u8 0),(.int .i64 0)]):Value).cells (G-(n+m)):=⟨_,rfl⟩
 rw [← hR0] at hrz0
 have hR0l:R0.toList=(cur.toList.take (n*2)).take (i*2)++zz:=by rw [hR0,hzz];simp
 have hR0s:R0.size=G*2:=by
  have:=congrArg List.length hR0l
  rw [Array.length_toList,List.length_append,hci,hzl] at this
  omega
 have hrz:(Builtin.append_ #[177,3] 177 #[.slice (some ⟨b,0,none⟩) i c,.int .i64 ((n+m-i:Nat):Int)]).run Tryz.prog w= .ok (.slice (some ⟨w.heap.size,0,none⟩) (n+m) G) (w.drew.alloc (.cells R0 290)):=hrz0
 obtain ⟨g1,g2,g3⟩:=QL (l:=cur.toList.take (n*2)) (vs:=curv.toList.take (m*2)) (z:=zz) (a:=i*2) (b:=m*2) (n:=n*2) (by omega) hvl hcn (by rw [hzl];omega)
 rw [← hR0l] at g1 g2 g3
 obtain ⟨R1,hR1⟩: ∃ R1:Array Value,R1=(R0.toList.take (i*2)++curv.toList.take (m*2)++R0.toList.drop (i*2+(curv.toList.take (m*2)).length)).toArray:=⟨_,rfl⟩
 have hR1l:R1.toList=R0.toList.take (i*2)++curv.toList.take (m*2)++R0.toList.drop (i*2+(curv.toList.take (m*2)).length):=by rw [hR1]
 rw [← hR1l] at g1 g2 g3
 have hdl:((cur.toList.take (n*2)).drop (i*2)).length=n*2-i*2:=by rw [List.length_drop,hcn]
 obtain ⟨R2,hR2⟩: ∃ R2:Array Value,R2=(R1.toList.take (i*2+m*2)++(cur.toList.take (n*2)).drop (i*2)++R1.toList.drop (i*2+m*2+((cur.toList.take (n*2)).drop (i*2)).length)).toArray:=⟨_,rfl⟩
 have hR2l:R2.toList=R1.toList.take (i*2+m*2)++(cur.toList.take (n*2)).drop (i*2)++R1.toList.drop (i*2+m*2+((cur.toList.take (n*2)).drop (i*2)).length):=by rw [hR2]
 rw [← hR2l] at g2 g3
 rw [Array.length_toList,Array.length_toList,hR0s] at g1 g2
 rw [show n*2+m*2=(n+m)*2 by omega] at g3
 have hR2s:=g2
 have hR2t:=g3
 have run1: ∀ W:World,W.heap[w.heap.size]? =some (.cells R0 290 (0,0))→W.heap[vb]? =some (.cells curv ev (0,0))→ ∀ ty dc,(Builtin.copy_ #[177,177] ty #[.slice (some ⟨w.heap.size,0+i*2,none⟩) (n+m-i) dc,.slice (some ⟨vb,0,none⟩) m mc]).run Tryz.prog W= .ok (goInt (Nat.min m (n+m-i))) (W.setRow w.heap.size R1):=fun W hN hv ty dc=>by
  have hmin:Nat.min m (n+m-i)=m:=by simp only [Nat.min_def];split <;> omega
  rw [hR1,Nat.zero_add]
  exact mK Tryz.underlying177 tiI (by rw [hvl,hmin]) (cell_of_heap hv _ _ (by rw [hvl,List.drop_zero])) hN (by rw [hvl];omega) h1v
 have run2: ∀ W:World,W.heap[w.heap.size]? =some (.cells R1 290 (0,0))→W.heap[b]? =some (.cells cur 290 (0,0))→ ∀ ty dc sc,(Builtin.copy_ #[177,177] ty #[.slice (some ⟨w.heap.size,0+(i+m)*2,none⟩) (n+m-(i+m)) dc,.slice (some ⟨b,0+i*2,none⟩) (n-i) sc]).run Tryz.prog W= .ok (goInt (Nat.min (n-i) (n+m-(i+m)))) (W.setRow w.heap.size R2):=fun W hN hb ty dc sc=>by
  have hmin:Nat.min (n-i) (n+m-(i+m))=n-i:=by simp only [Nat.min_def];split <;> omega
  rw [hR2,show i*2+m*2=0+(i+m)*2 by omega]
  exact mK Tryz.underlying177 tiI (by rw [hdl,hmin];omega) (cell_of_heap hb _ _ (by rw [hdl,Nat.zero_add,List.drop_take])) hN (by rw [hdl];omega) (fun v hv=>h1 v (List.mem_of_mem_drop hv))
 have hC:Chg [w.heap.size] w (w.drew.alloc (.cells R0 290)):=⟨rfl,rfl,rfl,by simp,fun b hb _=>heap_alloc_old w.drew _ hb⟩
 clear hR1 hR2 hR1l hR2l hR0 hR0l hzz hzl g1 g2 g3 hrz0 hold
 refine jL Tryz.func188 rfl Tryz.ntmps188 rfl ?_
 refine aX ?_
 refine aW ?_
 refine ay (cK Opd.c) rfl rfl rfl rfl<| ?_
 refine bG ?_
 refine aN ?_
 refine aX ?_
 refine aW ?_
 refine ay (ax (Opd.t rfl)) rfl rfl rfl rfl<|ay (ax (Opd.t rfl)) rfl rfl rfl rfl<|ay (kl Tryz.underlying177 tiI (Opd.t rfl) (Opd.t rfl) (by omega) (by omega) (by omega)) rfl rfl rfl rfl<| ?_
 refine bG ?_
 refine aN ?_
 refine aX ?_
 refine aW ?_
 refine ay (ax (Opd.t rfl)) rfl rfl rfl rfl<|ay (kB Tryz.underlying177 (Opd.t rfl) (fun _=>⟨_,_,rfl⟩)) rfl rfl rfl rfl<|ay (cK (Opd.t rfl)) rfl rfl rfl rfl<| ?_
 refine bG ?_
 refine aN ?_
 refine aX ?_
 refine aX ?_
 refine aW ?_
 refine ay (ax (Opd.t rfl)) rfl rfl rfl rfl<|ay (Run.eqB (pJ (Opd.t rfl) Opd.c) z1) rfl rfl rfl rfl<| ?_
 refine bG ?_
 refine aN ?_
 refine iF (Opd.t rfl) (fun h=>by cases h) (fun _=> ?_)
 refine nu ?_
 refine aN ?_
 refine aX ?_
 refine aW ?_
 refine ay (ax (Opd.t rfl)) rfl rfl rfl rfl<|ay (kB Tryz.underlying177 (Opd.t rfl) (fun _=>⟨_,_,rfl⟩)) rfl rfl rfl rfl<|ay (cK (Opd.t rfl)) rfl rfl rfl rfl<| ?_
 refine bG ?_
 refine aN ?_
 refine aX ?_
 refine aX ?_
 refine aW ?_
 refine ay (ax (Opd.t rfl)) rfl rfl rfl rfl<|ay (ax (Opd.t rfl)) rfl rfl rfl rfl<|ay (Run.eqB (pJ (Opd.t rfl) (Opd.t rfl)) z2) rfl rfl rfl rfl<| ?_
 refine bG ?_
 refine aN ?_
 refine iF (Opd.t rfl) (fun h=>by cases h) (fun _=> ?_)
 refine nu ?_
 refine aN ?_
 refine aX ?_
 refine aX ?_
 refine aW ?_
 refine ay (ax (Opd.t rfl)) rfl rfl rfl rfl<|ay (ax (Opd.t rfl)) rfl rfl rfl rfl<|ay (Run.eqI (nD (Opd.t rfl) (Opd.t rfl)) a1) rfl rfl rfl rfl<|ay (ax (Opd.t rfl)) rfl rfl rfl rfl<|ay (Fj Tryz.underlying177 (Opd.t rfl)) rfl rfl rfl rfl<|ay (Run.eqB (Ec (Opd.t rfl) (Opd.t rfl)) z3) rfl rfl rfl rfl<| ?_
 refine bG ?_
 refine aN ?_
 refine iF (Opd.t rfl) (fun _=> ?_) (fun h=>by cases h)
 refine aX ?_
 refine aW ?_
 refine ay (ax (Opd.t rfl)) rfl rfl rfl rfl<|ay (ax (Opd.t rfl)) rfl rfl rfl rfl<|ay (JC Tryz.underlying177 tiI (Opd.t rfl) (Opd.t rfl) (by omega)) rfl rfl rfl rfl<|ay (ax (Opd.t rfl)) rfl rfl rfl rfl<|ay (ax (Opd.t rfl)) rfl rfl rfl rfl<|ay (Run.eqI (nD (Opd.t rfl) (Opd.t rfl)) a1) rfl rfl rfl rfl<|ay (ax (Opd.t rfl)) rfl rfl rfl rfl<|ay (Run.eqI (K8 (Opd.t rfl) (Opd.t rfl)) a3) rfl rfl rfl rfl<| ?_
 refine vT (Bf (Opd.t rfl) (Opd.t rfl) hrz) rfl rfl rfl rfl ?_
 have hN:=heap_alloc_new w.drew (.cells R0 290)
 replace hb:=(heap_alloc_old w.drew (.cells R0 290) (Array.getElem?_eq_some_iff.1 hb).1).trans hb
 replace hv:=(heap_alloc_old w.drew (.cells R0 290) (Array.getElem?_eq_some_iff.1 hv).1).trans hv
 refine ay (cK (Opd.t rfl)) rfl rfl rfl rfl<| ?_
 refine bG ?_
 refine aN ?_
 refine aX ?_
 refine aW ?_
 refine ay (ax (Opd.t rfl)) rfl rfl rfl rfl<|ay (ax (Opd.t rfl)) rfl rfl rfl rfl<|ay (kl Tryz.underlying177 tiI (Opd.t rfl) (Opd.t rfl) (by omega) (by omega) (by omega)) rfl rfl rfl rfl<|ay (ax (Opd.t rfl)) rfl rfl rfl rfl<| ?_
 refine vT (qb (Opd.t rfl) (Opd.t rfl) (run1 _ hN hv _ _)) rfl rfl rfl rfl ?_
 replace hC:=hC.trans (nZ w.heap.size R1)
 replace hN:=setRow_heap _ w.heap.size R0 R1 290 (0,0) hN
 replace hb:=(setRow_other _ w.heap.size b R1 hbN).trans hb
 replace hv:=(setRow_other _ w.heap.size vb R1 hvN).trans hv
 refine bG ?_
 refine aN ?_
 refine aX ?_
 refine nS [0,0,0,6,9,0,0,96,144] (.q 0 0 (.q 1 1 (.q 2 3 (.q 3 7 (.q 4 15 (.q 5 31 (.q 6 63 (.q 7 127 (.l 8 255 .nil))))))))) (by kernel_rfl) (by kernel_rfl) ?_
 intro w1 hx2
 replace hN:=(hx2.block _ (Array.getElem?_eq_some_iff.1 hN).1).trans hN
 replace hb:=(hx2.block _ (Array.getElem?_eq_some_iff.1 hb).1).trans hb
 replace hv:=(hx2.block _ (Array.getElem?_eq_some_iff.1 hv).1).trans hv
 replace hC:=hC.trans (hx2.chg _)
 refine eU (fun _=>(ax (Opd.t rfl))) rfl rfl rfl rfl<|eU (fun _=>(ax (Opd.t rfl))) rfl rfl rfl rfl<|eU (fun _=>(ax (Opd.t rfl))) rfl rfl rfl rfl<|eU (fun _=>(Run.eqI (nD (Opd.t rfl) (Opd.t rfl)) a2)) rfl rfl rfl rfl<|eU (fun _=>(kl Tryz.underlying177 tiI (Opd.t rfl) (Opd.t rfl) (by omega) (by omega) (by omega))) rfl rfl rfl rfl<|eU (fun _=>(ax (Opd.t rfl))) rfl rfl rfl rfl<|eU (fun _=>(ax (Opd.t rfl))) rfl rfl rfl rfl<|eU (fun _=>(kl Tryz.underlying177 tiI (Opd.t rfl) (Opd.t rfl) (by omega) (by omega) (by omega))) rfl rfl rfl rfl<| ?_
 refine Le (pend':=[]) rfl (by kernel_rfl) ?_
 refine vT (qb (Opd.t rfl) (Opd.t rfl) (run2 _ hN hb _ _ _)) rfl rfl rfl rfl ?_
 replace hC:=hC.trans (nZ w.heap.size R2)
 replace hN:=setRow_heap _ w.heap.size R1 R2 290 (0,0) hN
 refine bG ?_
 refine SK Is ?_
 refine O4 ?_
 refine aN ?_
 refine aX ?_
 refine aW ?_
 refine ay (ax (Opd.t rfl)) rfl rfl rfl rfl<|ay (cK (Opd.t rfl)) rfl rfl rfl rfl<| ?_
 refine bG ?_
 refine aN ?_
 refine wb ?_
 refine uP<| ?_
 refine Ls rfl (jD.t rfl) ?_
 exact ⟨rfl,hC,R2,hN,hR2s,hR2t⟩
theorem IG {Φ:Ctx} {w:World} {v vy:SLV} {xs ys:List (Int×Int)} {R Ry:List Nat} {i:Int} (hs:Sat (osl (RP (RI .u8) (RI .i64)) 290 (sl v) xs R::osl (RP (RI .u8) (RI .i64)) 290 (sl vy) ys Ry::Φ) w) (hne:ys≠[]) (hi:qF i xs.length=true) (hroom:aw (xs.length+ys.length) 16=true):
  fg Tryz.prog 188 [sl v,.int .i64 i,sl vy] w (fun r w'=> ∃ (p:SLV) (R':List Nat),r=sl p∧Sat (osl (RP (RI .u8) (RI .i64)) 290 (sl p) (ik xs i ys) R'::imm (RSl (RP (RI .u8) (RI .i64))) [sl vy] ys::Φ) w'):=by
 obtain ⟨hi0,hi1⟩:=Ho.1 hi
 obtain ⟨k,rfl⟩: ∃ k:Nat,i=k:=⟨i.toNat,by omega⟩
 have hk:k≤xs.length:=by omega
 have hym:0<ys.length:=List.length_pos_iff.2 hne
 have hO:=hs.own (i:=0) rfl
 obtain ⟨p,c,hv,hnc⟩:=hO.shape
 obtain ⟨vb,mc,curv,hvy,hRy,hhv,hmc,_,hvsz,hyr⟩:=(hs.own (i:=1) rfl).row hne
 have mono: ∀ {S S':Value→World→Prop} {args},fg Tryz.prog 188 args w S→(∀ r w',S r w'→S' r w')→fg Tryz.prog 188 args w S':=fun h hS=>gO.mono h hS (fun _ _ h=>h)
 by_cases hend:k=xs.length
 · -- at the end
  subst hend
  have hs2:=hs.freeze (i:=1) rfl
  have hs2:Sat (osl (RP (RI .u8) (RI .i64)) 290 (sl v) xs R::imm (RSl (RP (RI .u8) (RI .i64))) [sl vy] ys::Φ) w:=hs2
  obtain ⟨v',R',w',hr,hC,hR,hP⟩:=LN (t:=177) (ty:=177) Tryz.underlying177 tiI rfl (by decide) (hs2.own (i:=0) rfl) (hs2.sl (i:=1) rfl) (fun b hb=>Ctx.gA (i:=0) rfl hb) hroom
  have hS:=hs2.upd (i:=0) rfl (new:=osl (RP (RI .u8) (RI .i64)) 290 v' (xs++ys) R') hC hR (fun M' m _=>hP M' m)
  have hv': ∃ p,v'=sl p:=by
   obtain ⟨a,cap,hv⟩:=(hS.own (i:=0) rfl).len
   exact ⟨(a,_,cap),hv⟩
  obtain ⟨p',rfl⟩:=hv'
  rw [hv,hvy] at hr ⊢
  refine mono (oh hnc hym hr) ?_
  rintro r w1 ⟨rfl,rfl⟩
  rw [← hvy]
  refine ⟨p',R',rfl,?_⟩
  rw [Qz]
  exact hS
 ·have hlt:k<xs.length:=by omega
  have hxne:xs≠[]:=fun h=>by rw [h] at hlt;simp at hlt
  obtain ⟨b,c,cur,hv,hR,hh,hnc,hcm,hsz,hxr⟩:=hO.row hxne
  have hcm2:c≤9223372036854775807:=by unfold maxLen at hcm;omega
  have hbv:vb≠b:=by
   intro e
   subst e
   exact hs.sep 0 1 _ _ rfl rfl (by decide) vb (by show vb∈R;rw [hR];simp) (by show vb∈Ry;rw [hRy];simp)
  have hlen:=PD (ys:=ys) hk
  simp only [aw,Bool.and_eq_true] at hroom
  have hb1:=Nat.le_of_ble_eq_true hroom.1
  have hb2:=Nat.le_of_ble_eq_true hroom.2
  have hcur:c*2=cur.size:=hsz.symm
  by_cases hroomc:xs.length+ys.length≤c
  · -- there is room
   rw [hv,hvy]
   refine mono (yP hlt hym hroomc hcm2 hbv hh hsz hhv (by rw [show curv.size=mc*2 from hvsz];omega) hxr.rA hyr.rA) ?_
   rintro r w1 ⟨rfl,hC,cur',hh',hs',ht'⟩
   rw [← hvy]
   refine ⟨(some ⟨b,0,none⟩,xs.length+ys.length,c),[b],rfl,?_⟩
   have hS:=hs.upd (i:=0) rfl (new:=osl (RP (RI .u8) (RI .i64)) 290 (.slice (some ⟨b,0,none⟩) (xs.length+ys.length) c) (ik xs (k:Int) ys) [b]) (by show Chg R w w1;rw [hR];exact hC) (fun d hd=>by
    have:d=b:=by simpa [osl] using hd
    subst this
    exact ⟨(Array.getElem?_eq_some_iff.1 hh').1,.inl (by show d∈R;rw [hR];simp)⟩) (fun M' m _=>by
    show Own _ _ _ _ _ _ _
    rw [← hlen]
    refine Own.mk_ hh' (by omega) hcm hs' ?_
    rw [hlen]
    have:=(Ll (i:=k) hxr hyr).mv m
    have e:cur'.toList.take ((xs.length+ys.length)*((RP (RI .u8) (RI .i64))).n)=(cur.toList.take (xs.length*((RP (RI .u8) (RI .i64))).n)).take (k*((RP (RI .u8) (RI .i64))).n)++curv.toList.take (ys.length*((RP (RI .u8) (RI .i64))).n)++(cur.toList.take (xs.length*((RP (RI .u8) (RI .i64))).n)).drop (k*((RP (RI .u8) (RI .i64))).n):=ht'
    rw [e]
    exact this)
   exact hS.freeze (i:=1) rfl
  · -- a new row
   rw [hv,hvy]
   refine mono (Wa hlt hym hnc (by omega) hb1 hh hsz hhv (by rw [show curv.size=mc*2 from hvsz];omega) hxr.rA hyr.rA) ?_
   rintro r w1 ⟨rfl,hC,cur',hh',hs',ht'⟩
   rw [← hvy]
   refine ⟨(some ⟨w.heap.size,0,none⟩,xs.length+ys.length,_),[w.heap.size],rfl,?_⟩
   have hE:Chg R w w1:=⟨hC.os,hC.tape,hC.output,hC.size,fun d hd _=>hC.block d hd (by simp;omega)⟩
   have hS:=hs.upd (i:=0) rfl (new:=osl (RP (RI .u8) (RI .i64)) 290 (.slice (some ⟨w.heap.size,0,none⟩) (xs.length+ys.length) (grownCap w (xs.length+ys.length) c 290)) (ik xs (k:Int) ys) [w.heap.size]) hE (fun d hd=>by
    have:d=w.heap.size:=by simpa [osl] using hd
    subst this
    exact ⟨(Array.getElem?_eq_some_iff.1 hh').1,.inr (Nat.le_refl _)⟩) (fun M' m _=>by
    show Own _ _ _ _ _ _ _
    rw [← hlen]
    refine Own.mk_ (by rw [hlen] at *; exact hh') (by rw [hlen];exact grownCap_ge w _ _ _) (by rw [hlen];exact grownCap_le_maxLen w _ c 290 (by simpa [maxLen] using hb2)) (by rw [hlen];exact hs') ?_
    rw [hlen]
    have:=(Ll (i:=k) hxr hyr).mv m
    have e:cur'.toList.take ((xs.length+ys.length)*((RP (RI .u8) (RI .i64))).n)=(cur.toList.take (xs.length*((RP (RI .u8) (RI .i64))).n)).take (k*((RP (RI .u8) (RI .i64))).n)++curv.toList.take (ys.length*((RP (RI .u8) (RI .i64))).n)++(cur.toList.take (xs.length*((RP (RI .u8) (RI .i64))).n)).drop (k*((RP (RI .u8) (RI .i64))).n):=ht'
    rw [e]
    exact this)
   exact hS.freeze (i:=1) rfl
end I188
end Go.Proofs.YtgcgmclghbebjaaGreat
namespace Go.Proofs.YtgcgmclghbebjaaGreat
open Go.Lib
theorem Ur {P:Program} {Γg:Ctx} {f e bytes:Nat} {t:Ty} (hE:cV P f)
  (hins: ∀ {Φ:Ctx} {w:World} {v vy:SLV} {xs ys:List t.T} {R Ry:List Nat} {i:Int},Sat (osl t.rep e (sl v) xs R::osl t.rep e (sl vy) ys Ry::Φ) w→ys≠[]→qF i xs.length=true→aw (xs.length+ys.length) bytes=true→
   fg P f [sl v,.int .i64 i,sl vy] w (fun r w'=> ∃ (p:SLV) (R':List Nat),r=sl p∧Sat (osl t.rep e (sl p) (ik xs i ys) R'::imm (RSl t.rep) [sl vy] ys::Φ) w'))
  (m:List t.T→Int→List t.T→Option (List t.T)) (hm: ∀ xs i ys r,m xs i ys=some r→ys≠[]∧qF i xs.length=true∧aw (xs.length+ys.length) bytes=true∧r=ik xs i ys):
  (⟨f,[.own t e true,.int .i64,.own t e true],.own t e true,[],fun s=>m s.1 s.2.1 s.2.2⟩:Ent).Ok P Γg:=by
 refine ⟨hE,fun s r hr vs N I X Φ w hS hs hΦ=> ?_⟩
 obtain ⟨v1,vs1,D1,D2,I1,I2,X1,X2,N1,rfl,⟨a,l,rfl,_,rfl,rfl,rfl,rfl,_⟩,⟨v2,vs2,D3,D4,I3,I4,X3,X4,N2,rfl,⟨i,rfl,rfl,rfl,rfl,rfl⟩,⟨v3,vs3,D5,D6,I5,I6,X5,X6,N3,rfl,⟨b,l2,rfl,_,rfl,rfl,rfl,rfl,_⟩,⟨rfl,rfl,rfl,rfl,rfl⟩,rfl,rfl,rfl⟩,rfl,rfl,rfl⟩,hD,rfl,rfl⟩:=hS
 obtain ⟨s1,s2,s3⟩:=s
 obtain ⟨hne,hb,hroom,rfl⟩:=hm s1 s2 s3 r hr
 have hD:[(⟨.l t,s1⟩:Dyn),⟨.i .i64,s2⟩,⟨.l t,s3⟩]=[⟨.l t,l⟩,⟨.i .i64,i⟩,⟨.l t,l2⟩]:=hD
 simp only [List.cons.injEq,and_true] at hD
 obtain ⟨hD1,hD2,hD3⟩:=hD
 have q1:s1=l:=by cases hD1;rfl
 have q2:s2=i:=by cases hD2;rfl
 have q3:s3=l2:=by cases hD3;rfl
 subst q1 q2 q3
 have hs:Sat (mX t.rep e a.v s1 True::mX t.rep e b.v s3 True::Φ) w:=hs
 have hs1:Sat (osl t.rep e (sl a.v) s1 (slR a.v)::mX t.rep e b.v s3 True::Φ) w:=Sat.le2 (A:=[]) hs ⟨fun _ h=>h,fun M w h=>h.1⟩
 have hs2:Sat (osl t.rep e (sl a.v) s1 (slR a.v)::osl t.rep e (sl b.v) s3 (slR b.v)::Φ) w:=Sat.le2 (A:=[osl t.rep e (sl a.v) s1 (slR a.v)]) hs1 ⟨fun _ h=>h,fun M w h=>h.1⟩
 refine fg.mono (hins hs2 hne hb hroom) ?_
 rintro v w' ⟨p,R',rfl,hs3⟩
 obtain ⟨Y,hY⟩: ∃ Y:List t.T,Y=ik s1 s2 s3:=⟨_,rfl⟩
 rw [← hY] at hs3
 refine ⟨[a,b,{ nm0 with v:=p,y:=⟨.l t,Y⟩ }],[a,b,{ nm0 with v:=p,y:=⟨.l t,Y⟩ }],[⟨.l t,Y⟩],[],[(true,mX t.rep e p Y True)],[],[],[],
  ⟨{ nm0 with v:=p,y:=⟨.l t,Y⟩ },Y,rfl,(fun q h=>by cases h),rfl,rfl,rfl,rfl,rfl⟩,⟨rfl,rfl,rfl,rfl⟩,by rw [hY];rfl,?_⟩
 have hO:=hs3.own (i:=0) rfl
 have hcan:=hO.canon
 have hs4:Sat ([osl t.rep e (sl p) Y R']++fB::Φ) w':=Sat.le2 (A:=[osl t.rep e (sl p) Y R']) (B:=Φ) hs3 ⟨(fun _ h=>nomatch h),fun _ _ _=>trivial⟩
 have hs5:=Sat.ik (A:=[osl t.rep e (sl p) Y R']) (B:=fB::Φ) hs4 [fB] (fun it hit=>by rw [List.mem_singleton.1 hit];exact ⟨rfl,fun _ _=>trivial⟩)
 exact Sat.le2 (A:=[]) (B:=fB::fB::Φ) (x:=osl t.rep e (sl p) Y R') hs5 ⟨fun b hb=>hcan.1 b hb,fun M w h=>⟨hcan.2 M w h,trivial⟩⟩
end Go.Proofs.YtgcgmclghbebjaaGreat
