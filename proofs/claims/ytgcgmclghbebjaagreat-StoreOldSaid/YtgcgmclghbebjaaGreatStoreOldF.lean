/-
  Own texts for the statement StoreOld, cut down to what it needs: Model, B34, KIn, KIe. (cut and joined by a program)
-/
import Derived.Test.YtgcgmclghbebjaaGreatStoreOldA
import Derived.Test.YtgcgmclghbebjaaGreatStoreOldB
import Derived.Test.YtgcgmclghbebjaaGreatStoreOldC
import Derived.Test.YtgcgmclghbebjaaGreatStoreOldD
import Derived.Test.YtgcgmclghbebjaaGreatStoreOldE
import Derived.Test.YtgcgmclghbebjaaGreatProg
namespace Go.Proofs.YtgcgmclghbebjaaGreat
abbrev Q1:=(Int×(List (List Int))×(List Int))
abbrev Q2:=((Int×(List ((List (Int×Int))×Int))×Int×Int×(List Int))×(Int×(List ((List (Int×Int))×Int))×Int×Int×(List Int))×(Int×(List ((List (Int×Int))×Int))×Int×Int×(List Int)))
abbrev Q3:=(Int×(List (Int×Int))×Int×(Q1×(List Int))×((List Q1)×Q1×(List Int))×((List Q1)×(List Int))×Q2×(Int×Int×Int×((List Int)×(List Int)×(List Int))))
abbrev Q4:=(List Int)
abbrev Q5:=(List (Int×Int))
abbrev Q6:=(List (Q5×Int))
abbrev Q7:=(Int×Int×Int×(Q4×Q4×Q4))
abbrev Q8:=(Option (List (Int×Bool)))
abbrev Q9:=(Int×Q5×Int×Int×(List Q4)×Q4×Q4×(List Q1)×Int×(List Q4)×Q4×Q4×(List Q1)×Q4×Int×Q6×Int×Int×Q4×Int×Q6×Int×Int×Q4×Int×Q6×Int×Int×Q4×Int×Int×Int×Q4×Q4×Q4×(List Q4)×Int)
abbrev Q10:=((List Q1)×Q1×Q4)
abbrev Q11:=(Int×Q6×Int×Int×Q4)
abbrev Q12:=(Int×Q6×Q4×Q8)
abbrev Q13:=(Int×Int)
abbrev Q14:=(Int×Int×Int×Int×Int×Int)
abbrev Q15:=(Q4×Int)
abbrev Q16:=((List Q1)×Q4)
abbrev Q17:=(Int×Int×Int×Int×Int×Int×Int×Int)
abbrev Q18:=(Bool×Int)
abbrev Q19:=(Int×Q4×Int×Q6×Int×Int×Q4×Q8)
abbrev Q20:=(Int×Bool)
abbrev Q21:=(Int×Int×Q6×Int×Int×Q4×Q8)
abbrev Q22:=(Q3×Bool×Int)
abbrev Q23:=(Int×Q4×(List Q1))
abbrev Q24:=(Q3×Int)
abbrev Q25:=(Q10×Bool×Int)
abbrev Q26:=(Int×(List Q1))
noncomputable section
def BA {α:Type} (b:Nat) (s:List α) (k:Int) (y:List α):Option (List α):=match y with
 | []=>none
 | y0::ys=>chk (oY k (List.length s)&&aB (List.length s+List.length (y0::ys)) b) (some (fS s k (y0::ys)))
def LA (x0:Int) (x1:Int) (y0:Int) (y1:Int):Bool:=x0==y0&&x1==y1
def jI (f:Q13):Option Bool:= aj (decide (f.1<(-1073741824))) fun b5=> aj (decide (1073741824<f.2)) fun b7=> aj (b5||b7) fun b9=> aj (!b9) fun b11=> aj (decide (f.1≤f.2)) fun b13=> aj (b11&&b13) fun b15=> aj (decide ((IntKind.i64.wrap (f.2-f.1))<65536)) fun b17=> aj (b15&&b17) fun b19=> some b19
def jE (s:Q5) (again12:((List Bool)×Int)→Option (List Bool)):(List Bool)×Int→Option (List Bool):=fun ⟨l10,t11⟩=> bif (decide (t11<(List.length s:Int))) then ( (idx s t11).bind fun e14=> (jI e14).bind fun r19=> (idx l10 t11).bind fun _e22=> again12 ((List.set l10 (Int.toNat t11) r19),(IntKind.i64.wrap (t11+1)))) else ( some l10)
def iW (s:Q5):Option (List Bool):= chk (decide (0≤(List.length s:Int)))<| chk (aB (Int.toNat (List.length s:Int)) 1)<| ar (jE s) az ((List.replicate (Int.toNat (List.length s:Int)) false),0)
def cN (s:(List Bool)) (v3:Bool) (again5:Int→Option Int) (t4:Int):Option Int:= bif (decide (t4<(List.length s:Int))) then ( (idx s t4).bind fun e7=> bif (v3==e7) then ( some t4) else ( again5 (IntKind.i64.wrap (t4+1)))) else ( some (-1))
def ij (s:(List Bool)) (v3:Bool):Option Int:= ar (cN s v3) az 0
def dK (s:(List Bool)) (v3:Bool):Option Bool:= (ij s v3).bind fun r3=> some (decide (0≤r3))
def mV (s:Q5):Option Bool:= aj (decide (1≤(List.length s:Int))) fun b3=> aj (decide ((List.length s:Int)≤17)) fun b5=> aj (b3&&b5) fun b7=> bF b7 default (iW s) fun r9=> bF b7 default (dK r9 false) fun r18=> aj (!r18) fun b24=> aj (b7&&b24) fun b26=> some b26
def aC:Option (List Nat):= some ([133,134,135,136,137]:List Nat)
def cC (s:Q5):Option Q5:= chk (aB (List.length s) 16)<| some s
def gJ (most:Int):Option (Q1×Int):= aj (decide (most<0)) fun b10=> aj (decide (1048576<most)) fun b12=> aj (b10||b12) fun b14=> bif b14 then ( some ((0,[],[]),1)) else ( chk (decide (0≤8))<| chk (aB (Int.toNat 8) 8)<| some ((most,[],(List.replicate (Int.toNat 8) 0)),0))
def uC (most:Int):Option ((Q1×Q4)×Int):= (gJ most).bind fun r12=> some ((r12.1,[]),r12.2)
def dV (_x:Unit) (t:Q3) (o:Q14):Option Q24:= (uC o.2.1).bind fun r49=> some ((t.1,t.2.1,t.2.2.1,r49.1,t.2.2.2.2.1,t.2.2.2.2.2.1,t.2.2.2.2.2.2.1,t.2.2.2.2.2.2.2),r49.2)
def rS (s:Q5) (most:Int) (r14:(Q1×Int)) (again34:((List Q1)×Int)→Option (Q10×Int)):(List Q1)×Int→Option (Q10×Int):=fun ⟨l30,t33⟩=> bif (decide (t33<(IntKind.i64.wrap (Int.tdiv (IntKind.i64.wrap ((IntKind.i64.wrap ((List.length s:Int)+2))-1)) 2)))) then ( (gJ most).bind fun r36=> chk (aB (List.length l30+List.length ([r36.1]:List Q1)) 56)<| again34 ((l30++([r36.1]:List Q1)),(IntKind.i64.wrap (t33+1)))) else ( some ((l30,r14.1,[]),0))
def u4 (s:Q5) (most:Int):Option (Q10×Int):= (gJ most).bind fun r14=> bif (r14.2 != 0) then ( some (([],(0,[],[]),[]),r14.2)) else ( ar (rS s most r14) az ([],0))
def dF (_x:Unit) (t:Q3) (o:Q14):Option Q24:= (u4 t.2.1 o.2.1).bind fun r49=> some ((t.1,t.2.1,t.2.2.1,t.2.2.2.1,r49.1,t.2.2.2.2.2.1,t.2.2.2.2.2.2.1,t.2.2.2.2.2.2.2),r49.2)
def wh (most:Int):Option (Q1×Int):= (gJ most).bind fun r10=> some (r10.1,r10.2)
def jw (yq:Int→Option Int) (n:Int):Option Int:= bif (decide (n<2)) then ( some 0) else ( (yq (IntKind.i64.wrap (Int.tdiv (IntKind.i64.wrap (n+1)) 2))).bind fun r4=> (yq (IntKind.i64.wrap (n-(IntKind.i64.wrap (Int.tdiv (IntKind.i64.wrap (n+1)) 2))))).bind fun r7=> some (IntKind.i64.wrap ((IntKind.i64.wrap (1+r4))+r7)))
def lU (n:Int):Option Int:=
 ar (fun k (s:Int)=>jw k s) az n
def sw (_s:Q5) (r10:(Q1×Int)) (r25:Int) (again33:((List Q1)×Int)→Option (Q16×Int)):(List Q1)×Int→Option (Q16×Int):=fun ⟨l29,t32⟩=> bif (decide (t32<(max 1 r25))) then ( chk (aB (List.length l29+List.length ([r10.1]:List Q1)) 56)<| again33 ((l29++([r10.1]:List Q1)),(IntKind.i64.wrap (t32+1)))) else ( some ((l29,[]),0))
def uH (s:Q5) (most:Int):Option (Q16×Int):= (wh most).bind fun r10=> bif (r10.2 != 0) then ( some (([],[]),r10.2)) else ( (lU (List.length s:Int)).bind fun r25=> ar (sw s r10 r25) az ([],0))
def dG (_x:Unit) (t:Q3) (o:Q14):Option Q24:= (uH t.2.1 o.2.1).bind fun r49=> some ((t.1,t.2.1,t.2.2.1,t.2.2.2.1,t.2.2.2.2.1,r49.1,t.2.2.2.2.2.2.1,t.2.2.2.2.2.2.2),r49.2)
def p9 (again6:Q13→Option Int):Int×Int→Option Int:=fun ⟨n4,k5⟩=> bif (decide (0<n4)) then ( again6 ((aq .u64 n4 1),(IntKind.i64.wrap (k5+1)))) else ( some k5)
def oy (n:Int):Option Int:= ar p9 az (n,0)
def ja (f:Q13):Option Int:= (oy (IntKind.u64.wrap (IntKind.i64.wrap (f.2-f.1)))).bind fun r5=> some r5
def jS (s:Q5) (again12:Q15→Option Q4):Q4×Int→Option Q4:=fun ⟨l10,t11⟩=> bif (decide (t11<(List.length s:Int))) then ( (idx s t11).bind fun e14=> (ja e14).bind fun r19=> (idx l10 t11).bind fun _e22=> again12 ((List.set l10 (Int.toNat t11) r19),(IntKind.i64.wrap (t11+1)))) else ( some l10)
def ic (s:Q5):Option Q4:= chk (decide (0≤(List.length s:Int)))<| chk (aB (Int.toNat (List.length s:Int)) 8)<| ar (jS s) az ((List.replicate (Int.toNat (List.length s:Int)) 0),0)
def nQ (_s:Q5) (r3:Q4) (again11:Q13→Option Int):Int×Int→Option Int:=fun ⟨n9,t10⟩=> bif (decide (t10<(List.length r3:Int))) then ( (idx r3 t10).bind fun e13=> again11 ((IntKind.i64.wrap (n9+e13)),(IntKind.i64.wrap (t10+1)))) else ( some n9)
def nZ (s:Q5):Option Int:= (ic s).bind fun r3=> ar (nQ s r3) az (0,0)
def iM (s:Q5):Option Int:= (nZ s).bind fun r3=> some (max 1 (IntKind.i64.wrap (Int.tdiv (IntKind.i64.wrap (r3+7)) 8)))
def xP (wide:Int):Option (Q11×Int):= aj (decide (wide<1)) fun b10=> aj (decide (64<wide)) fun b12=> aj (b10||b12) fun b14=> bif b14 then ( some ((0,[],0,0,[]),1)) else ( some ((wide,[],(-1),0,[]),0))
def dS (_x:Unit) (t:Q3) (again80:(Int×Q6×Int×Int×Q4×Int×Q6×Int×Int×Q4×Int×Q6×Int×Int×Q4×Int)→Option Q24):Int×Q6×Int×Int×Q4×Int×Q6×Int×Int×Q4×Int×Q6×Int×Int×Q4×Int→Option Q24:=fun ⟨c58,c59,c61,c62,c63,c65,c66,c68,c69,c70,c72,c73,c75,c76,c77,t79⟩=> bif (decide (t79<3)) then ( (iM t.2.1).bind fun r82=> (xP r82).bind fun r85=> bif (t79==0) then ( again80 (r85.1.1,r85.1.2.1,r85.1.2.2.1,r85.1.2.2.2.1,r85.1.2.2.2.2,c65,c66,c68,c69,c70,c72,c73,c75,c76,c77,(IntKind.i64.wrap (t79+1)))) else ( bif (t79==1) then ( again80 (c58,c59,c61,c62,c63,r85.1.1,r85.1.2.1,r85.1.2.2.1,r85.1.2.2.2.1,r85.1.2.2.2.2,c72,c73,c75,c76,c77,(IntKind.i64.wrap (t79+1)))) else ( bif (t79==2) then ( again80 (c58,c59,c61,c62,c63,c65,c66,c68,c69,c70,r85.1.1,r85.1.2.1,r85.1.2.2.1,r85.1.2.2.2.1,r85.1.2.2.2.2,(IntKind.i64.wrap (t79+1)))) else ( none)))) else ( some ((t.1,t.2.1,t.2.2.1,t.2.2.2.1,t.2.2.2.2.1,t.2.2.2.2.2.1,((c58,c59,c61,c62,c63),(c65,c66,c68,c69,c70),(c72,c73,c75,c76,c77)),t.2.2.2.2.2.2.2),0))
def dp (x:Unit) (t:Q3) (o:Q14):Option Q24:= aj (decide (o.2.1<0)) fun b49=> aj (decide (1048576<o.2.1)) fun b51=> aj (b49||b51) fun b53=> bif b53 then ( some (t,1)) else ( ar (dS x t) az (t.2.2.2.2.2.2.1.1.1,t.2.2.2.2.2.2.1.1.2.1,t.2.2.2.2.2.2.1.1.2.2.1,t.2.2.2.2.2.2.1.1.2.2.2.1,t.2.2.2.2.2.2.1.1.2.2.2.2,t.2.2.2.2.2.2.1.2.1.1,t.2.2.2.2.2.2.1.2.1.2.1,t.2.2.2.2.2.2.1.2.1.2.2.1,t.2.2.2.2.2.2.1.2.1.2.2.2.1,t.2.2.2.2.2.2.1.2.1.2.2.2.2,t.2.2.2.2.2.2.1.2.2.1,t.2.2.2.2.2.2.1.2.2.2.1,t.2.2.2.2.2.2.1.2.2.2.2.1,t.2.2.2.2.2.2.1.2.2.2.2.2.1,t.2.2.2.2.2.2.1.2.2.2.2.2.2,0))
def kU (m:Int) (k:Int) (seed:Int) (again42:(Q4×Q4×Q4×Int)→Option (Q7×Int)):Q4×Q4×Q4×Int→Option (Q7×Int):=fun ⟨l32,l35,l38,t41⟩=> bif (decide (t41<3)) then ( chk (decide (0≤(IntKind.i64.wrap (Int.tdiv (IntKind.i64.wrap (m+7)) 8))))<| chk (aB (Int.toNat (IntKind.i64.wrap (Int.tdiv (IntKind.i64.wrap (m+7)) 8))) 1)<| bif (t41==0) then ( again42 ((List.replicate (Int.toNat (IntKind.i64.wrap (Int.tdiv (IntKind.i64.wrap (m+7)) 8))) 0),l35,l38,(IntKind.i64.wrap (t41+1)))) else ( bif (t41==1) then ( again42 (l32,(List.replicate (Int.toNat (IntKind.i64.wrap (Int.tdiv (IntKind.i64.wrap (m+7)) 8))) 0),l38,(IntKind.i64.wrap (t41+1)))) else ( bif (t41==2) then ( again42 (l32,l35,(List.replicate (Int.toNat (IntKind.i64.wrap (Int.tdiv (IntKind.i64.wrap (m+7)) 8))) 0),(IntKind.i64.wrap (t41+1)))) else ( none)))) else ( some ((m,k,seed,(l32,l35,l38)),0))
def uu (m:Int) (k:Int) (seed:Int):Option (Q7×Int):= aj (decide (m<1)) fun b12=> aj (decide (4194304<m)) fun b14=> aj (b12||b14) fun b16=> aj (decide (k<1)) fun b18=> aj (b16||b18) fun b20=> aj (decide (16<k)) fun b22=> aj (b20||b22) fun b24=> bif b24 then ( some ((0,0,0,([],[],[])),1)) else ( ar (kU m k seed) az ([],[],[],0))
def fm (_x:Unit) (t:Q3) (o:Q14):Option Q24:= aj (decide (o.2.1<0)) fun b49=> aj (decide (1048576<o.2.1)) fun b51=> aj (b49||b51) fun b53=> bif b53 then ( some (t,1)) else ( (uu o.2.2.2.2.1 o.2.2.2.2.2 o.2.2.2.1).bind fun r57=> some ((t.1,t.2.1,t.2.2.1,t.2.2.2.1,t.2.2.2.2.1,t.2.2.2.2.2.1,t.2.2.2.2.2.2.1,r57.1),r57.2))
def cT (s:Q5) (o:Q14):Option Q24:= (mV s).bind fun r29=> aj (!r29) fun b32=> aj (decide (o.1<0)) fun b34=> aj (b32||b34) fun b36=> bF (!b36) default (aC) fun r38=> aj (decide ((List.length r38:Int)≤o.1)) fun b46=> aj (b36||b46) fun b48=> bif b48 then ( some ((0,[],0,((0,[],[]),[]),([],(0,[],[]),[]),([],[]),((0,[],0,0,[]),(0,[],0,0,[]),(0,[],0,0,[])),(0,0,0,([],[],[]))),1)) else ( (aC).bind fun r54=> (idx r54 o.1).bind fun e58=> (cC s).bind fun r60=> bif (Nat.beq e58 133) then ( (dV () (o.1,r60,o.2.1,((0,[],[]),[]),([],(0,[],[]),[]),([],[]),((0,[],0,0,[]),(0,[],0,0,[]),(0,[],0,0,[])),(0,0,0,([],[],[]))) o).bind fun r65=> bif (r65.2 != 0) then ( some ((0,[],0,((0,[],[]),[]),([],(0,[],[]),[]),([],[]),((0,[],0,0,[]),(0,[],0,0,[]),(0,[],0,0,[])),(0,0,0,([],[],[]))),r65.2)) else ( some (r65.1,0))) else ( bif (Nat.beq e58 134) then ( (dF () (o.1,r60,o.2.1,((0,[],[]),[]),([],(0,[],[]),[]),([],[]),((0,[],0,0,[]),(0,[],0,0,[]),(0,[],0,0,[])),(0,0,0,([],[],[]))) o).bind fun r96=> bif (r96.2 != 0) then ( some ((0,[],0,((0,[],[]),[]),([],(0,[],[]),[]),([],[]),((0,[],0,0,[]),(0,[],0,0,[]),(0,[],0,0,[])),(0,0,0,([],[],[]))),r96.2)) else ( some (r96.1,0))) else ( bif (Nat.beq e58 135) then ( (dG () (o.1,r60,o.2.1,((0,[],[]),[]),([],(0,[],[]),[]),([],[]),((0,[],0,0,[]),(0,[],0,0,[]),(0,[],0,0,[])),(0,0,0,([],[],[]))) o).bind fun r128=> bif (r128.2 != 0) then ( some ((0,[],0,((0,[],[]),[]),([],(0,[],[]),[]),([],[]),((0,[],0,0,[]),(0,[],0,0,[]),(0,[],0,0,[])),(0,0,0,([],[],[]))),r128.2)) else ( some (r128.1,0))) else ( bif (Nat.beq e58 136) then ( (dp () (o.1,r60,o.2.1,((0,[],[]),[]),([],(0,[],[]),[]),([],[]),((0,[],0,0,[]),(0,[],0,0,[]),(0,[],0,0,[])),(0,0,0,([],[],[]))) o).bind fun r158=> bif (r158.2 != 0) then ( some ((0,[],0,((0,[],[]),[]),([],(0,[],[]),[]),([],[]),((0,[],0,0,[]),(0,[],0,0,[]),(0,[],0,0,[])),(0,0,0,([],[],[]))),r158.2)) else ( some (r158.1,0))) else ( bif (Nat.beq e58 137) then ( (fm () (o.1,r60,o.2.1,((0,[],[]),[]),([],(0,[],[]),[]),([],[]),((0,[],0,0,[]),(0,[],0,0,[]),(0,[],0,0,[])),(0,0,0,([],[],[]))) o).bind fun r186=> bif (r186.2 != 0) then ( some ((0,[],0,((0,[],[]),[]),([],(0,[],[]),[]),([],[]),((0,[],0,0,[]),(0,[],0,0,[]),(0,[],0,0,[])),(0,0,0,([],[],[]))),r186.2)) else ( some (r186.1,0))) else ( none))))))
def jG (f:Q13) (n:Int):Option Bool:= aj (decide (f.1≤n)) fun b5=> aj (decide (n≤f.2)) fun b7=> aj (b5&&b7) fun b9=> some b9
def jZ (s:Q5) (v3:Q4) (again6:Int→Option Int) (t5:Int):Option Int:= bif (decide (t5<(List.length v3:Int))) then ( (idx v3 t5).bind fun e8=> (idx s t5).bind fun e10=> (jG e10 e8).bind fun r12=> bif (!r12) then ( some 5) else ( again6 (IntKind.i64.wrap (t5+1)))) else ( some 0)
def bQ (s:Q5) (v3:Q4):Option Int:= bif ((List.length v3:Int) != (List.length s:Int)) then ( some 1) else ( ar (jZ s v3) az 0)
def aT (t:Q3):Option Nat:= (aC).bind fun r7=> (idx r7 t.1).bind fun e12=> some e12
def kV (b:Q4):Option Q4:= chk (aB (List.length b) 1)<| some b
def BX (w1:Q15):Option Q15:= (kV w1.1).bind fun r5=> some (r5,w1.2)
def rk (N:Int) (l11:Q4):Option Q15:= some (l11,(IntKind.i64.wrap (N+1)))
def mX (one:Bool) (N:Int) (c7:Q4):Option Q15:= aj (fun (s14:Q4)=>rk N s14) fun kk13=> bif one then ( (idx c7 (IntKind.i64.wrap (Int.tdiv N 8))).bind fun e18=> chk (decide (0≤(Int.tmod N 8)))<| (idx c7 (IntKind.i64.wrap (Int.tdiv N 8))).bind fun _e21=> kk13 (List.set c7 (Int.toNat (IntKind.i64.wrap (Int.tdiv N 8))) (orI .u8 e18 (aq .u8 128 (Int.tmod N 8))))) else ( kk13 c7)
def mI (one:Bool) (B:Q4) (N:Int):Option Q15:= aj (fun (s25:Q4)=>mX one N s25) fun kk24=> bif ((Int.tmod N 8)==0) then ( chk (aB (List.length B+List.length ([0]:List Int)) 1)<| kk24 (B++([0]:List Int))) else ( kk24 B)
def rV (n:Int) (again35:(Q4×Int×Int)→Option (Q15×Int)):Q4×Int×Int→Option (Q15×Int):=fun ⟨c30,c33,i34⟩=> bif (decide (0≤i34)) then ( chk (decide (0≤i34))<| (mI ((fz .u64 (aq .u64 n i34) 1)==1) c30 c33).bind fun r40=> again35 (r40.1,r40.2,(IntKind.i64.wrap (i34-1)))) else ( some ((c30,c33),0))
def uG (w1:Q15) (n:Int) (wide:Int):Option (Q15×Int):= aj (decide (wide<0)) fun b10=> aj (decide (64<wide)) fun b12=> aj (b10||b12) fun b14=> bif b14 then ( some (w1,1)) else ( (oy n).bind fun r18=> bif (decide (wide<r18)) then ( some (w1,5)) else ( (BX w1).bind fun r23=> ar (rV n) az (r23.1,r23.2,(IntKind.i64.wrap (wide-1)))))
def lA (s:Q5) (v3:Q4) (r14:Q4) (again24:(Q4×Int×Int)→Option Q15):Q4×Int×Int→Option Q15:=fun ⟨c20,c22,t23⟩=> bif (decide (t23<(List.length r14:Int))) then ( (idx r14 t23).bind fun e26=> (idx v3 t23).bind fun e30=> (idx s t23).bind fun e32=> (uG (c20,c22) (IntKind.u64.wrap (IntKind.i64.wrap (e30-e32.1))) e26).bind fun r34=> again24 (r34.1.1,r34.1.2,(IntKind.i64.wrap (t23+1)))) else ( (iM s).bind fun r39=> chk (decide (0≤r39))<| chk (aB (Int.toNat r39) 1)<| some ((mg (List.replicate (Int.toNat r39) 0) c20),0))
def fc (s:Q5) (v3:Q4):Option Q15:= (bQ s v3).bind fun r8=> bif (r8 != 0) then ( some ([],r8)) else ( (ic s).bind fun r14=> ar (lA s v3 r14) az ([],0,0))
def bR (t:Q3) (v39:Q4):Option Q4:= (fc t.2.1 v39).bind fun r7=> some r7.1
def rO (x:Int):Option Int:= some (qw .u64 x (aq .u64 x 29))
def rN (x:Int):Option Int:= some (IntKind.u64.wrap (x*13787848793156543929))
def rT (x:Int):Option Int:= some (qw .u64 x (aq .u64 x 32))
def sh (b:Q4) (again9:Q13→Option Int):Int×Int→Option Int:=fun ⟨c7,t8⟩=> bif (decide (t8<(List.length b:Int))) then ( (idx b t8).bind fun e11=> again9 ((IntKind.u64.wrap ((qw .u64 c7 (IntKind.u64.wrap e11))*1099511628211)),(IntKind.i64.wrap (t8+1)))) else ( (rO c7).bind fun r17=> (rN r17).bind fun r20=> (rT r20).bind fun r23=> some r23)
def nb (b:Q4) (seed:Int):Option Int:= ar (sh b) az ((qw .u64 seed 11400714819323198485),0)
def lP (h:Int) (n:Int):Option Int:= bif (decide (n<1)) then ( some 0) else ( chk ((IntKind.u64.wrap n) != 0)<| some (IntKind.i64.wrap (Int.tmod h (IntKind.u64.wrap n))))
def kQ (a:Q4) (b:Q4):Option Bool:= some ((strOf a)==(strOf b))
def cV (v1:Q1) (key:Q4) (again15:Int→Option Int) (at14:Int):Option Int:= (idx v1.2.2 at14).bind fun e16=> aj (e16==0) fun b18=> bF (!b18) [] (idx v1.2.1 (IntKind.i64.wrap (e16-1))) fun e20=> bF (!b18) default (kQ e20 key) fun r26=> aj (b18||r26) fun b32=> bif b32 then ( some at14) else ( chk ((List.length v1.2.2:Int) != 0)<| again15 (Int.tmod (IntKind.i64.wrap (at14+1)) (List.length v1.2.2:Int)))
def cL (v1:Q1) (key:Q4):Option Int:= (nb key 0).bind fun r7=> (lP r7 (List.length v1.2.2:Int)).bind fun r10=> ar (cV v1 key) az r10
def mO (v1:Q1) (key:Q4):Option Q20:= bif ((List.length v1.2.2:Int)==0) then ( some (0,false)) else ( (cL v1 key).bind fun r9=> (idx v1.2.2 r9).bind fun e12=> some ((max (IntKind.i64.wrap (e12-1)) 0),(decide (0<e12))))
def bO (t:Q1) (key:Q4):Option Q20:= (mO t key).bind fun r6=> some (r6.1,r6.2)
def lJ (v1:Q1) (key:Q4) (again15:Int→Option Int) (at14:Int):Option Int:= (idx v1.2.2 at14).bind fun e16=> aj (e16==0) fun b18=> bF (!b18) [] (idx v1.2.1 (IntKind.i64.wrap (e16-1))) fun e20=> bF (!b18) default (kQ e20 key) fun r26=> aj (b18||r26) fun b32=> bif b32 then ( some at14) else ( chk ((List.length v1.2.2:Int) != 0)<| again15 (Int.tmod (IntKind.i64.wrap (at14+1)) (List.length v1.2.2:Int)))
def gR (v1:Q1) (key:Q4):Option Int:= (nb key 0).bind fun r7=> (lP r7 (List.length v1.2.2:Int)).bind fun r10=> ar (lJ v1 key) az r10
def gq (Cap:Int) (Keys:(List Q4)) (again15:((List Q4)×Q4×Int)→Option ((List Q4)×Q4)):(List Q4)×Q4×Int→Option ((List Q4)×Q4):=fun ⟨l12,l13,t14⟩=> bif (decide (t14<(List.length Keys:Int))) then ( (idx l12 t14).bind fun e17=> (gR (Cap,l12,l13) e17).bind fun r25=> (idx ((Cap,l12,l13).2.2) r25).bind fun _e28=> again15 ((Cap,l12,l13).2.1,(List.set ((Cap,l12,l13).2.2) (Int.toNat r25) (IntKind.i64.wrap (t14+1))),(IntKind.i64.wrap (t14+1)))) else ( some (l12,l13))
def je (n:Int) (Cap:Int) (Keys:(List Q4)) (_Slot:Q4):Option ((List Q4)×Q4):= chk (decide (0≤n))<| chk (aB (Int.toNat n) 8)<| ar (gq Cap Keys) az (Keys,(List.replicate (Int.toNat n) 0),0)
def db (s:Q4):Option Q4:= chk (aB (List.length s) 8)<| some s
def rG (t:Q1) (l41:(List Q4)) (c42:Q4):Option (Q1×Int×Bool×Int):= some ((t.1,l41,c42),(List.length t.2.1:Int),true,0)
def bf (t:Q1) (key:Q4):Option (Q1×Int×Bool×Int):= (bO t key).bind fun r14=> bif r14.2 then ( some (t,r14.1,false,0)) else ( bif (decide (t.1≤(List.length t.2.1:Int))) then ( some (t,0,false,7)) else ( chk (gU 0 (List.length t.2.1:Int) (List.length t.2.1:Int) (List.length t.2.1)&&((List.length t.2.1:Int)==(List.length t.2.1:Int)))<| (kV key).bind fun r28=> chk (aB (List.length (ba t.2.1 0 (List.length t.2.1:Int))+List.length ([r28]:List Q4)) 24)<| aj (fun (s46:(List Q4)×Q4)=>rG t s46.1 s46.2) fun kk45=> bif (decide ((max (List.length t.2.2:Int) 8)<(IntKind.i64.wrap (2*(IntKind.i64.wrap ((List.length t.2.1:Int)+1)))))) then ( (je (IntKind.i64.wrap (2*(max (List.length t.2.2:Int) 8))) t.1 ((ba t.2.1 0 (List.length t.2.1:Int))++([r28]:List Q4)) t.2.2).bind fun r48=> kk45 (r48.1,r48.2)) else ( (db t.2.2).bind fun r52=> (cL t key).bind fun r60=> (idx r52 r60).bind fun _e63=> kk45 (((ba t.2.1 0 (List.length t.2.1:Int))++([r28]:List Q4)),(List.set r52 (Int.toNat r60) (IntKind.i64.wrap ((List.length t.2.1:Int)+1)))))))
def og (s:(Q1×Q4)) (key:Q4):Option ((Q1×Q4)×Bool×Int):= (bf s.1 key).bind fun r15=> bif (!r15.2.2.1) then ( some (s,false,r15.2.2.2)) else ( chk (gU 0 (List.length s.2:Int) (List.length s.2:Int) (List.length s.2)&&((List.length s.2:Int)==(List.length s.2:Int)))<| chk (aB (List.length (ba s.2 0 (List.length s.2:Int))+List.length ([0]:List Int)) 1)<| some ((r15.1,((ba s.2 0 (List.length s.2:Int))++([0]:List Int))),true,0))
def eM (_x:Unit) (t:Q3) (v39:Q4):Option Q22:= (bR t v39).bind fun r52=> (og t.2.2.2.1 r52).bind fun r56=> some ((t.1,t.2.1,t.2.2.1,r56.1,t.2.2.2.2.1,t.2.2.2.2.2.1,t.2.2.2.2.2.2.1,t.2.2.2.2.2.2.2),r56.2.1,r56.2.2)
def iu (s:Q5) (v3:Q4):Option (Q5×Q4):= some (s,v3)
def kl (t10:Int) (again11:Q15→Option Q4) (e13:Int) (again20:Q15→Option Q4):Q4×Int→Option Q4:=fun ⟨row16,t19⟩=> bif (decide (t19<4)) then ( chk (decide (0≤(IntKind.i64.wrap (8*t19))))<| chk (aB (List.length row16+List.length ([(IntKind.u8.wrap (aq .i64 e13 (IntKind.i64.wrap (8*t19))))]:List Int)) 1)<| again20 ((row16++([(IntKind.u8.wrap (aq .i64 e13 (IntKind.i64.wrap (8*t19))))]:List Int)),(IntKind.i64.wrap (t19+1)))) else ( again11 (row16,(IntKind.i64.wrap (t10+1))))
def nw (places:Q4) (again11:Q15→Option Q4):Q4×Int→Option Q4:=fun ⟨row7,t10⟩=> bif (decide (t10<(List.length places:Int))) then ( (idx places t10).bind fun e13=> ar (kl t10 again11 e13) az (row7,0)) else ( some row7)
def js (row:Q4) (places:Q4):Option Q4:= ar (nw places) az (row,0)
def iI (c:Q10) (_s:Q5) (r9:(Q5×Q4)) (again24:(Int×Int×Q4)→Option Int):Int×Int×Q4→Option Int:=fun ⟨s19,c20,l21⟩=> bif (decide ((IntKind.i64.wrap (s19*2))<(List.length r9.1:Int))) then ( chk (fj (IntKind.i64.wrap (s19*2)) (min (List.length r9.1:Int) (IntKind.i64.wrap ((IntKind.i64.wrap (s19+1))*2))) (List.length r9.1))<| chk (fj (IntKind.i64.wrap (s19*2)) (min (List.length r9.1:Int) (IntKind.i64.wrap ((IntKind.i64.wrap (s19+1))*2))) (List.length r9.2))<| (fc (ba r9.1 (IntKind.i64.wrap (s19*2)) (min (List.length r9.1:Int) (IntKind.i64.wrap ((IntKind.i64.wrap (s19+1))*2)))) (ba r9.2 (IntKind.i64.wrap (s19*2)) (min (List.length r9.1:Int) (IntKind.i64.wrap ((IntKind.i64.wrap (s19+1))*2))))).bind fun r36=> (idx c.1 s19).bind fun e41=> (bO e41 r36.1).bind fun r49=> bif (!r49.2) then ( bif (!false) then ( some (-1)) else ( again24 ((IntKind.i64.wrap (s19+1)),(-1),l21))) else ( (js l21 ([r49.1]:List Int)).bind fun r57=> bif (!true) then ( (bO c.2.1 r57).bind fun r64=> bif (!r64.2) then ( some (-1)) else ( some r64.1)) else ( again24 ((IntKind.i64.wrap (s19+1)),c20,r57)))) else ( (bO c.2.1 l21).bind fun r70=> bif (!r70.2) then ( some (-1)) else ( some r70.1))
def gF (c:Q10) (s:Q5) (v11:Q4):Option Int:= (iu s v11).bind fun r9=> ar (iI c s r9) az (0,0,[])
def gV (t:Q1):Option Int:= some (List.length t.2.1:Int)
def lK (c:Q10):Option Int:= (gV c.2.1).bind fun r5=> some r5
def bK (s:(List Q1)):Option (List Q1):= chk (aB (List.length s) 56)<| some s
def eC (c:Q10) (_s:Q5) (r42:(Q5×Q4)) (again55:(Int×(List Q1)×Q4)→Option Q25):Int×(List Q1)×Q4→Option Q25:=fun ⟨s50,l51,l52⟩=> bif (decide ((IntKind.i64.wrap (s50*2))<(List.length r42.1:Int))) then ( chk (fj (IntKind.i64.wrap (s50*2)) (min (List.length r42.1:Int) (IntKind.i64.wrap ((IntKind.i64.wrap (s50+1))*2))) (List.length r42.1))<| chk (fj (IntKind.i64.wrap (s50*2)) (min (List.length r42.1:Int) (IntKind.i64.wrap ((IntKind.i64.wrap (s50+1))*2))) (List.length r42.2))<| (fc (ba r42.1 (IntKind.i64.wrap (s50*2)) (min (List.length r42.1:Int) (IntKind.i64.wrap ((IntKind.i64.wrap (s50+1))*2)))) (ba r42.2 (IntKind.i64.wrap (s50*2)) (min (List.length r42.1:Int) (IntKind.i64.wrap ((IntKind.i64.wrap (s50+1))*2))))).bind fun r67=> (idx l51 s50).bind fun e72=> (bf e72 r67.1).bind fun r80=> (js l52 ([r80.2.1]:List Int)).bind fun r92=> (idx l51 s50).bind fun _e97=> bif (!true) then ( (bf c.2.1 r92).bind fun r108=> chk (gU 0 (List.length c.2.2:Int) (List.length c.2.2:Int) (List.length c.2.2)&&((List.length c.2.2:Int)==(List.length c.2.2:Int)))<| chk (aB (List.length (ba c.2.2 0 (List.length c.2.2:Int))+List.length ([0]:List Int)) 1)<| some (((List.set l51 (Int.toNat s50) r80.1),r108.1,((ba c.2.2 0 (List.length c.2.2:Int))++([0]:List Int))),true,0)) else ( again55 ((IntKind.i64.wrap (s50+1)),(List.set l51 (Int.toNat s50) r80.1),r92))) else ( (bf c.2.1 l52).bind fun r127=> chk (gU 0 (List.length c.2.2:Int) (List.length c.2.2:Int) (List.length c.2.2)&&((List.length c.2.2:Int)==(List.length c.2.2:Int)))<| chk (aB (List.length (ba c.2.2 0 (List.length c.2.2:Int))+List.length ([0]:List Int)) 1)<| some ((l51,r127.1,((ba c.2.2 0 (List.length c.2.2:Int))++([0]:List Int))),true,0))
def nR (c:Q10) (s:Q5) (v11:Q4):Option Q25:= (bQ s v11).bind fun r17=> bif (r17 != 0) then ( some (c,false,r17)) else ( (gF c s v11).bind fun r22=> bif (decide (0≤r22)) then ( some (c,false,0)) else ( (lK c).bind fun r29=> bif (decide (c.2.1.1≤r29)) then ( some (c,false,7)) else ( (bK c.1).bind fun r34=> (iu s v11).bind fun r42=> ar (eC c s r42) az (0,r34,[]))))
def ew (_x:Unit) (t:Q3) (v39:Q4):Option Q22:= (nR t.2.2.2.2.1 t.2.1 v39).bind fun r50=> some ((t.1,t.2.1,t.2.2.1,t.2.2.2.1,r50.1,t.2.2.2.2.2.1,t.2.2.2.2.2.2.1,t.2.2.2.2.2.2.2),r50.2.1,r50.2.2)
def mP (s:Q5) (v3:Q4) (again12:Q15→Option Q4):Q4×Int→Option Q4:=fun ⟨out8,t11⟩=> bif (decide (t11<(List.length v3:Int))) then ( (idx v3 t11).bind fun e14=> (idx s t11).bind fun e16=> chk (aB (List.length out8+List.length ([(IntKind.u32.wrap (IntKind.i64.wrap (e14-e16.1)))]:List Int)) 4)<| again12 ((out8++([(IntKind.u32.wrap (IntKind.i64.wrap (e14-e16.1)))]:List Int)),(IntKind.i64.wrap (t11+1)))) else ( some out8)
def jU (s:Q5) (v3:Q4):Option Q4:= ar (mP s v3) az ([],0)
def Hk (a:Int) (b:Int) (again17:(Int×Int×Int×Int×Int×Int×Int×Int×Int)→Option Q17):Int×Int×Int×Int×Int×Int×Int×Int×Int→Option Q17:=fun ⟨c8,c9,c10,c11,c12,c13,c14,c15,t16⟩=> bif (decide (t16<4)) then ( chk (decide (0≤(IntKind.i64.wrap (8*t16))))<| chk (decide (0≤(IntKind.i64.wrap (8*t16))))<| bif (t16==0) then ( bif ((IntKind.i64.wrap (4+t16))==0) then ( again17 ((IntKind.u8.wrap (aq .u32 b (IntKind.i64.wrap (8*t16)))),c9,c10,c11,c12,c13,c14,c15,(IntKind.i64.wrap (t16+1)))) else ( bif ((IntKind.i64.wrap (4+t16))==1) then ( again17 ((IntKind.u8.wrap (aq .u32 a (IntKind.i64.wrap (8*t16)))),(IntKind.u8.wrap (aq .u32 b (IntKind.i64.wrap (8*t16)))),c10,c11,c12,c13,c14,c15,(IntKind.i64.wrap (t16+1)))) else ( bif ((IntKind.i64.wrap (4+t16))==2) then ( again17 ((IntKind.u8.wrap (aq .u32 a (IntKind.i64.wrap (8*t16)))),c9,(IntKind.u8.wrap (aq .u32 b (IntKind.i64.wrap (8*t16)))),c11,c12,c13,c14,c15,(IntKind.i64.wrap (t16+1)))) else ( bif ((IntKind.i64.wrap (4+t16))==3) then ( again17 ((IntKind.u8.wrap (aq .u32 a (IntKind.i64.wrap (8*t16)))),c9,c10,(IntKind.u8.wrap (aq .u32 b (IntKind.i64.wrap (8*t16)))),c12,c13,c14,c15,(IntKind.i64.wrap (t16+1)))) else ( bif ((IntKind.i64.wrap (4+t16))==4) then ( again17 ((IntKind.u8.wrap (aq .u32 a (IntKind.i64.wrap (8*t16)))),c9,c10,c11,(IntKind.u8.wrap (aq .u32 b (IntKind.i64.wrap (8*t16)))),c13,c14,c15,(IntKind.i64.wrap (t16+1)))) else ( bif ((IntKind.i64.wrap (4+t16))==5) then ( again17 ((IntKind.u8.wrap (aq .u32 a (IntKind.i64.wrap (8*t16)))),c9,c10,c11,c12,(IntKind.u8.wrap (aq .u32 b (IntKind.i64.wrap (8*t16)))),c14,c15,(IntKind.i64.wrap (t16+1)))) else ( bif ((IntKind.i64.wrap (4+t16))==6) then ( again17 ((IntKind.u8.wrap (aq .u32 a (IntKind.i64.wrap (8*t16)))),c9,c10,c11,c12,c13,(IntKind.u8.wrap (aq .u32 b (IntKind.i64.wrap (8*t16)))),c15,(IntKind.i64.wrap (t16+1)))) else ( bif ((IntKind.i64.wrap (4+t16))==7) then ( again17 ((IntKind.u8.wrap (aq .u32 a (IntKind.i64.wrap (8*t16)))),c9,c10,c11,c12,c13,c14,(IntKind.u8.wrap (aq .u32 b (IntKind.i64.wrap (8*t16)))),(IntKind.i64.wrap (t16+1)))) else ( none))))))))) else ( bif (t16==1) then ( bif ((IntKind.i64.wrap (4+t16))==0) then ( again17 ((IntKind.u8.wrap (aq .u32 b (IntKind.i64.wrap (8*t16)))),(IntKind.u8.wrap (aq .u32 a (IntKind.i64.wrap (8*t16)))),c10,c11,c12,c13,c14,c15,(IntKind.i64.wrap (t16+1)))) else ( bif ((IntKind.i64.wrap (4+t16))==1) then ( again17 (c8,(IntKind.u8.wrap (aq .u32 b (IntKind.i64.wrap (8*t16)))),c10,c11,c12,c13,c14,c15,(IntKind.i64.wrap (t16+1)))) else ( bif ((IntKind.i64.wrap (4+t16))==2) then ( again17 (c8,(IntKind.u8.wrap (aq .u32 a (IntKind.i64.wrap (8*t16)))),(IntKind.u8.wrap (aq .u32 b (IntKind.i64.wrap (8*t16)))),c11,c12,c13,c14,c15,(IntKind.i64.wrap (t16+1)))) else ( bif ((IntKind.i64.wrap (4+t16))==3) then ( again17 (c8,(IntKind.u8.wrap (aq .u32 a (IntKind.i64.wrap (8*t16)))),c10,(IntKind.u8.wrap (aq .u32 b (IntKind.i64.wrap (8*t16)))),c12,c13,c14,c15,(IntKind.i64.wrap (t16+1)))) else ( bif ((IntKind.i64.wrap (4+t16))==4) then ( again17 (c8,(IntKind.u8.wrap (aq .u32 a (IntKind.i64.wrap (8*t16)))),c10,c11,(IntKind.u8.wrap (aq .u32 b (IntKind.i64.wrap (8*t16)))),c13,c14,c15,(IntKind.i64.wrap (t16+1)))) else ( bif ((IntKind.i64.wrap (4+t16))==5) then ( again17 (c8,(IntKind.u8.wrap (aq .u32 a (IntKind.i64.wrap (8*t16)))),c10,c11,c12,(IntKind.u8.wrap (aq .u32 b (IntKind.i64.wrap (8*t16)))),c14,c15,(IntKind.i64.wrap (t16+1)))) else ( bif ((IntKind.i64.wrap (4+t16))==6) then ( again17 (c8,(IntKind.u8.wrap (aq .u32 a (IntKind.i64.wrap (8*t16)))),c10,c11,c12,c13,(IntKind.u8.wrap (aq .u32 b (IntKind.i64.wrap (8*t16)))),c15,(IntKind.i64.wrap (t16+1)))) else ( bif ((IntKind.i64.wrap (4+t16))==7) then ( again17 (c8,(IntKind.u8.wrap (aq .u32 a (IntKind.i64.wrap (8*t16)))),c10,c11,c12,c13,c14,(IntKind.u8.wrap (aq .u32 b (IntKind.i64.wrap (8*t16)))),(IntKind.i64.wrap (t16+1)))) else ( none))))))))) else ( bif (t16==2) then ( bif ((IntKind.i64.wrap (4+t16))==0) then ( again17 ((IntKind.u8.wrap (aq .u32 b (IntKind.i64.wrap (8*t16)))),c9,(IntKind.u8.wrap (aq .u32 a (IntKind.i64.wrap (8*t16)))),c11,c12,c13,c14,c15,(IntKind.i64.wrap (t16+1)))) else ( bif ((IntKind.i64.wrap (4+t16))==1) then ( again17 (c8,(IntKind.u8.wrap (aq .u32 b (IntKind.i64.wrap (8*t16)))),(IntKind.u8.wrap (aq .u32 a (IntKind.i64.wrap (8*t16)))),c11,c12,c13,c14,c15,(IntKind.i64.wrap (t16+1)))) else ( bif ((IntKind.i64.wrap (4+t16))==2) then ( again17 (c8,c9,(IntKind.u8.wrap (aq .u32 b (IntKind.i64.wrap (8*t16)))),c11,c12,c13,c14,c15,(IntKind.i64.wrap (t16+1)))) else ( bif ((IntKind.i64.wrap (4+t16))==3) then ( again17 (c8,c9,(IntKind.u8.wrap (aq .u32 a (IntKind.i64.wrap (8*t16)))),(IntKind.u8.wrap (aq .u32 b (IntKind.i64.wrap (8*t16)))),c12,c13,c14,c15,(IntKind.i64.wrap (t16+1)))) else ( bif ((IntKind.i64.wrap (4+t16))==4) then ( again17 (c8,c9,(IntKind.u8.wrap (aq .u32 a (IntKind.i64.wrap (8*t16)))),c11,(IntKind.u8.wrap (aq .u32 b (IntKind.i64.wrap (8*t16)))),c13,c14,c15,(IntKind.i64.wrap (t16+1)))) else ( bif ((IntKind.i64.wrap (4+t16))==5) then ( again17 (c8,c9,(IntKind.u8.wrap (aq .u32 a (IntKind.i64.wrap (8*t16)))),c11,c12,(IntKind.u8.wrap (aq .u32 b (IntKind.i64.wrap (8*t16)))),c14,c15,(IntKind.i64.wrap (t16+1)))) else ( bif ((IntKind.i64.wrap (4+t16))==6) then ( again17 (c8,c9,(IntKind.u8.wrap (aq .u32 a (IntKind.i64.wrap (8*t16)))),c11,c12,c13,(IntKind.u8.wrap (aq .u32 b (IntKind.i64.wrap (8*t16)))),c15,(IntKind.i64.wrap (t16+1)))) else ( bif ((IntKind.i64.wrap (4+t16))==7) then ( again17 (c8,c9,(IntKind.u8.wrap (aq .u32 a (IntKind.i64.wrap (8*t16)))),c11,c12,c13,c14,(IntKind.u8.wrap (aq .u32 b (IntKind.i64.wrap (8*t16)))),(IntKind.i64.wrap (t16+1)))) else ( none))))))))) else ( bif (t16==3) then ( bif ((IntKind.i64.wrap (4+t16))==0) then ( again17 ((IntKind.u8.wrap (aq .u32 b (IntKind.i64.wrap (8*t16)))),c9,c10,(IntKind.u8.wrap (aq .u32 a (IntKind.i64.wrap (8*t16)))),c12,c13,c14,c15,(IntKind.i64.wrap (t16+1)))) else ( bif ((IntKind.i64.wrap (4+t16))==1) then ( again17 (c8,(IntKind.u8.wrap (aq .u32 b (IntKind.i64.wrap (8*t16)))),c10,(IntKind.u8.wrap (aq .u32 a (IntKind.i64.wrap (8*t16)))),c12,c13,c14,c15,(IntKind.i64.wrap (t16+1)))) else ( bif ((IntKind.i64.wrap (4+t16))==2) then ( again17 (c8,c9,(IntKind.u8.wrap (aq .u32 b (IntKind.i64.wrap (8*t16)))),(IntKind.u8.wrap (aq .u32 a (IntKind.i64.wrap (8*t16)))),c12,c13,c14,c15,(IntKind.i64.wrap (t16+1)))) else ( bif ((IntKind.i64.wrap (4+t16))==3) then ( again17 (c8,c9,c10,(IntKind.u8.wrap (aq .u32 b (IntKind.i64.wrap (8*t16)))),c12,c13,c14,c15,(IntKind.i64.wrap (t16+1)))) else ( bif ((IntKind.i64.wrap (4+t16))==4) then ( again17 (c8,c9,c10,(IntKind.u8.wrap (aq .u32 a (IntKind.i64.wrap (8*t16)))),(IntKind.u8.wrap (aq .u32 b (IntKind.i64.wrap (8*t16)))),c13,c14,c15,(IntKind.i64.wrap (t16+1)))) else ( bif ((IntKind.i64.wrap (4+t16))==5) then ( again17 (c8,c9,c10,(IntKind.u8.wrap (aq .u32 a (IntKind.i64.wrap (8*t16)))),c12,(IntKind.u8.wrap (aq .u32 b (IntKind.i64.wrap (8*t16)))),c14,c15,(IntKind.i64.wrap (t16+1)))) else ( bif ((IntKind.i64.wrap (4+t16))==6) then ( again17 (c8,c9,c10,(IntKind.u8.wrap (aq .u32 a (IntKind.i64.wrap (8*t16)))),c12,c13,(IntKind.u8.wrap (aq .u32 b (IntKind.i64.wrap (8*t16)))),c15,(IntKind.i64.wrap (t16+1)))) else ( bif ((IntKind.i64.wrap (4+t16))==7) then ( again17 (c8,c9,c10,(IntKind.u8.wrap (aq .u32 a (IntKind.i64.wrap (8*t16)))),c12,c13,c14,(IntKind.u8.wrap (aq .u32 b (IntKind.i64.wrap (8*t16)))),(IntKind.i64.wrap (t16+1)))) else ( none))))))))) else ( bif (t16==4) then ( bif ((IntKind.i64.wrap (4+t16))==0) then ( again17 ((IntKind.u8.wrap (aq .u32 b (IntKind.i64.wrap (8*t16)))),c9,c10,c11,(IntKind.u8.wrap (aq .u32 a (IntKind.i64.wrap (8*t16)))),c13,c14,c15,(IntKind.i64.wrap (t16+1)))) else ( bif ((IntKind.i64.wrap (4+t16))==1) then ( again17 (c8,(IntKind.u8.wrap (aq .u32 b (IntKind.i64.wrap (8*t16)))),c10,c11,(IntKind.u8.wrap (aq .u32 a (IntKind.i64.wrap (8*t16)))),c13,c14,c15,(IntKind.i64.wrap (t16+1)))) else ( bif ((IntKind.i64.wrap (4+t16))==2) then ( again17 (c8,c9,(IntKind.u8.wrap (aq .u32 b (IntKind.i64.wrap (8*t16)))),c11,(IntKind.u8.wrap (aq .u32 a (IntKind.i64.wrap (8*t16)))),c13,c14,c15,(IntKind.i64.wrap (t16+1)))) else ( bif ((IntKind.i64.wrap (4+t16))==3) then ( again17 (c8,c9,c10,(IntKind.u8.wrap (aq .u32 b (IntKind.i64.wrap (8*t16)))),(IntKind.u8.wrap (aq .u32 a (IntKind.i64.wrap (8*t16)))),c13,c14,c15,(IntKind.i64.wrap (t16+1)))) else ( bif ((IntKind.i64.wrap (4+t16))==4) then ( again17 (c8,c9,c10,c11,(IntKind.u8.wrap (aq .u32 b (IntKind.i64.wrap (8*t16)))),c13,c14,c15,(IntKind.i64.wrap (t16+1)))) else ( bif ((IntKind.i64.wrap (4+t16))==5) then ( again17 (c8,c9,c10,c11,(IntKind.u8.wrap (aq .u32 a (IntKind.i64.wrap (8*t16)))),(IntKind.u8.wrap (aq .u32 b (IntKind.i64.wrap (8*t16)))),c14,c15,(IntKind.i64.wrap (t16+1)))) else ( bif ((IntKind.i64.wrap (4+t16))==6) then ( again17 (c8,c9,c10,c11,(IntKind.u8.wrap (aq .u32 a (IntKind.i64.wrap (8*t16)))),c13,(IntKind.u8.wrap (aq .u32 b (IntKind.i64.wrap (8*t16)))),c15,(IntKind.i64.wrap (t16+1)))) else ( bif ((IntKind.i64.wrap (4+t16))==7) then ( again17 (c8,c9,c10,c11,(IntKind.u8.wrap (aq .u32 a (IntKind.i64.wrap (8*t16)))),c13,c14,(IntKind.u8.wrap (aq .u32 b (IntKind.i64.wrap (8*t16)))),(IntKind.i64.wrap (t16+1)))) else ( none))))))))) else ( bif (t16==5) then ( bif ((IntKind.i64.wrap (4+t16))==0) then ( again17 ((IntKind.u8.wrap (aq .u32 b (IntKind.i64.wrap (8*t16)))),c9,c10,c11,c12,(IntKind.u8.wrap (aq .u32 a (IntKind.i64.wrap (8*t16)))),c14,c15,(IntKind.i64.wrap (t16+1)))) else ( bif ((IntKind.i64.wrap (4+t16))==1) then ( again17 (c8,(IntKind.u8.wrap (aq .u32 b (IntKind.i64.wrap (8*t16)))),c10,c11,c12,(IntKind.u8.wrap (aq .u32 a (IntKind.i64.wrap (8*t16)))),c14,c15,(IntKind.i64.wrap (t16+1)))) else ( bif ((IntKind.i64.wrap (4+t16))==2) then ( again17 (c8,c9,(IntKind.u8.wrap (aq .u32 b (IntKind.i64.wrap (8*t16)))),c11,c12,(IntKind.u8.wrap (aq .u32 a (IntKind.i64.wrap (8*t16)))),c14,c15,(IntKind.i64.wrap (t16+1)))) else ( bif ((IntKind.i64.wrap (4+t16))==3) then ( again17 (c8,c9,c10,(IntKind.u8.wrap (aq .u32 b (IntKind.i64.wrap (8*t16)))),c12,(IntKind.u8.wrap (aq .u32 a (IntKind.i64.wrap (8*t16)))),c14,c15,(IntKind.i64.wrap (t16+1)))) else ( bif ((IntKind.i64.wrap (4+t16))==4) then ( again17 (c8,c9,c10,c11,(IntKind.u8.wrap (aq .u32 b (IntKind.i64.wrap (8*t16)))),(IntKind.u8.wrap (aq .u32 a (IntKind.i64.wrap (8*t16)))),c14,c15,(IntKind.i64.wrap (t16+1)))) else ( bif ((IntKind.i64.wrap (4+t16))==5) then ( again17 (c8,c9,c10,c11,c12,(IntKind.u8.wrap (aq .u32 b (IntKind.i64.wrap (8*t16)))),c14,c15,(IntKind.i64.wrap (t16+1)))) else ( bif ((IntKind.i64.wrap (4+t16))==6) then ( again17 (c8,c9,c10,c11,c12,(IntKind.u8.wrap (aq .u32 a (IntKind.i64.wrap (8*t16)))),(IntKind.u8.wrap (aq .u32 b (IntKind.i64.wrap (8*t16)))),c15,(IntKind.i64.wrap (t16+1)))) else ( bif ((IntKind.i64.wrap (4+t16))==7) then ( again17 (c8,c9,c10,c11,c12,(IntKind.u8.wrap (aq .u32 a (IntKind.i64.wrap (8*t16)))),c14,(IntKind.u8.wrap (aq .u32 b (IntKind.i64.wrap (8*t16)))),(IntKind.i64.wrap (t16+1)))) else ( none))))))))) else ( bif (t16==6) then ( bif ((IntKind.i64.wrap (4+t16))==0) then ( again17 ((IntKind.u8.wrap (aq .u32 b (IntKind.i64.wrap (8*t16)))),c9,c10,c11,c12,c13,(IntKind.u8.wrap (aq .u32 a (IntKind.i64.wrap (8*t16)))),c15,(IntKind.i64.wrap (t16+1)))) else ( bif ((IntKind.i64.wrap (4+t16))==1) then ( again17 (c8,(IntKind.u8.wrap (aq .u32 b (IntKind.i64.wrap (8*t16)))),c10,c11,c12,c13,(IntKind.u8.wrap (aq .u32 a (IntKind.i64.wrap (8*t16)))),c15,(IntKind.i64.wrap (t16+1)))) else ( bif ((IntKind.i64.wrap (4+t16))==2) then ( again17 (c8,c9,(IntKind.u8.wrap (aq .u32 b (IntKind.i64.wrap (8*t16)))),c11,c12,c13,(IntKind.u8.wrap (aq .u32 a (IntKind.i64.wrap (8*t16)))),c15,(IntKind.i64.wrap (t16+1)))) else ( bif ((IntKind.i64.wrap (4+t16))==3) then ( again17 (c8,c9,c10,(IntKind.u8.wrap (aq .u32 b (IntKind.i64.wrap (8*t16)))),c12,c13,(IntKind.u8.wrap (aq .u32 a (IntKind.i64.wrap (8*t16)))),c15,(IntKind.i64.wrap (t16+1)))) else ( bif ((IntKind.i64.wrap (4+t16))==4) then ( again17 (c8,c9,c10,c11,(IntKind.u8.wrap (aq .u32 b (IntKind.i64.wrap (8*t16)))),c13,(IntKind.u8.wrap (aq .u32 a (IntKind.i64.wrap (8*t16)))),c15,(IntKind.i64.wrap (t16+1)))) else ( bif ((IntKind.i64.wrap (4+t16))==5) then ( again17 (c8,c9,c10,c11,c12,(IntKind.u8.wrap (aq .u32 b (IntKind.i64.wrap (8*t16)))),(IntKind.u8.wrap (aq .u32 a (IntKind.i64.wrap (8*t16)))),c15,(IntKind.i64.wrap (t16+1)))) else ( bif ((IntKind.i64.wrap (4+t16))==6) then ( again17 (c8,c9,c10,c11,c12,c13,(IntKind.u8.wrap (aq .u32 b (IntKind.i64.wrap (8*t16)))),c15,(IntKind.i64.wrap (t16+1)))) else ( bif ((IntKind.i64.wrap (4+t16))==7) then ( again17 (c8,c9,c10,c11,c12,c13,(IntKind.u8.wrap (aq .u32 a (IntKind.i64.wrap (8*t16)))),(IntKind.u8.wrap (aq .u32 b (IntKind.i64.wrap (8*t16)))),(IntKind.i64.wrap (t16+1)))) else ( none))))))))) else ( bif (t16==7) then ( bif ((IntKind.i64.wrap (4+t16))==0) then ( again17 ((IntKind.u8.wrap (aq .u32 b (IntKind.i64.wrap (8*t16)))),c9,c10,c11,c12,c13,c14,(IntKind.u8.wrap (aq .u32 a (IntKind.i64.wrap (8*t16)))),(IntKind.i64.wrap (t16+1)))) else ( bif ((IntKind.i64.wrap (4+t16))==1) then ( again17 (c8,(IntKind.u8.wrap (aq .u32 b (IntKind.i64.wrap (8*t16)))),c10,c11,c12,c13,c14,(IntKind.u8.wrap (aq .u32 a (IntKind.i64.wrap (8*t16)))),(IntKind.i64.wrap (t16+1)))) else ( bif ((IntKind.i64.wrap (4+t16))==2) then ( again17 (c8,c9,(IntKind.u8.wrap (aq .u32 b (IntKind.i64.wrap (8*t16)))),c11,c12,c13,c14,(IntKind.u8.wrap (aq .u32 a (IntKind.i64.wrap (8*t16)))),(IntKind.i64.wrap (t16+1)))) else ( bif ((IntKind.i64.wrap (4+t16))==3) then ( again17 (c8,c9,c10,(IntKind.u8.wrap (aq .u32 b (IntKind.i64.wrap (8*t16)))),c12,c13,c14,(IntKind.u8.wrap (aq .u32 a (IntKind.i64.wrap (8*t16)))),(IntKind.i64.wrap (t16+1)))) else ( bif ((IntKind.i64.wrap (4+t16))==4) then ( again17 (c8,c9,c10,c11,(IntKind.u8.wrap (aq .u32 b (IntKind.i64.wrap (8*t16)))),c13,c14,(IntKind.u8.wrap (aq .u32 a (IntKind.i64.wrap (8*t16)))),(IntKind.i64.wrap (t16+1)))) else ( bif ((IntKind.i64.wrap (4+t16))==5) then ( again17 (c8,c9,c10,c11,c12,(IntKind.u8.wrap (aq .u32 b (IntKind.i64.wrap (8*t16)))),c14,(IntKind.u8.wrap (aq .u32 a (IntKind.i64.wrap (8*t16)))),(IntKind.i64.wrap (t16+1)))) else ( bif ((IntKind.i64.wrap (4+t16))==6) then ( again17 (c8,c9,c10,c11,c12,c13,(IntKind.u8.wrap (aq .u32 b (IntKind.i64.wrap (8*t16)))),(IntKind.u8.wrap (aq .u32 a (IntKind.i64.wrap (8*t16)))),(IntKind.i64.wrap (t16+1)))) else ( bif ((IntKind.i64.wrap (4+t16))==7) then ( again17 (c8,c9,c10,c11,c12,c13,c14,(IntKind.u8.wrap (aq .u32 b (IntKind.i64.wrap (8*t16)))),(IntKind.i64.wrap (t16+1)))) else ( none))))))))) else ( none))))))))) else ( some (c8,c9,c10,c11,c12,c13,c14,c15))
def qx (a:Int) (b:Int):Option Q17:= ar (Hk a b) az (0,0,0,0,0,0,0,0,0)
def kh (p:Q17):Option Q4:= some ([p.1,p.2.1,p.2.2.1,p.2.2.2.1,p.2.2.2.2.1,p.2.2.2.2.2.1,p.2.2.2.2.2.2.1,p.2.2.2.2.2.2.2]:List Int)
def pD (p:Q1) (a:Int) (b:Int):Option Q20:= (qx a b).bind fun r8=> (kh r8).bind fun r11=> (bO p r11).bind fun r15=> some (r15.1,r15.2)
def iH (row:Int) (a:Int) (b2:Int) (pairs:(List Q1)):Option (Except Int Int):= (idx pairs row).bind fun e3=> (pD e3 a b2).bind fun r11=> bif (!r11.2) then ( some (.error row)) else ( some (.ok (IntKind.u32.wrap r11.1)))
def fY (qm:Q23→Option (Except Int Int)) (row:Int) (l:Q4) (pairs:(List Q1)):Option (Except Int Int):= bif ((List.length l:Int)==1) then ( (idx l 0).bind fun e4=> some (.ok e4)) else ( chk (fj 0 (IntKind.i64.wrap (Int.tdiv (IntKind.i64.wrap ((List.length l:Int)+1)) 2)) (List.length l))<| xD (qm ((IntKind.i64.wrap (row+1)),(ba l 0 (IntKind.i64.wrap (Int.tdiv (IntKind.i64.wrap ((List.length l:Int)+1)) 2))),pairs)) fun r10=> chk (fj (IntKind.i64.wrap (Int.tdiv (IntKind.i64.wrap ((List.length l:Int)+1)) 2)) ((List.length l):Int) (List.length l))<| (lU (IntKind.i64.wrap (Int.tdiv (IntKind.i64.wrap ((List.length l:Int)+1)) 2))).bind fun r22=> xD (qm ((IntKind.i64.wrap ((IntKind.i64.wrap (row+1))+r22)),(ba l (IntKind.i64.wrap (Int.tdiv (IntKind.i64.wrap ((List.length l:Int)+1)) 2)) ((List.length l):Int)),pairs)) fun r25=> xD (iH row r10 r25 pairs) fun r31=> some (.ok r31))
def ku (row:Int) (l:Q4) (pairs:(List Q1)):Option (Except Int Int):=
 ar (fun k (s:Q23)=>fY k s.1 s.2.1 s.2.2) az (row,l,pairs)
def gI (l:Q4) (pairs:(List Q1)):Option (Except Int Int):= bif ((List.length l:Int)==1) then ( (idx l 0).bind fun e6=> xD (iH 0 e6 0 pairs) fun r8=> some (.ok r8)) else ( xD (ku 0 l pairs) fun r14=> some (.ok r14))
def j2 (t:Q16) (s:Q5) (v7:Q4):Option Q20:= (jU s v7).bind fun r13=> Dp (gI r13 t.1) (fun _p20=> some (0,false)) fun r18=> some ((IntKind.i64.wrap r18),true)
def pn (p:Q1):Option Int:= (gV p).bind fun r5=> some r5
def jT (t:Q16):Option Int:= bif ((List.length t.1:Int)==0) then ( some 0) else ( (idx t.1 0).bind fun e6=> (pn e6).bind fun r14=> some r14)
def cz (s:(List Q1)):Option (List Q1):= chk (aB (List.length s) 56)<| some s
def mb (p:Q1) (a:Int) (b:Int):Option (Q1×Int×Bool×Int):= (qx a b).bind fun r15=> (kh r15).bind fun r18=> (bf p r18).bind fun r22=> some (r22.1,r22.2.1,r22.2.2.1,r22.2.2.2)
def fP (row:Int) (a:Int) (b2:Int) (pairs:(List Q1)):Option Q26:= (idx pairs row).bind fun e4=> (mb e4 a b2).bind fun r12=> (idx pairs row).bind fun _e22=> some ((IntKind.u32.wrap r12.2.1),(List.set pairs (Int.toNat row) r12.1))
def eA (m8:Q23→Option Q26) (row:Int) (l:Q4) (pairs:(List Q1)):Option Q26:= bif ((List.length l:Int)==1) then ( (idx l 0).bind fun e5=> some (e5,pairs)) else ( chk (fj 0 (IntKind.i64.wrap (Int.tdiv (IntKind.i64.wrap ((List.length l:Int)+1)) 2)) (List.length l))<| (m8 ((IntKind.i64.wrap (row+1)),(ba l 0 (IntKind.i64.wrap (Int.tdiv (IntKind.i64.wrap ((List.length l:Int)+1)) 2))),pairs)).bind fun r11=> chk (fj (IntKind.i64.wrap (Int.tdiv (IntKind.i64.wrap ((List.length l:Int)+1)) 2)) ((List.length l):Int) (List.length l))<| (lU (IntKind.i64.wrap (Int.tdiv (IntKind.i64.wrap ((List.length l:Int)+1)) 2))).bind fun r20=> (m8 ((IntKind.i64.wrap ((IntKind.i64.wrap (row+1))+r20)),(ba l (IntKind.i64.wrap (Int.tdiv (IntKind.i64.wrap ((List.length l:Int)+1)) 2)) ((List.length l):Int)),r11.2)).bind fun r23=> (fP row r11.1 r23.1 r23.2).bind fun r26=> some (r26.1,r26.2))
def kE (row:Int) (l:Q4) (pairs:(List Q1)):Option Q26:=
 ar (fun k (s:Q23)=>eA k s.1 s.2.1 s.2.2) az (row,l,pairs)
def ie (l:Q4) (pairs:(List Q1)):Option Q26:= bif ((List.length l:Int)==1) then ( (idx l 0).bind fun e7=> (fP 0 e7 0 pairs).bind fun r9=> some (r9.1,r9.2)) else ( (kE 0 l pairs).bind fun r12=> some (r12.1,r12.2))
def nU (t:Q16) (s:Q5) (v7:Q4):Option (Q16×Bool×Int):= (bQ s v7).bind fun r13=> bif (r13 != 0) then ( some (t,false,r13)) else ( (j2 t s v7).bind fun r18=> bif r18.2 then ( some (t,false,0)) else ( (idx t.1 0).bind fun e25=> (jT t).bind fun r33=> bif (decide (e25.1≤r33)) then ( some (t,false,7)) else ( (cz t.1).bind fun r38=> (jU s v7).bind fun r46=> (ie r46 r38).bind fun r51=> chk (gU 0 (List.length t.2:Int) (List.length t.2:Int) (List.length t.2)&&((List.length t.2:Int)==(List.length t.2:Int)))<| chk (aB (List.length (ba t.2 0 (List.length t.2:Int))+List.length ([0]:List Int)) 1)<| some ((r51.2,((ba t.2 0 (List.length t.2:Int))++([0]:List Int))),true,0))))
def ek (_x:Unit) (t:Q3) (v39:Q4):Option Q22:= (nU t.2.2.2.2.2.1 t.2.1 v39).bind fun r50=> some ((t.1,t.2.1,t.2.2.1,t.2.2.2.1,t.2.2.2.2.1,r50.1,t.2.2.2.2.2.2.1,t.2.2.2.2.2.2.2),r50.2.1,r50.2.2)
def kj (x:Int):Option Bool:= some (x != x)
def fN (x:Int) (y:Int):Option Int:= (kj x).bind fun r3=> (kj y).bind fun r6=> bif r3 then ( bif r6 then ( some 0) else ( some (-1))) else ( bif r6 then ( some 1) else ( bif (decide (x<y)) then ( some (-1)) else ( bif (decide (y<x)) then ( some 1) else ( some 0))))
def oK (e:Q13) (by_:Int):Option Int:= (fN e.1 by_).bind fun r5=> some r5
def bh (x:Q5) (target:Int) (again7:Q13→Option Q20):Int×Int→Option Q20:=fun ⟨i5,j6⟩=> bif (decide (i5<j6)) then ( (idx x (IntKind.i64.wrap (aq .u64 (IntKind.u64.wrap (IntKind.i64.wrap (i5+j6))) 1))).bind fun e9=> (oK e9 target).bind fun r11=> bif (decide (r11<0)) then ( again7 ((IntKind.i64.wrap ((IntKind.i64.wrap (aq .u64 (IntKind.u64.wrap (IntKind.i64.wrap (i5+j6))) 1))+1)),j6)) else ( again7 (i5,(IntKind.i64.wrap (aq .u64 (IntKind.u64.wrap (IntKind.i64.wrap (i5+j6))) 1))))) else ( aj (decide (i5<(List.length x:Int))) fun b15=> bF b15 (0,0) (idx x i5) fun e17=> bF b15 default (oK e17 target) fun r19=> aj (r19==0) fun b25=> aj (b15&&b25) fun b27=> some (i5,b27))
def aN (x:Q5) (target:Int):Option Q20:= ar (bh x target) az (0,(List.length x:Int))
def oq (d:Q11) (at_:Int) (by_:Int):Option Int:= bif (at_==(-1)) then ( some (-1)) else ( (idx d.2.1 at_).bind fun e6=> (aN e6.1 by_).bind fun r12=> bif (!r12.2) then ( some (-1)) else ( (idx d.2.1 at_).bind fun e16=> (idx e16.1 r12.1).bind fun e22=> some e22.2))
def kg (d:Q11) (w5:Q4) (again9:Q13→Option Bool):Int×Int→Option Bool:=fun ⟨at7,t8⟩=> bif (decide (t8<(List.length w5:Int))) then ( (idx w5 t8).bind fun e11=> (oq d at7 e11).bind fun r13=> again9 (r13,(IntKind.i64.wrap (t8+1)))) else ( aj ((List.length w5:Int)==d.1) fun b16=> aj (decide (0<d.1)) fun b18=> aj (b16&&b18) fun b20=> aj (at7 != (-1)) fun b22=> aj (b20&&b22) fun b24=> some b24)
def gD (d:Q11) (w5:Q4):Option Bool:= ar (kg d w5) az (d.2.2.1,0)
def pZ (d:Q11):Option Int:= some d.2.2.2.1
def bU (s:Q6):Option Q6:= chk (aB (List.length s) 32)<| some s
def dz (s1:Q5) (s2:Q5) (again6:Int→Option Bool) (t5:Int):Option Bool:= bif (decide (t5<(List.length s1:Int))) then ( (idx s1 t5).bind fun e10=> (idx s2 t5).bind fun e12=> bif (!(LA e10.1 e10.2 e12.1 e12.2)) then ( some false) else ( again6 (IntKind.i64.wrap (t5+1)))) else ( some true)
def cM (s1:Q5) (s2:Q5):Option Bool:= bif ((List.length s1:Int) != (List.length s2:Int)) then ( some false) else ( ar (dz s1 s2) az 0)
def dC (next_:Q5) (Node:Q6) (young:Q8) (again6:Int→Option Q20) (t5:Int):Option Q20:= bif (decide (t5<(List.length Node:Int))) then ( (idx Node t5).bind fun e8=> aj (decide (0<e8.2)) fun b17=> aj (dq young t5 false) fun b19=> aj (b17||b19) fun b21=> bF b21 default (cM e8.1 next_) fun r23=> aj (b21&&r23) fun b29=> bif b29 then ( some (t5,true)) else ( again6 (IntKind.i64.wrap (t5+1)))) else ( some ((-1),false))
def oV (next_:Q5) (_Wide:Int) (Node:Q6) (_Root:Int) (_Many:Int) (_Free:Q4) (young:Q8):Option Q20:= ar (dC next_ Node young) az 0
def eR (h:Q4):Option Int:= some (List.length h:Int)
def cJ (h:Q4) (i:Int) (j:Int):Option Q4:= (idx h j).bind fun e5=> (idx h i).bind fun e7=> (idx h i).bind fun _e9=> (idx (List.set h (Int.toNat i) e5) j).bind fun _e12=> some (List.set (List.set h (Int.toNat i) e5) (Int.toNat j) e7)
def dw (h:Q4) (i:Int) (j:Int):Option Bool:= (idx h i).bind fun e5=> (idx h j).bind fun e7=> some (decide (e5<e7))
def im (i0:Int) (l5:Q4) (i6:Int) (again7:Q15→Option (Bool×Q4)) (j16:Int):Option (Bool×Q4):= (dw l5 j16 i6).bind fun r17=> bif (!r17) then ( some ((decide (i0<i6)),l5)) else ( (cJ l5 i6 j16).bind fun r21=> again7 (r21,j16))
def dy (i0:Int) (n:Int) (again7:Q15→Option (Bool×Q4)):Q4×Int→Option (Bool×Q4):=fun ⟨l5,i6⟩=> aj (decide (n≤(IntKind.i64.wrap ((IntKind.i64.wrap (2*i6))+1)))) fun b8=> aj (decide ((IntKind.i64.wrap ((IntKind.i64.wrap (2*i6))+1))<0)) fun b10=> aj (b8||b10) fun b12=> bif b12 then ( some ((decide (i0<i6)),l5)) else ( aj (fun (s25:Int)=>im i0 l5 i6 again7 s25) fun kk24=> aj (decide ((IntKind.i64.wrap ((IntKind.i64.wrap ((IntKind.i64.wrap (2*i6))+1))+1))<n)) fun b26=> bF b26 default (dw l5 (IntKind.i64.wrap ((IntKind.i64.wrap ((IntKind.i64.wrap (2*i6))+1))+1)) (IntKind.i64.wrap ((IntKind.i64.wrap (2*i6))+1))) fun r28=> aj (b26&&r28) fun b34=> bif b34 then ( kk24 (IntKind.i64.wrap ((IntKind.i64.wrap ((IntKind.i64.wrap (2*i6))+1))+1))) else ( kk24 (IntKind.i64.wrap ((IntKind.i64.wrap (2*i6))+1))))
def jA (i0:Int) (n:Int) (h:Q4):Option (Bool×Q4):= ar (dy i0 n) az (h,i0)
def mz (h:Q4):Option (Int×Q4):= (idx h (IntKind.i64.wrap ((List.length h:Int)-1))).bind fun e1=> chk (fj 0 (IntKind.i64.wrap ((List.length h:Int)-1)) (List.length h))<| some (e1,(ba h 0 (IntKind.i64.wrap ((List.length h:Int)-1))))
def gY (h:Q4):Option (Int×Q4):= (eR h).bind fun r1=> (cJ h 0 (IntKind.i64.wrap (r1-1))).bind fun r4=> (jA 0 (IntKind.i64.wrap (r1-1)) r4).bind fun r7=> (mz r7.2).bind fun r10=> some (r10.1,r10.2)
def kq (_Wide:Int) (Node:Q6) (_Root:Int) (_Many:Int) (Free:Q4) (_young:Q8):Option (Int×Q6×Q4):= bif ((List.length Free:Int)==0) then ( chk (aB (List.length Node+List.length ([([],0)]:List (Q5×Int))) 32)<| some ((IntKind.i64.wrap ((List.length (Node++([([],0)]:List (Q5×Int))):Int)-1)),(Node++([([],0)]:List (Q5×Int))),Free)) else ( (gY Free).bind fun r21=> some (r21.1,Node,r21.2))
def fO (next_:Q5) (r15:(Int×Q6×Q4)) (m29:(List Q20)) (again35:(Q6×Int)→Option Q12):Q6×Int→Option Q12:=fun ⟨l33,t34⟩=> bif (decide (t34<(List.length next_:Int))) then ( (idx next_ t34).bind fun e37=> (idx l33 e37.2).bind fun e44=> (idx l33 e37.2).bind fun e50=> again35 ((List.set l33 (Int.toNat e37.2) (e50.1,(IntKind.i64.wrap (e44.2+1)))),(IntKind.i64.wrap (t34+1)))) else ( some (r15.1,l33,r15.2.2,(some (jd m29 r15.1 true))))
def jr (next_:Q5) (Wide:Int) (Node:Q6) (Root:Int) (Many:Int) (Free:Q4) (young:Q8):Option Q12:= (oV next_ Wide Node Root Many Free young).bind fun r11=> bif r11.2 then ( some (r11.1,Node,Free,young)) else ( (kq Wide Node Root Many Free young).bind fun r15=> (idx r15.2.1 r15.1).bind fun _e22=> (young).bind fun m29=> ar (fO next_ r15 m29) az ((List.set r15.2.1 (Int.toNat r15.1) (next_,0)),0))
def xh (d:Q11) (at_:Int) (by_:Int):Option Int:= bif (at_==(-1)) then ( some (-1)) else ( (idx d.2.1 at_).bind fun e6=> (aN e6.1 by_).bind fun r12=> bif (!r12.2) then ( some (-1)) else ( (idx d.2.1 at_).bind fun e16=> (idx e16.1 r12.1).bind fun e22=> some e22.2))
def mR (e:Q13) (by_:Int):Option Int:= (fN e.1 by_).bind fun r5=> some r5
def eZ (x:Q5) (target:Int) (again7:Q13→Option Q20):Int×Int→Option Q20:=fun ⟨i5,j6⟩=> bif (decide (i5<j6)) then ( (idx x (IntKind.i64.wrap (aq .u64 (IntKind.u64.wrap (IntKind.i64.wrap (i5+j6))) 1))).bind fun e9=> (mR e9 target).bind fun r11=> bif (decide (r11<0)) then ( again7 ((IntKind.i64.wrap ((IntKind.i64.wrap (aq .u64 (IntKind.u64.wrap (IntKind.i64.wrap (i5+j6))) 1))+1)),j6)) else ( again7 (i5,(IntKind.i64.wrap (aq .u64 (IntKind.u64.wrap (IntKind.i64.wrap (i5+j6))) 1))))) else ( aj (decide (i5<(List.length x:Int))) fun b15=> bF b15 (0,0) (idx x i5) fun e17=> bF b15 default (mR e17 target) fun r19=> aj (r19==0) fun b25=> aj (b15&&b25) fun b27=> some (i5,b27))
def bk (x:Q5) (target:Int):Option Q20:= ar (eZ x target) az (0,(List.length x:Int))
def cP (s:Q5):Option Q5:= chk (aB (List.length s) 16)<| some s
def ml (Wide:Int) (Root:Int) (Many:Int) (r36:Q12) (next50:Q5):Option Q12:= (jr next50 Wide r36.2.1 Root Many r36.2.2.1 r36.2.2.2).bind fun r53=> some (r53.1,r53.2.1,r53.2.2.1,r53.2.2.2)
def mK (nc:Q19→Option Q12) (at_:Int) (word:Q4) (Wide:Int) (Node:Q6) (Root:Int) (Many:Int) (Free:Q4) (young:Q8) (next20:Q5):Option Q12:= (idx word 0).bind fun e25=> (idx word 0).bind fun e27=> chk (fj 1 ((List.length word):Int) (List.length word))<| (xh (Wide,Node,Root,Many,Free) at_ e27).bind fun r33=> (nc (r33,(ba word 1 ((List.length word):Int)),Wide,(Wide,Node,Root,Many,Free).2.1,Root,Many,(Wide,Node,Root,Many,Free).2.2.2.2,young)).bind fun r36=> (bk next20 e25).bind fun r46=> aj (fun (s61:Q5)=>ml Wide Root Many r36 s61) fun kk60=> bif r46.2 then ( (idx next20 r46.1).bind fun _e63=> kk60 (List.set next20 (Int.toNat r46.1) (e25,r36.1))) else ( (BA 16 next20 r46.1 ([(e25,r36.1)]:List Q13)).bind fun r68=> kk60 r68)
def fF (nc:Q19→Option Q12) (at_:Int) (word:Q4) (Wide:Int) (Node:Q6) (Root:Int) (Many:Int) (Free:Q4) (young:Q8):Option Q12:= bif ((List.length word:Int)==0) then ( (jr [] Wide Node Root Many Free young).bind fun r12=> some (r12.1,r12.2.1,r12.2.2.1,r12.2.2.2)) else ( aj (fun (s72:Q5)=>mK nc at_ word Wide Node Root Many Free young s72) fun kk71=> bif (at_ != (-1)) then ( (idx Node at_).bind fun e74=> (cP e74.1).bind fun r80=> kk71 r80) else ( kk71 []))
def mf (at_:Int) (word:Q4) (Wide:Int) (Node:Q6) (Root:Int) (Many:Int) (Free:Q4) (young:Q8):Option Q12:=
 ar (fun k (s:Q19)=>fF k s.1 s.2.1 s.2.2.1 s.2.2.2.1 s.2.2.2.2.1 s.2.2.2.2.2.1 s.2.2.2.2.2.2.1 s.2.2.2.2.2.2.2) az (at_,word,Wide,Node,Root,Many,Free,young)
def lG (x:Int) (h:Q4):Option Q4:= chk (aB (List.length h+List.length ([x]:List Int)) 8)<| some (h++([x]:List Int))
def gz (again6:Q15→Option Q4):Q4×Int→Option Q4:=fun ⟨l4,j5⟩=> aj ((IntKind.i64.wrap (Int.tdiv (IntKind.i64.wrap (j5-1)) 2))==j5) fun b7=> bF (!b7) default (dw l4 j5 (IntKind.i64.wrap (Int.tdiv (IntKind.i64.wrap (j5-1)) 2))) fun r9=> aj (!r9) fun b15=> aj (b7||b15) fun b17=> bif b17 then ( some l4) else ( (cJ l4 (IntKind.i64.wrap (Int.tdiv (IntKind.i64.wrap (j5-1)) 2)) j5).bind fun r20=> again6 (r20,(IntKind.i64.wrap (Int.tdiv (IntKind.i64.wrap (j5-1)) 2))))
def jh (j:Int) (h:Q4):Option Q4:= ar gz az (h,j)
def gm (x:Int) (h:Q4):Option Q4:= (lG x h).bind fun r5=> (eR r5).bind fun r10=> (jh (IntKind.i64.wrap (r10-1)) r5).bind fun r13=> some r13
def iz (lE:Q21→Option (Q6×Q4)) (i:Int) (Wide:Int) (Root:Int) (Many:Int) (young:Q8) (e27:(Q5×Int)) (again39:(Q6×Q4×Int)→Option (Q6×Q4)):Q6×Q4×Int→Option (Q6×Q4):=fun ⟨l34,c35,t38⟩=> bif (decide (t38<(List.length e27.1:Int))) then ( (idx e27.1 t38).bind fun e41=> (lE (e41.2,Wide,l34,Root,Many,c35,young)).bind fun r46=> again39 (r46.1,r46.2,(IntKind.i64.wrap (t38+1)))) else ( (idx l34 i).bind fun _e51=> (gm i c35).bind fun r61=> some ((List.set l34 (Int.toNat i) ([],0)),r61))
def iV (lE:Q21→Option (Q6×Q4)) (i:Int) (Wide:Int) (Node:Q6) (Root:Int) (Many:Int) (Free:Q4) (young:Q8):Option (Q6×Q4):= (idx Node i).bind fun e7=> (idx Node i).bind fun e13=> (idx (List.set Node (Int.toNat i) (e13.1,(IntKind.i64.wrap (e7.2-1)))) i).bind fun e20=> bif (decide (0<e20.2)) then ( some ((List.set Node (Int.toNat i) (e13.1,(IntKind.i64.wrap (e7.2-1)))),Free)) else ( (idx (List.set Node (Int.toNat i) (e13.1,(IntKind.i64.wrap (e7.2-1)))) i).bind fun e27=> ar (iz lE i Wide Root Many young e27) az ((List.set Node (Int.toNat i) (e13.1,(IntKind.i64.wrap (e7.2-1)))),Free,0))
def ko (i:Int) (Wide:Int) (Node:Q6) (Root:Int) (Many:Int) (Free:Q4) (young:Q8):Option (Q6×Q4):=
 ar (fun k (s:Q21)=>iV k s.1 s.2.1 s.2.2.1 s.2.2.2.1 s.2.2.2.2.1 s.2.2.2.2.2.1 s.2.2.2.2.2.2) az (i,Wide,Node,Root,Many,Free,young)
def oW (d:Q11) (r44:Q12) (l68:Q6) (c69:Q4):Option (Q11×Bool×Int):= some ((d.1,l68,r44.1,(IntKind.i64.wrap (d.2.2.2.1+1)),c69),true,0)
def cR (d:Q11) (word:Q4):Option (Q11×Bool×Int):= aj ((List.length word:Int) != d.1) fun b13=> aj (d.1==0) fun b15=> aj (b13||b15) fun b17=> bif b17 then ( some (d,false,1)) else ( (gD d word).bind fun r21=> bif r21 then ( some (d,false,0)) else ( (bU d.2.1).bind fun r32=> (db d.2.2.2.2).bind fun r37=> (mf d.2.2.1 word d.1 r32 d.2.2.1 d.2.2.2.1 r37 (some []:Q8)).bind fun r44=> (idx r44.2.1 r44.1).bind fun e54=> (idx r44.2.1 r44.1).bind fun e60=> aj (fun (s75:Q6×Q4)=>oW d r44 s75.1 s75.2) fun kk74=> bif (d.2.2.1 != (-1)) then ( (ko d.2.2.1 d.1 (List.set r44.2.1 (Int.toNat r44.1) (e60.1,(IntKind.i64.wrap (e54.2+1)))) r44.1 d.2.2.2.1 r44.2.2.1 r44.2.2.2).bind fun r77=> kk74 (r77.1,r77.2)) else ( kk74 ((List.set r44.2.1 (Int.toNat r44.1) (e60.1,(IntKind.i64.wrap (e54.2+1)))),r44.2.2.1))))
def eO (_x:Unit) (t:Q3) (v39:Q4):Option Q22:= (bR t v39).bind fun r50=> (gD t.2.2.2.2.2.2.1.1 r50).bind fun r54=> bif r54 then ( some (t,false,0)) else ( (pZ t.2.2.2.2.2.2.1.1).bind fun r61=> bif (decide (t.2.2.1≤r61)) then ( some (t,false,7)) else ( (cR t.2.2.2.2.2.2.1.1 r50).bind fun r66=> some ((t.1,t.2.1,t.2.2.1,t.2.2.2.1,t.2.2.2.2.1,t.2.2.2.2.2.1,(r66.1,t.2.2.2.2.2.2.1.2.1,t.2.2.2.2.2.2.1.2.2),t.2.2.2.2.2.2.2),true,0)))
def oP (b:Q4) (seed:Int) (k:Int) (n:Int) (again10:Q15→Option Q4):Q4×Int→Option Q4:=fun ⟨out6,t9⟩=> bif (decide (t9<(max k 0))) then ( (nb b (IntKind.u64.wrap (seed+(IntKind.u64.wrap t9)))).bind fun r12=> (lP r12 n).bind fun r15=> chk (aB (List.length out6+List.length ([r15]:List Int)) 8)<| again10 ((out6++([r15]:List Int)),(IntKind.i64.wrap (t9+1)))) else ( some out6)
def fB (b:Q4) (seed:Int) (k:Int) (n:Int):Option Q4:= ar (oP b seed k n) az ([],0)
def pQ (b:Q7) (_c:Bool) (r5:Q4) (again14:Q18→Option Bool):Bool×Int→Option Bool:=fun ⟨c12,t13⟩=> bif (decide (t13<(List.length r5:Int))) then ( (idx r5 t13).bind fun e16=> (idx b.2.2.2.1 (IntKind.i64.wrap (Int.tdiv e16 8))).bind fun e20=> chk (decide (0≤(Int.tmod e16 8)))<| aj ((fz .u8 e20 (fa .u8 1 (Int.tmod e16 8))) != 0) fun b23=> aj (c12&&b23) fun b25=> again14 (b25,(IntKind.i64.wrap (t13+1)))) else ( some c12)
def xm (b:Q7) (key:Q4) (c:Bool):Option Bool:= (fB key b.2.2.1 b.2.1 b.1).bind fun r5=> ar (pQ b c r5) az (c,0)
def yV (b:Q7) (key:Q4):Option Bool:= (xm b key true).bind fun r8=> some r8
def jv (b:Q7) (key:Q4):Option Bool:= (yV b key).bind fun r5=> some r5
def bn (s:Q4):Option Q4:= chk (aB (List.length s) 1)<| some s
def dv (r5:Q4) (again14:Q15→Option Q4):Q4×Int→Option Q4:=fun ⟨l12,t13⟩=> bif (decide (t13<(List.length r5:Int))) then ( (idx r5 t13).bind fun e16=> (idx l12 (IntKind.i64.wrap (Int.tdiv e16 8))).bind fun e20=> chk (decide (0≤(Int.tmod e16 8)))<| again14 ((List.set l12 (Int.toNat (IntKind.i64.wrap (Int.tdiv e16 8))) (orI .u8 e20 (fa .u8 1 (Int.tmod e16 8)))),(IntKind.i64.wrap (t13+1)))) else ( some l12)
def mF (b:Q7) (key:Q4):Option Q4:= (fB key b.2.2.1 b.2.1 b.1).bind fun r5=> ar (dv r5) az (b.2.2.2.1,0)
def zh (b:Q7) (key:Q4):Option Q7:= (bn b.2.2.2.1).bind fun r13=> (mF (b.1,b.2.1,b.2.2.1,(r13,b.2.2.2.2.1,b.2.2.2.2.2)) key).bind fun r19=> some (b.1,b.2.1,b.2.2.1,(r19,b.2.2.2.2.1,b.2.2.2.2.2))
def n7 (b:Q7) (key:Q4):Option (Q7×Bool):= (jv b key).bind fun r14=> bif r14 then ( some (b,false)) else ( (zh b key).bind fun r19=> some (r19,true))
def eQ (_x:Unit) (t:Q3) (v39:Q4):Option Q22:= (bR t v39).bind fun r52=> (n7 t.2.2.2.2.2.2.2 r52).bind fun r56=> some ((t.1,t.2.1,t.2.2.1,t.2.2.2.1,t.2.2.2.2.1,t.2.2.2.2.2.1,t.2.2.2.2.2.2.1,r56.1),r56.2,0)
def aZ (t:Q3) (v39:Q4):Option Q22:= (bQ t.2.1 v39).bind fun r48=> bif (r48 != 0) then ( some (t,false,r48)) else ( (aT t).bind fun r55=> bif (Nat.beq r55 133) then ( (eM () t v39).bind fun r58=> some (r58.1,r58.2.1,r58.2.2)) else ( bif (Nat.beq r55 134) then ( (ew () t v39).bind fun r81=> some (r81.1,r81.2.1,r81.2.2)) else ( bif (Nat.beq r55 135) then ( (ek () t v39).bind fun r104=> some (r104.1,r104.2.1,r104.2.2)) else ( bif (Nat.beq r55 136) then ( (eO () t v39).bind fun r127=> some (r127.1,r127.2.1,r127.2.2)) else ( bif (Nat.beq r55 137) then ( (eQ () t v39).bind fun r150=> some (r150.1,r150.2.1,r150.2.2)) else ( none))))))
def qk (flag:Int):Option Int:= bif (flag==0) then ( some 1) else ( bif (flag==1) then ( some 2) else ( some 0))
def rX (i:Int) (b:Int) (_Cap:Int) (_Keys:(List Q4)) (_Slot:Q4) (Flag:Q4) (_Cap11:Int) (_Keys12:(List Q4)) (_Slot15:Q4) (_Flag18:Q4):Option Q4:= (bn Flag).bind fun r4=> (idx r4 i).bind fun e10=> (idx r4 i).bind fun _e12=> some (List.set r4 (Int.toNat i) (orI .u8 e10 b))
def BL (s:(Q1×Q4)) (key:Q4) (flag:Int) (Cap:Int) (Keys:(List Q4)) (Slot:Q4) (Flag:Q4) (Cap18:Int) (Keys19:(List Q4)) (Slot22:Q4) (Flag25:Q4):Option (Int×Int×(List Q4)×Q4×Q4):= (qk flag).bind fun r13=> bif (r13==0) then ( some (1,Cap18,Keys19,Slot22,Flag25)) else ( (bO s.1 key).bind fun r17=> bif (!r17.2) then ( some (10,Cap18,Keys19,Slot22,Flag25)) else ( (rX r17.1 r13 Cap Keys Slot Flag Cap18 Keys19 Slot22 Flag25).bind fun r21=> some (0,Cap18,Keys19,Slot22,r21)))
def uU (s:(Q1×Q4)) (key:Q4) (flag:Int):Option ((Q1×Q4)×Int):= (BL s key flag s.1.1 s.1.2.1 s.1.2.2 s.2 s.1.1 s.1.2.1 s.1.2.2 s.2).bind fun r17=> some (((r17.2.1,r17.2.2.1,r17.2.2.2.1),r17.2.2.2.2),r17.1)
def gG (_x:Unit) (t:Q3) (v39:Q4) (flag:Int):Option Q24:= (bR t v39).bind fun r51=> (uU t.2.2.2.1 r51 flag).bind fun r55=> some ((t.1,t.2.1,t.2.2.1,r55.1,t.2.2.2.2.1,t.2.2.2.2.2.1,t.2.2.2.2.2.2.1,t.2.2.2.2.2.2.2),r55.2)
def pG (c:Q10) (s:Q5) (v11:Q4) (flag:Int):Option Q13:= (bQ s v11).bind fun r6=> bif (r6 != 0) then ( some (0,r6)) else ( aj (decide (flag<0)) fun b10=> aj (decide (1<flag)) fun b12=> aj (b10||b12) fun b14=> bif b14 then ( some (0,1)) else ( (gF c s v11).bind fun r17=> bif (decide (r17<0)) then ( some (0,10)) else ( some (r17,0))))
def uf (c:Q10) (s:Q5) (v11:Q4) (flag:Int):Option (Q10×Int):= (pG c s v11 flag).bind fun r16=> bif (r16.2 != 0) then ( some (c,r16.2)) else ( (bn c.2.2).bind fun r21=> (idx r21 r16.1).bind fun e29=> chk (decide (0≤flag))<| (idx r21 r16.1).bind fun _e32=> some ((c.1,c.2.1,(List.set r21 (Int.toNat r16.1) (orI .u8 e29 (fa .u8 1 flag)))),0))
def fZ (_x:Unit) (t:Q3) (v39:Q4) (flag:Int):Option Q24:= (uf t.2.2.2.2.1 t.2.1 v39 flag).bind fun r49=> some ((t.1,t.2.1,t.2.2.1,t.2.2.2.1,r49.1,t.2.2.2.2.2.1,t.2.2.2.2.2.2.1,t.2.2.2.2.2.2.2),r49.2)
def pJ (t:Q16) (s:Q5) (v7:Q4) (flag:Int):Option Q13:= (bQ s v7).bind fun r6=> bif (r6 != 0) then ( some (0,r6)) else ( aj (flag != 0) fun b10=> aj (flag != 1) fun b12=> aj (b10&&b12) fun b14=> bif b14 then ( some (0,1)) else ( (j2 t s v7).bind fun r17=> bif (!r17.2) then ( some (0,10)) else ( some (r17.1,0))))
def ux (t:Q16) (s:Q5) (v7:Q4) (flag:Int):Option (Q16×Int):= (pJ t s v7 flag).bind fun r12=> bif (r12.2 != 0) then ( some (t,r12.2)) else ( (bn t.2).bind fun r17=> (idx r17 r12.1).bind fun e25=> chk (decide (0≤flag))<| (idx r17 r12.1).bind fun _e28=> some ((t.1,(List.set r17 (Int.toNat r12.1) (orI .u8 e25 (fa .u8 1 flag)))),0))
def fV (_x:Unit) (t:Q3) (v39:Q4) (flag:Int):Option Q24:= (ux t.2.2.2.2.2.1 t.2.1 v39 flag).bind fun r49=> some ((t.1,t.2.1,t.2.2.1,t.2.2.2.1,t.2.2.2.2.1,r49.1,t.2.2.2.2.2.2.1,t.2.2.2.2.2.2.2),r49.2)
def jo (t:Q3) (v39:Q4) (flag:Int):Option Int:= aj (decide (flag<0)) fun b5=> aj (decide (1<flag)) fun b7=> aj (b5||b7) fun b9=> bif b9 then ( some 1) else ( (bR t v39).bind fun r14=> (gD t.2.2.2.2.2.2.1.1 r14).bind fun r18=> bif (!r18) then ( some 10) else ( some 0))
def gH (_x:Unit) (t:Q3) (v39:Q4) (flag:Int):Option Q24:= (jo t v39 flag).bind fun r49=> bif (r49 != 0) then ( some (t,r49)) else ( bif ((IntKind.i64.wrap (1+flag))==0) then ( (bR t v39).bind fun r57=> (cR t.2.2.2.2.2.2.1.1 r57).bind fun r61=> bif ((IntKind.i64.wrap (1+flag))==0) then ( some ((t.1,t.2.1,t.2.2.1,t.2.2.2.1,t.2.2.2.2.1,t.2.2.2.2.2.1,(r61.1,t.2.2.2.2.2.2.1.2.1,t.2.2.2.2.2.2.1.2.2),t.2.2.2.2.2.2.2),0)) else ( bif ((IntKind.i64.wrap (1+flag))==1) then ( some ((t.1,t.2.1,t.2.2.1,t.2.2.2.1,t.2.2.2.2.1,t.2.2.2.2.2.1,(t.2.2.2.2.2.2.1.1,r61.1,t.2.2.2.2.2.2.1.2.2),t.2.2.2.2.2.2.2),0)) else ( bif ((IntKind.i64.wrap (1+flag))==2) then ( some ((t.1,t.2.1,t.2.2.1,t.2.2.2.1,t.2.2.2.2.1,t.2.2.2.2.2.1,(t.2.2.2.2.2.2.1.1,t.2.2.2.2.2.2.1.2.1,r61.1),t.2.2.2.2.2.2.2),0)) else ( none)))) else ( bif ((IntKind.i64.wrap (1+flag))==1) then ( (bR t v39).bind fun r76=> (cR t.2.2.2.2.2.2.1.2.1 r76).bind fun r80=> bif ((IntKind.i64.wrap (1+flag))==0) then ( some ((t.1,t.2.1,t.2.2.1,t.2.2.2.1,t.2.2.2.2.1,t.2.2.2.2.2.1,(r80.1,t.2.2.2.2.2.2.1.2.1,t.2.2.2.2.2.2.1.2.2),t.2.2.2.2.2.2.2),0)) else ( bif ((IntKind.i64.wrap (1+flag))==1) then ( some ((t.1,t.2.1,t.2.2.1,t.2.2.2.1,t.2.2.2.2.1,t.2.2.2.2.2.1,(t.2.2.2.2.2.2.1.1,r80.1,t.2.2.2.2.2.2.1.2.2),t.2.2.2.2.2.2.2),0)) else ( bif ((IntKind.i64.wrap (1+flag))==2) then ( some ((t.1,t.2.1,t.2.2.1,t.2.2.2.1,t.2.2.2.2.1,t.2.2.2.2.2.1,(t.2.2.2.2.2.2.1.1,t.2.2.2.2.2.2.1.2.1,r80.1),t.2.2.2.2.2.2.2),0)) else ( none)))) else ( bif ((IntKind.i64.wrap (1+flag))==2) then ( (bR t v39).bind fun r95=> (cR t.2.2.2.2.2.2.1.2.2 r95).bind fun r99=> bif ((IntKind.i64.wrap (1+flag))==0) then ( some ((t.1,t.2.1,t.2.2.1,t.2.2.2.1,t.2.2.2.2.1,t.2.2.2.2.2.1,(r99.1,t.2.2.2.2.2.2.1.2.1,t.2.2.2.2.2.2.1.2.2),t.2.2.2.2.2.2.2),0)) else ( bif ((IntKind.i64.wrap (1+flag))==1) then ( some ((t.1,t.2.1,t.2.2.1,t.2.2.2.1,t.2.2.2.2.1,t.2.2.2.2.2.1,(t.2.2.2.2.2.2.1.1,r99.1,t.2.2.2.2.2.2.1.2.2),t.2.2.2.2.2.2.2),0)) else ( bif ((IntKind.i64.wrap (1+flag))==2) then ( some ((t.1,t.2.1,t.2.2.1,t.2.2.2.1,t.2.2.2.2.1,t.2.2.2.2.2.1,(t.2.2.2.2.2.2.1.1,t.2.2.2.2.2.2.1.2.1,r99.1),t.2.2.2.2.2.2.2),0)) else ( none)))) else ( none))))
def pV (b:Q7) (key:Q4) (flag:Int):Option Int:= aj (decide (flag<0)) fun b5=> aj (decide (1<flag)) fun b7=> aj (b5||b7) fun b9=> bif b9 then ( some 1) else ( (jv b key).bind fun r12=> bif (!r12) then ( some 10) else ( some 0))
def rH (r5:Q4) (again14:Q15→Option Q4):Q4×Int→Option Q4:=fun ⟨l12,t13⟩=> bif (decide (t13<(List.length r5:Int))) then ( (idx r5 t13).bind fun e16=> (idx l12 (IntKind.i64.wrap (Int.tdiv e16 8))).bind fun e20=> chk (decide (0≤(Int.tmod e16 8)))<| again14 ((List.set l12 (Int.toNat (IntKind.i64.wrap (Int.tdiv e16 8))) (orI .u8 e20 (fa .u8 1 (Int.tmod e16 8)))),(IntKind.i64.wrap (t13+1)))) else ( some l12)
def qu (b:Q7) (key:Q4):Option Q4:= (fB key b.2.2.1 b.2.1 b.1).bind fun r5=> ar (rH r5) az (b.2.2.2.2.1,0)
def rz (r5:Q4) (again14:Q15→Option Q4):Q4×Int→Option Q4:=fun ⟨l12,t13⟩=> bif (decide (t13<(List.length r5:Int))) then ( (idx r5 t13).bind fun e16=> (idx l12 (IntKind.i64.wrap (Int.tdiv e16 8))).bind fun e20=> chk (decide (0≤(Int.tmod e16 8)))<| again14 ((List.set l12 (Int.toNat (IntKind.i64.wrap (Int.tdiv e16 8))) (orI .u8 e20 (fa .u8 1 (Int.tmod e16 8)))),(IntKind.i64.wrap (t13+1)))) else ( some l12)
def pT (b:Q7) (key:Q4):Option Q4:= (fB key b.2.2.1 b.2.1 b.1).bind fun r5=> ar (rz r5) az (b.2.2.2.2.2,0)
def n3 (b:Q7) (key:Q4) (row:Int):Option Q7:= bif (row==0) then ( (bn b.2.2.2.1).bind fun r13=> (mF (b.1,b.2.1,b.2.2.1,(r13,b.2.2.2.2.1,b.2.2.2.2.2)) key).bind fun r19=> some (b.1,b.2.1,b.2.2.1,(r19,b.2.2.2.2.1,b.2.2.2.2.2))) else (bif (row==1) then ( (bn b.2.2.2.2.1).bind fun r27=> (qu (b.1,b.2.1,b.2.2.1,(b.2.2.2.1,r27,b.2.2.2.2.2)) key).bind fun r33=> some (b.1,b.2.1,b.2.2.1,(b.2.2.2.1,r33,b.2.2.2.2.2))) else (bif (row==2) then ( (bn b.2.2.2.2.2).bind fun r41=> (pT (b.1,b.2.1,b.2.2.1,(b.2.2.2.1,b.2.2.2.2.1,r41)) key).bind fun r47=> some (b.1,b.2.1,b.2.2.1,(b.2.2.2.1,b.2.2.2.2.1,r47))) else ( none)))
def uI (b:Q7) (key:Q4) (flag:Int):Option (Q7×Int):= (pV b key flag).bind fun r14=> bif (r14 != 0) then ( some (b,r14)) else ( (n3 b key (IntKind.i64.wrap (1+flag))).bind fun r19=> some (r19,0))
def ia (_x:Unit) (t:Q3) (v39:Q4) (flag:Int):Option Q24:= (bR t v39).bind fun r51=> (uI t.2.2.2.2.2.2.2 r51 flag).bind fun r55=> some ((t.1,t.2.1,t.2.2.1,t.2.2.2.1,t.2.2.2.2.1,t.2.2.2.2.2.1,t.2.2.2.2.2.2.1,r55.1),r55.2)
def cU (t:Q3) (v39:Q4) (flag:Int):Option Q24:= (bQ t.2.1 v39).bind fun r47=> bif (r47 != 0) then ( some (t,r47)) else ( (aT t).bind fun r54=> bif (Nat.beq r54 133) then ( (gG () t v39 flag).bind fun r57=> some (r57.1,r57.2)) else ( bif (Nat.beq r54 134) then ( (fZ () t v39 flag).bind fun r80=> some (r80.1,r80.2)) else ( bif (Nat.beq r54 135) then ( (fV () t v39 flag).bind fun r103=> some (r103.1,r103.2)) else ( bif (Nat.beq r54 136) then ( (gH () t v39 flag).bind fun r126=> some (r126.1,r126.2)) else ( bif (Nat.beq r54 137) then ( (ia () t v39 flag).bind fun r149=> some (r149.1,r149.2)) else ( none))))))
def sq (i:Int) (b:Int) (_Cap:Int) (_Keys:(List Q4)) (_Slot:Q4) (Flag:Q4) (_x:Bool):Option Bool:= (idx Flag i).bind fun e3=> some ((fz .u8 e3 b) != 0)
def tM (s:(Q1×Q4)) (key:Q4) (flag:Int) (Cap:Int) (Keys:(List Q4)) (Slot:Q4) (Flag:Q4) (c:Bool):Option Q20:= (qk flag).bind fun r6=> bif (r6==0) then ( some (1,c)) else ( (bO s.1 key).bind fun r10=> bif (!r10.2) then ( some (10,c)) else ( (sq r10.1 r6 Cap Keys Slot Flag c).bind fun r14=> some (0,r14)))
def va (s:(Q1×Q4)) (key:Q4) (flag:Int):Option Q18:= (tM s key flag s.1.1 s.1.2.1 s.1.2.2 s.2 false).bind fun r9=> some (r9.2,r9.1)
def gK (_x:Unit) (t:Q3) (v39:Q4) (flag:Int):Option Q18:= (bR t v39).bind fun r10=> (va t.2.2.2.1 r10 flag).bind fun r14=> some (r14.1,r14.2)
def uD (c:Q10) (s:Q5) (v11:Q4) (flag:Int):Option Q18:= (pG c s v11 flag).bind fun r6=> bif (r6.2 != 0) then ( some (false,r6.2)) else ( (idx c.2.2 r6.1).bind fun e10=> chk (decide (0≤flag))<| some (((fz .u8 (aq .u8 e10 flag) 1)==1),0))
def fI (_x:Unit) (t:Q3) (v39:Q4) (flag:Int):Option Q18:= (uD t.2.2.2.2.1 t.2.1 v39 flag).bind fun r8=> some (r8.1,r8.2)
def uB (t:Q16) (s:Q5) (v7:Q4) (flag:Int):Option Q18:= (pJ t s v7 flag).bind fun r6=> bif (r6.2 != 0) then ( some (false,r6.2)) else ( (idx t.2 r6.1).bind fun e12=> chk (decide (0≤flag))<| some (((fz .u8 e12 (fa .u8 1 flag)) != 0),0))
def fT (_x:Unit) (t:Q3) (v39:Q4) (flag:Int):Option Q18:= (uB t.2.2.2.2.2.1 t.2.1 v39 flag).bind fun r8=> some (r8.1,r8.2)
def gT (_x:Unit) (t:Q3) (v39:Q4) (flag:Int):Option Q18:= (jo t v39 flag).bind fun r8=> bif (r8 != 0) then ( some (false,r8)) else ( bif ((IntKind.i64.wrap (1+flag))==0) then ( (bR t v39).bind fun r15=> (gD t.2.2.2.2.2.2.1.1 r15).bind fun r20=> some (r20,0)) else ( bif ((IntKind.i64.wrap (1+flag))==1) then ( (bR t v39).bind fun r24=> (gD t.2.2.2.2.2.2.1.2.1 r24).bind fun r28=> some (r28,0)) else ( bif ((IntKind.i64.wrap (1+flag))==2) then ( (bR t v39).bind fun r32=> (gD t.2.2.2.2.2.2.1.2.2 r32).bind fun r36=> some (r36,0)) else ( none))))
def gZ (b:Q7) (row:Int) (_c:Bool) (r5:Q4) (again14:Q18→Option Bool):Bool×Int→Option Bool:=fun ⟨c12,t13⟩=> bif (decide (t13<(List.length r5:Int))) then ( (idx r5 t13).bind fun e16=> bif (row==0) then ( (idx b.2.2.2.1 (IntKind.i64.wrap (Int.tdiv e16 8))).bind fun e21=> chk (decide (0≤(Int.tmod e16 8)))<| aj ((fz .u8 e21 (fa .u8 1 (Int.tmod e16 8))) != 0) fun b24=> aj (c12&&b24) fun b26=> again14 (b26,(IntKind.i64.wrap (t13+1)))) else ( bif (row==1) then ( (idx b.2.2.2.2.1 (IntKind.i64.wrap (Int.tdiv e16 8))).bind fun e30=> chk (decide (0≤(Int.tmod e16 8)))<| aj ((fz .u8 e30 (fa .u8 1 (Int.tmod e16 8))) != 0) fun b33=> aj (c12&&b33) fun b35=> again14 (b35,(IntKind.i64.wrap (t13+1)))) else ( bif (row==2) then ( (idx b.2.2.2.2.2 (IntKind.i64.wrap (Int.tdiv e16 8))).bind fun e39=> chk (decide (0≤(Int.tmod e16 8)))<| aj ((fz .u8 e39 (fa .u8 1 (Int.tmod e16 8))) != 0) fun b42=> aj (c12&&b42) fun b44=> again14 (b44,(IntKind.i64.wrap (t13+1)))) else ( none)))) else ( some c12)
def p6 (b:Q7) (key:Q4) (row:Int) (c:Bool):Option Bool:= (fB key b.2.2.1 b.2.1 b.1).bind fun r5=> ar (gZ b row c r5) az (c,0)
def oa (b:Q7) (key:Q4) (row:Int):Option Bool:= (p6 b key row true).bind fun r8=> some r8
def uq (b:Q7) (key:Q4) (flag:Int):Option Q18:= (pV b key flag).bind fun r6=> bif (r6 != 0) then ( some (false,r6)) else ( (oa b key (IntKind.i64.wrap (1+flag))).bind fun r10=> some (r10,0))
def gP (_x:Unit) (t:Q3) (v39:Q4) (flag:Int):Option Q18:= (bR t v39).bind fun r10=> (uq t.2.2.2.2.2.2.2 r10 flag).bind fun r14=> some (r14.1,r14.2)
def bS (t:Q3) (v39:Q4) (flag:Int):Option Q18:= (bQ t.2.1 v39).bind fun r6=> bif (r6 != 0) then ( some (false,r6)) else ( (aT t).bind fun r12=> bif (Nat.beq r12 133) then ( (gK () t v39 flag).bind fun r15=> some (r15.1,r15.2)) else ( bif (Nat.beq r12 134) then ( (fI () t v39 flag).bind fun r18=> some (r18.1,r18.2)) else ( bif (Nat.beq r12 135) then ( (fT () t v39 flag).bind fun r21=> some (r21.1,r21.2)) else ( bif (Nat.beq r12 136) then ( (gT () t v39 flag).bind fun r24=> some (r24.1,r24.2)) else ( bif (Nat.beq r12 137) then ( (gP () t v39 flag).bind fun r27=> some (r27.1,r27.2)) else ( none))))))
def od (s:(Q1×Q4)) (key:Q4):Option Bool:= (bO s.1 key).bind fun r5=> some r5.2
def eP (_x:Unit) (t:Q3) (v39:Q4):Option Bool:= (bR t v39).bind fun r9=> (od t.2.2.2.1 r9).bind fun r14=> some r14
def nY (c:Q10) (s:Q5) (v11:Q4):Option Q18:= (bQ s v11).bind fun r6=> bif (r6 != 0) then ( some (false,r6)) else ( (gF c s v11).bind fun r10=> some ((decide (0≤r10)),0))
def ed (_x:Unit) (t:Q3) (v39:Q4):Option Bool:= (nY t.2.2.2.2.1 t.2.1 v39).bind fun r7=> some r7.1
def nS (t:Q16) (s:Q5) (v7:Q4):Option Q18:= (bQ s v7).bind fun r6=> bif (r6 != 0) then ( some (false,r6)) else ( (j2 t s v7).bind fun r10=> some (r10.2,0))
def eo (_x:Unit) (t:Q3) (v39:Q4):Option Bool:= (nS t.2.2.2.2.2.1 t.2.1 v39).bind fun r7=> some r7.1
def eN (_x:Unit) (t:Q3) (v39:Q4):Option Bool:= (bR t v39).bind fun r9=> (gD t.2.2.2.2.2.2.1.1 r9).bind fun r14=> some r14
def eT (_x:Unit) (t:Q3) (v39:Q4):Option Bool:= (bR t v39).bind fun r9=> (jv t.2.2.2.2.2.2.2 r9).bind fun r14=> some r14
def bu (t:Q3) (v39:Q4):Option Q18:= (bQ t.2.1 v39).bind fun r6=> bif (r6 != 0) then ( some (false,r6)) else ( (aT t).bind fun r12=> bif (Nat.beq r12 133) then ( (eP () t v39).bind fun r15=> some (r15,0)) else ( bif (Nat.beq r12 134) then ( (ed () t v39).bind fun r18=> some (r18,0)) else ( bif (Nat.beq r12 135) then ( (eo () t v39).bind fun r21=> some (r21,0)) else ( bif (Nat.beq r12 136) then ( (eN () t v39).bind fun r24=> some (r24,0)) else ( bif (Nat.beq r12 137) then ( (eT () t v39).bind fun r27=> some (r27,0)) else ( none))))))
def wY (s:(Q1×Q4)):Option Int:= (gV s.1).bind fun r5=> some r5
def fR (_x:Unit) (t:Q3):Option Int:= (wY t.2.2.2.1).bind fun r7=> some r7
def fp (_x:Unit) (t:Q3):Option Int:= (lK t.2.2.2.2.1).bind fun r7=> some r7
def fq (_x:Unit) (t:Q3):Option Int:= (jT t.2.2.2.2.2.1).bind fun r7=> some r7
def fQ (_x:Unit) (t:Q3):Option Int:= (pZ t.2.2.2.2.2.2.1.1).bind fun r7=> some r7
def iN (t7:Int) (again8:Q13→Option Int) (again15:Q13→Option Int):Int×Int→Option Int:=fun ⟨n13,c14⟩=> bif (decide (0<c14)) then ( again15 ((IntKind.i64.wrap (n13+1)),(fz .u8 c14 (IntKind.u8.wrap (c14-1))))) else ( again8 (n13,(IntKind.i64.wrap (t7+1))))
def qb (b:Q7) (again8:Q13→Option Int):Int×Int→Option Int:=fun ⟨n6,t7⟩=> bif (decide (t7<(List.length b.2.2.2.1:Int))) then ( (idx b.2.2.2.1 t7).bind fun e10=> ar (iN t7 again8) az (n6,e10)) else ( some n6)
def rK (b:Q7):Option Int:= ar (qb b) az (0,0)
def fM (_x:Unit) (t:Q3):Option Int:= (rK t.2.2.2.2.2.2.2).bind fun r7=> some r7
def cf (t:Q3):Option Int:= (aT t).bind fun r7=> bif (Nat.beq r7 133) then ( (fR () t).bind fun r10=> some r10) else ( bif (Nat.beq r7 134) then ( (fp () t).bind fun r13=> some r13) else ( bif (Nat.beq r7 135) then ( (fq () t).bind fun r16=> some r16) else ( bif (Nat.beq r7 136) then ( (fQ () t).bind fun r19=> some r19) else ( bif (Nat.beq r7 137) then ( (fM () t).bind fun r22=> some r22) else ( none)))))
def sf (again7:Int→Option Bool) (k6:Int):Option Bool:= bif (decide (k6<5)) then ( (cT ([(0,9)]:List Q13) (k6,1,0,1,4000,2)).bind fun r9=> (aZ r9.1 ([3]:List Int)).bind fun r36=> (aZ r36.1 ([3]:List Int)).bind fun r63=> (aZ r36.1 ([4]:List Int)).bind fun r90=> (aZ r36.1 ([10]:List Int)).bind fun r117=> (cU r36.1 ([3]:List Int) 0).bind fun r144=> (bS r144.1 ([3]:List Int) 0).bind fun r171=> (bS r144.1 ([3]:List Int) 1).bind fun r176=> (bu r144.1 ([3]:List Int)).bind fun r181=> aj (r9.2 != 0) fun b184=> aj (!r36.2.1) fun b186=> aj (b184||b186) fun b188=> aj (r36.2.2 != 0) fun b190=> aj (b188||b190) fun b192=> aj (b192||r63.2.1) fun b194=> aj (r63.2.2 != 0) fun b196=> aj (b194||b196) fun b198=> aj (r90.2.2==7) fun b200=> aj (decide (k6<4)) fun b202=> aj (b200 != b202) fun b204=> aj (b198||b204) fun b206=> aj (r117.2.2 != 5) fun b208=> aj (b206||b208) fun b210=> aj (r144.2 != 0) fun b212=> aj (b210||b212) fun b214=> aj (!r171.1) fun b216=> aj (b214||b216) fun b218=> aj (r171.2 != 0) fun b220=> aj (b218||b220) fun b222=> aj (b222||r176.1) fun b224=> aj (r176.2 != 0) fun b226=> aj (b224||b226) fun b228=> aj (!r181.1) fun b230=> aj (b228||b230) fun b232=> aj (r181.2 != 0) fun b234=> aj (b232||b234) fun b236=> bF (!b236) default (cf r144.1) fun r238=> aj (decide (r238<1)) fun b244=> aj (b236||b244) fun b246=> bif b246 then ( some false) else ( again7 (IntKind.i64.wrap (k6+1)))) else ( (cT ([(0,9)]:List Q13) (5,0,0,0,0,0)).bind fun r249=> some (r249.2==1))
def jz:Option Bool:= ar sf az 0
def dx (s:Q5) (again12:Int→Option Bool) (i11:Int):Option Bool:= bif (decide (i11<(List.length s:Int))) then ( (idx s i11).bind fun e16=> (idx s i11).bind fun e18=> aj (decide (e18.2<e16.1)) fun b20=> bF (!b20) (0,0) (idx s i11) fun e22=> aj (decide (e22.1<(-1073741824))) fun b24=> aj (b20||b24) fun b26=> bF (!b26) (0,0) (idx s i11) fun e28=> aj (decide (1073741824<e28.2)) fun b30=> aj (b26||b30) fun b32=> bF (!b32) (0,0) (idx s i11) fun e34=> bF (!b32) (0,0) (idx s i11) fun e36=> aj (decide (65535<(IntKind.i64.wrap (e34.2-e36.1)))) fun b38=> aj (b32||b38) fun b40=> bif b40 then ( some false) else ( again12 (IntKind.i64.wrap (i11+1)))) else ( some true)
def gi (s:Q5):Option Bool:= aj (decide ((List.length s:Int)<1)) fun b3=> aj (decide (17<(List.length s:Int))) fun b5=> aj (b3||b5) fun b7=> bif b7 then ( some false) else ( ar (dx s) az 0)
def dR (a:Q4) (b:Q4) (again6:Int→Option Bool) (i5:Int):Option Bool:= bif (decide (i5<(List.length a:Int))) then ( (idx a i5).bind fun e10=> (idx b i5).bind fun e12=> bif (e10 != e12) then ( some false) else ( again6 (IntKind.i64.wrap (i5+1)))) else ( some true)
def kC (a:Q4) (b:Q4):Option Bool:= bif ((List.length a:Int) != (List.length b:Int)) then ( some false) else ( ar (dR a b) az 0)
def vC (s:Q5) (v3:Q4) (again6:Int→Option Int) (i5:Int):Option Int:= bif (decide (i5<(List.length v3:Int))) then ( (idx v3 i5).bind fun e10=> (idx s i5).bind fun e12=> aj (decide (e10<e12.1)) fun b14=> bF (!b14) 0 (idx v3 i5) fun e16=> bF (!b14) (0,0) (idx s i5) fun e18=> aj (decide (e18.2<e16)) fun b20=> aj (b14||b20) fun b22=> bif b22 then ( some 5) else ( again6 (IntKind.i64.wrap (i5+1)))) else ( some 0)
def yQ (s:Q5) (v3:Q4):Option Int:= bif ((List.length v3:Int) != (List.length s:Int)) then ( some 1) else ( ar (vC s v3) az 0)
def oX (i102:Int) (again103:Q9→Option Bool) (r156:Q22) (in227:(List Q4)) (again236:Int→Option Bool) (k235:Int):Option Bool:= bif (decide (k235<(List.length in227:Int))) then ( (idx in227 k235).bind fun e240=> (bu r156.1 e240).bind fun r246=> aj (!r246.1) fun b249=> aj (r246.2 != 0) fun b251=> aj (b249||b251) fun b253=> bif b253 then ( some false) else ( again236 (IntKind.i64.wrap (k235+1)))) else ( again103 (r156.1.1,r156.1.2.1,r156.1.2.2.1,r156.1.2.2.2.1.1.1,r156.1.2.2.2.1.1.2.1,r156.1.2.2.2.1.1.2.2,r156.1.2.2.2.1.2,r156.1.2.2.2.2.1.1,r156.1.2.2.2.2.1.2.1.1,r156.1.2.2.2.2.1.2.1.2.1,r156.1.2.2.2.2.1.2.1.2.2,r156.1.2.2.2.2.1.2.2,r156.1.2.2.2.2.2.1.1,r156.1.2.2.2.2.2.1.2,r156.1.2.2.2.2.2.2.1.1.1,r156.1.2.2.2.2.2.2.1.1.2.1,r156.1.2.2.2.2.2.2.1.1.2.2.1,r156.1.2.2.2.2.2.2.1.1.2.2.2.1,r156.1.2.2.2.2.2.2.1.1.2.2.2.2,r156.1.2.2.2.2.2.2.1.2.1.1,r156.1.2.2.2.2.2.2.1.2.1.2.1,r156.1.2.2.2.2.2.2.1.2.1.2.2.1,r156.1.2.2.2.2.2.2.1.2.1.2.2.2.1,r156.1.2.2.2.2.2.2.1.2.1.2.2.2.2,r156.1.2.2.2.2.2.2.1.2.2.1,r156.1.2.2.2.2.2.2.1.2.2.2.1,r156.1.2.2.2.2.2.2.1.2.2.2.2.1,r156.1.2.2.2.2.2.2.1.2.2.2.2.2.1,r156.1.2.2.2.2.2.2.1.2.2.2.2.2.2,r156.1.2.2.2.2.2.2.2.1,r156.1.2.2.2.2.2.2.2.2.1,r156.1.2.2.2.2.2.2.2.2.2.1,r156.1.2.2.2.2.2.2.2.2.2.2.1,r156.1.2.2.2.2.2.2.2.2.2.2.2.1,r156.1.2.2.2.2.2.2.2.2.2.2.2.2,in227,(IntKind.i64.wrap (i102+1))))
def oO (i102:Int) (again103:Q9→Option Bool) (r156:Q22) (in227:(List Q4)):Option Bool:= (cf r156.1).bind fun r230=> bif (r230 != (List.length in227:Int)) then ( some false) else ( ar (oX i102 again103 r156 in227) az 0)
def fi (with_:(Q5×Int×Int×(List Q4))) (c45:Int) (c46:Q5) (c48:Int) (c49:Int) (c50:(List Q4)) (c52:Q4) (c54:Q4) (c56:(List Q1)) (c58:Int) (c59:(List Q4)) (c61:Q4) (c63:Q4) (c65:(List Q1)) (c67:Q4) (c69:Int) (c70:Q6) (c72:Int) (c73:Int) (c74:Q4) (c76:Int) (c77:Q6) (c79:Int) (c80:Int) (c81:Q4) (c83:Int) (c84:Q6) (c86:Int) (c87:Int) (c88:Q4) (c90:Int) (c91:Int) (c92:Int) (c93:Q4) (c95:Q4) (c97:Q4) (in99:(List Q4)) (i102:Int) (again103:Q9→Option Bool) (again115:Q18→Option Bool):Bool×Int→Option Bool:=fun ⟨has113,k114⟩=> bif (decide (k114<(List.length in99:Int))) then ( bF (!has113) [] (idx in99 k114) fun e119=> bF (!has113) [] (idx with_.2.2.2 i102) fun e125=> bF (!has113) default (kC e119 e125) fun r131=> aj (has113||r131) fun b137=> again115 (b137,(IntKind.i64.wrap (k114+1)))) else ( (idx with_.2.2.2 i102).bind fun e139=> (yQ with_.1 e139).bind fun r145=> (idx with_.2.2.2 i102).bind fun e150=> (aZ (c45,c46,c48,((c49,c50,c52),c54),(c56,(c58,c59,c61),c63),(c65,c67),((c69,c70,c72,c73,c74),(c76,c77,c79,c80,c81),(c83,c84,c86,c87,c88)),(c90,c91,c92,(c93,c95,c97))) e150).bind fun r156=> aj (r145==0) fun b181=> aj (!has113) fun b183=> aj (b181&&b183) fun b185=> aj (decide ((Int.tmod (IntKind.i64.wrap with_.2.2.1) 21)≤(List.length in99:Int))) fun b187=> aj (b185&&b187) fun b189=> aj (r145 != 0) fun b191=> aj (r156.2.2 != r145) fun b193=> aj (b193||r156.2.1) fun b195=> aj (b191&&b195) fun b197=> aj (r145==0) fun b199=> aj (r156.2.2==7) fun b201=> aj (b201 != b189) fun b203=> aj (r156.2.2==0) fun b205=> aj (b205==b189) fun b207=> aj (b203||b207) fun b209=> aj (!has113) fun b211=> aj (!b189) fun b213=> aj (b211&&b213) fun b215=> aj (r156.2.1 != b215) fun b217=> aj (b209||b217) fun b219=> aj (b199&&b219) fun b221=> aj (b197||b221) fun b223=> bif b223 then ( some false) else ( aj (fun (s258:(List Q4))=>oO i102 again103 r156 s258) fun kk257=> bif r156.2.1 then ( (idx with_.2.2.2 i102).bind fun e260=> chk (aB (List.length in99+List.length ([e260]:List Q4)) 24)<| kk257 (in99++([e260]:List Q4))) else ( kk257 in99)))
def bX (with_:(Q5×Int×(List Q4)×Q4×Int)) (r5:Bool) (again104:(Int×Q5×Int×Int×(List Q4)×Q4×Q4×(List Q1)×Int×(List Q4)×Q4×Q4×(List Q1)×Q4×Int×Q6×Int×Int×Q4×Int×Q6×Int×Int×Q4×Int×Q6×Int×Int×Q4×Int×Int×Int×Q4×Q4×Q4×Int)→Option Bool):Int×Q5×Int×Int×(List Q4)×Q4×Q4×(List Q1)×Int×(List Q4)×Q4×Q4×(List Q1)×Q4×Int×Q6×Int×Int×Q4×Int×Q6×Int×Int×Q4×Int×Q6×Int×Int×Q4×Int×Int×Int×Q4×Q4×Q4×Int→Option Bool:=fun ⟨c49,c50,c52,c53,c54,c56,c58,c60,c62,c63,c65,c67,c69,c71,c73,c74,c76,c77,c78,c80,c81,c83,c84,c85,c87,c88,c90,c91,c92,c94,c95,c96,c97,c99,c101,i103⟩=> bif (decide (i103<(List.length with_.2.2.1:Int))) then ( (idx with_.2.2.1 i103).bind fun e106=> bif (decide (40<(List.length e106:Int))) then ( some r5) else ( (idx with_.2.2.1 i103).bind fun e115=> (aZ (c49,c50,c52,((c53,c54,c56),c58),(c60,(c62,c63,c65),c67),(c69,c71),((c73,c74,c76,c77,c78),(c80,c81,c83,c84,c85),(c87,c88,c90,c91,c92)),(c94,c95,c96,(c97,c99,c101))) e115).bind fun r121=> again104 (r121.1.1,r121.1.2.1,r121.1.2.2.1,r121.1.2.2.2.1.1.1,r121.1.2.2.2.1.1.2.1,r121.1.2.2.2.1.1.2.2,r121.1.2.2.2.1.2,r121.1.2.2.2.2.1.1,r121.1.2.2.2.2.1.2.1.1,r121.1.2.2.2.2.1.2.1.2.1,r121.1.2.2.2.2.1.2.1.2.2,r121.1.2.2.2.2.1.2.2,r121.1.2.2.2.2.2.1.1,r121.1.2.2.2.2.2.1.2,r121.1.2.2.2.2.2.2.1.1.1,r121.1.2.2.2.2.2.2.1.1.2.1,r121.1.2.2.2.2.2.2.1.1.2.2.1,r121.1.2.2.2.2.2.2.1.1.2.2.2.1,r121.1.2.2.2.2.2.2.1.1.2.2.2.2,r121.1.2.2.2.2.2.2.1.2.1.1,r121.1.2.2.2.2.2.2.1.2.1.2.1,r121.1.2.2.2.2.2.2.1.2.1.2.2.1,r121.1.2.2.2.2.2.2.1.2.1.2.2.2.1,r121.1.2.2.2.2.2.2.1.2.1.2.2.2.2,r121.1.2.2.2.2.2.2.1.2.2.1,r121.1.2.2.2.2.2.2.1.2.2.2.1,r121.1.2.2.2.2.2.2.1.2.2.2.2.1,r121.1.2.2.2.2.2.2.1.2.2.2.2.2.1,r121.1.2.2.2.2.2.2.1.2.2.2.2.2.2,r121.1.2.2.2.2.2.2.2.1,r121.1.2.2.2.2.2.2.2.2.1,r121.1.2.2.2.2.2.2.2.2.2.1,r121.1.2.2.2.2.2.2.2.2.2.2.1,r121.1.2.2.2.2.2.2.2.2.2.2.2.1,r121.1.2.2.2.2.2.2.2.2.2.2.2.2,(IntKind.i64.wrap (i103+1))))) else ( (bu (c49,c50,c52,((c53,c54,c56),c58),(c60,(c62,c63,c65),c67),(c69,c71),((c73,c74,c76,c77,c78),(c80,c81,c83,c84,c85),(c87,c88,c90,c91,c92)),(c94,c95,c96,(c97,c99,c101))) with_.2.2.2.1).bind fun r147=> (cf (c49,c50,c52,((c53,c54,c56),c58),(c60,(c62,c63,c65),c67),(c69,c71),((c73,c74,c76,c77,c78),(c80,c81,c83,c84,c85),(c87,c88,c90,c91,c92)),(c94,c95,c96,(c97,c99,c101)))).bind fun r150=> (aZ (c49,c50,c52,((c53,c54,c56),c58),(c60,(c62,c63,c65),c67),(c69,c71),((c73,c74,c76,c77,c78),(c80,c81,c83,c84,c85),(c87,c88,c90,c91,c92)),(c94,c95,c96,(c97,c99,c101))) with_.2.2.2.1).bind fun r153=> aj (r147.2 != r153.2.2) fun b178=> aj (r147.2==0) fun b180=> aj (r153.2.1==r147.1) fun b182=> aj (b180&&b182) fun b184=> aj (b178||b184) fun b186=> bif b186 then ( some false) else ( (bS (c49,c50,c52,((c53,c54,c56),c58),(c60,(c62,c63,c65),c67),(c69,c71),((c73,c74,c76,c77,c78),(c80,c81,c83,c84,c85),(c87,c88,c90,c91,c92)),(c94,c95,c96,(c97,c99,c101))) with_.2.2.2.1 (Int.tmod (IntKind.i64.wrap with_.2.2.2.2) 2)).bind fun r189=> (cU r153.1 with_.2.2.2.1 (Int.tmod (IntKind.i64.wrap with_.2.2.2.2) 2)).bind fun r192=> (bS r192.1 with_.2.2.2.1 (Int.tmod (IntKind.i64.wrap with_.2.2.2.2) 2)).bind fun r217=> (bS (c49,c50,c52,((c53,c54,c56),c58),(c60,(c62,c63,c65),c67),(c69,c71),((c73,c74,c76,c77,c78),(c80,c81,c83,c84,c85),(c87,c88,c90,c91,c92)),(c94,c95,c96,(c97,c99,c101))) with_.2.2.2.1 (Int.tmod (IntKind.i64.wrap with_.2.2.2.2) 2)).bind fun r220=> (bu (c49,c50,c52,((c53,c54,c56),c58),(c60,(c62,c63,c65),c67),(c69,c71),((c73,c74,c76,c77,c78),(c80,c81,c83,c84,c85),(c87,c88,c90,c91,c92)),(c94,c95,c96,(c97,c99,c101))) with_.2.2.2.1).bind fun r223=> bif (r147.2 != 0) then ( aj (r189.2==r147.2) fun b227=> aj (r5&&b227) fun b229=> aj (r192.2==r147.2) fun b231=> aj (b229&&b231) fun b233=> aj (r217.2==r147.2) fun b235=> aj (b233&&b235) fun b237=> some b237) else ( aj (r223.1==r147.1) fun b239=> aj (r5&&b239) fun b241=> bF b241 default (cf (c49,c50,c52,((c53,c54,c56),c58),(c60,(c62,c63,c65),c67),(c69,c71),((c73,c74,c76,c77,c78),(c80,c81,c83,c84,c85),(c87,c88,c90,c91,c92)),(c94,c95,c96,(c97,c99,c101)))) fun r243=> aj (r243==r150) fun b249=> aj (b241&&b249) fun b251=> aj (r192.2==0) fun b253=> aj (b251&&b253) fun b255=> aj (r217.2==0) fun b257=> aj (b255&&b257) fun b259=> aj (b259&&r217.1) fun b261=> aj (r189.1==r220.1) fun b263=> aj (b261&&b263) fun b265=> aj (r189.2==r220.2) fun b267=> aj (b265&&b267) fun b269=> aj (r189.2==0) fun b271=> aj (b271==r147.1) fun b273=> aj (b269&&b273) fun b275=> some b275)))
def eI (with_:(Q5×Int×(List Q4)×Q4×Int)):Option Bool:= (jz).bind fun r5=> (gi with_.1).bind fun r8=> aj (!r8) fun b11=> aj (decide (20<(List.length with_.2.2.1:Int))) fun b13=> aj (b11||b13) fun b15=> aj (decide (40<(List.length with_.2.2.2.1:Int))) fun b17=> aj (b15||b17) fun b19=> bif b19 then ( some r5) else ( (cT with_.1 ((Int.tmod (IntKind.i64.wrap with_.2.1) 5),100,0,3,500,2)).bind fun r22=> bif (r22.2 != 0) then ( some false) else ( ar (bX with_ r5) az (r22.1.1,r22.1.2.1,r22.1.2.2.1,r22.1.2.2.2.1.1.1,r22.1.2.2.2.1.1.2.1,r22.1.2.2.2.1.1.2.2,r22.1.2.2.2.1.2,r22.1.2.2.2.2.1.1,r22.1.2.2.2.2.1.2.1.1,r22.1.2.2.2.2.1.2.1.2.1,r22.1.2.2.2.2.1.2.1.2.2,r22.1.2.2.2.2.1.2.2,r22.1.2.2.2.2.2.1.1,r22.1.2.2.2.2.2.1.2,r22.1.2.2.2.2.2.2.1.1.1,r22.1.2.2.2.2.2.2.1.1.2.1,r22.1.2.2.2.2.2.2.1.1.2.2.1,r22.1.2.2.2.2.2.2.1.1.2.2.2.1,r22.1.2.2.2.2.2.2.1.1.2.2.2.2,r22.1.2.2.2.2.2.2.1.2.1.1,r22.1.2.2.2.2.2.2.1.2.1.2.1,r22.1.2.2.2.2.2.2.1.2.1.2.2.1,r22.1.2.2.2.2.2.2.1.2.1.2.2.2.1,r22.1.2.2.2.2.2.2.1.2.1.2.2.2.2,r22.1.2.2.2.2.2.2.1.2.2.1,r22.1.2.2.2.2.2.2.1.2.2.2.1,r22.1.2.2.2.2.2.2.1.2.2.2.2.1,r22.1.2.2.2.2.2.2.1.2.2.2.2.2.1,r22.1.2.2.2.2.2.2.1.2.2.2.2.2.2,r22.1.2.2.2.2.2.2.2.1,r22.1.2.2.2.2.2.2.2.2.1,r22.1.2.2.2.2.2.2.2.2.2.1,r22.1.2.2.2.2.2.2.2.2.2.2.1,r22.1.2.2.2.2.2.2.2.2.2.2.2.1,r22.1.2.2.2.2.2.2.2.2.2.2.2.2,0)))
end
end Go.Proofs.YtgcgmclghbebjaaGreat
namespace Go.Proofs.YtgcgmclghbebjaaGreat
open Go.Lib
abbrev Km {R:Type} (X:Cx) (H:List Row) (fn:Func) (K:AV→StB→Option R) (st:StB):Option R:=match mD (tS X ⟨[],H,fn.ntmps⟩ st) fn.results.toList with
 | some rs=>K (sx rs) st
 | none=>none
noncomputable def yT {R:Type} (X:Cx) (fn:Func) (args:List AV) (H:List Row) (st:StB) (K:AV→StB→Option R):Option R:=match fn.body with
 | some body=>ifS (Nat.ble args.length fn.ntmps) (den X [] [] body ⟨[],H,fn.ntmps⟩ (fun e st'=>match e with
  | .ret=>Km X H fn K st'
  | .nrm=>Km X H fn K st'
  | _=>none) ⟨st.c,iC 0 args,st.G,.o⟩) none
 | none=>none
theorem z9 {X:Cx} {f:FuncId} {fn:Func} (hen:cQ X.P f) (hfn:X.P.funcs[f]? =some fn) (hg:X.gls=[]):(⟨f,fun args H st K=>yT X fn args H st K⟩:Inl).Ok X.P:=by
 refine ⟨hen,fun {R} r args H st K ρ Φ w hs h=> ?_⟩
 have h':yT X fn args H st K=some r:=h
 unfold yT at h'
 split at h'
 ·rename_i body hb
  obtain ⟨h1,h2⟩:=an h'
  refine iL hfn hb rfl (by rw [AV.aH];exact h1) ?_
  have hE:ai ρ [] (iC 0 args) []=iota 0 (AV.ah ρ args):=by
   show al.env ρ [] (iC 0 args)++[]=_
   rw [qp,List.append_nil]
  rw [← hE]
  have hΓ: ∀ it∈X.Γ,it∈Φ:=fun it hit=>by
   unfold Cx.Γ at hit
   rw [hg] at hit;cases hit
  refine dj (X:=X) (tb:=[]) (tp:=[]) (D:=[]) (fr:=⟨[],H,fn.ntmps⟩) (st:=⟨st.c,iC 0 args,st.G,.o⟩) hΓ (fun _ h=>nomatch h) (fun _ h=>nomatch h) body hs h2 (fun x st' ρ' w' a1 a2 a3 a4=> ?_)
  have fin:Km X H fn K st'=some r→At (BP X.P fn (fun v w'=> ∃ (ρ':Nms) (st':StB) (av:AV),K av st'=some r∧ay st.c ρ ρ'∧st.c≤st'.c∧av.val ρ'=v∧Sat (items ρ' [] st'.G++(items ρ' [] H++Φ)) w') (fun _ _=>False)) .ret fn.ntmps [] (ai ρ' [] st'.E []) w':=fun h=>by
   unfold Km at h
   split at h
   ·rename_i rs hrs
    exact Mj (fr:=⟨[],H,fn.ntmps⟩) a4 hrs ⟨ρ',st',sx rs,h,a1,a2,rfl,a4⟩
   ·cases h
  cases x with
  | nrm=>exact fin a3
  | ret=>exact fin a3
  | ext i=>cases a3
  | gto l=>cases a3
  | pan v=>cases a3
  | panE v=>cases a3
 ·cases h'
end Go.Proofs.YtgcgmclghbebjaaGreat
namespace Go.Proofs.YtgcgmclghbebjaaGreat
open Go.Proofs
namespace I188
theorem tiI:TI Tryz.prog 290 2 16 (.agg #[(.int .u8 0),(.int .i64 0)]):=by unfold TI;kernel_rfl
set_option maxRecDepth 100000 in
theorem kB {w w':World} {p q:Option Addr} {n c m mc:Nat} {v':Value} (hn:n≤c) (hm:0<m) (hr:(Builtin.append_ #[177,177] 177 #[.slice p n c,.slice q m mc]).run Tryz.prog w= .ok v' w'):
  ez Tryz.prog 188 [.slice p n c,.int .i64 (n:Int),.slice q m mc] w (fun r w1=>r=v'∧w1=w'):=by
 have z1:((m:Int)==0)=false:=by simp;omega
 have z2:((n:Int)==(n:Int))=true:=by simp
 obtain ⟨vc,hcut⟩: ∃ vc,Ge (.slice p n c) (n:Int) ((n:Nat):Int) 2 vc:=⟨_,_,_,_,rfl,by omega,Int.le_refl _,Int.le_refl _,hn,rfl⟩
 refine iL Tryz.func188 rfl Tryz.ntmps188 rfl ?_
 refine aW ?_
 refine aV ?_
 refine aw (cB Opd.c) rfl rfl rfl rfl<| ?_
 refine bD ?_
 refine aM ?_
 refine aW ?_
 refine aV ?_
 refine aw (au (Opd.t rfl)) rfl rfl rfl rfl<|aw (au (Opd.t rfl)) rfl rfl rfl rfl<|aw (rq (lo:=some (.tmp 11)) (hi:=none) Tryz.underlying177 tiI (Opd.t rfl) (fun _=>⟨_,_,rfl⟩) ⟨_,(Opd.t rfl)⟩ rfl (fun _=>hcut)) rfl rfl rfl rfl<| ?_
 refine bD ?_
 refine aM ?_
 refine aW ?_
 refine aV ?_
 refine aw (au (Opd.t rfl)) rfl rfl rfl rfl<|aw (iU Tryz.underlying177 (Opd.t rfl) (fun _=>⟨_,_,rfl⟩)) rfl rfl rfl rfl<|aw (cB (Opd.t rfl)) rfl rfl rfl rfl<| ?_
 refine bD ?_
 refine aM ?_
 refine aW ?_
 refine aW ?_
 refine aV ?_
 refine aw (au (Opd.t rfl)) rfl rfl rfl rfl<|aw (Run.eqB (nN (Opd.t rfl) Opd.c) z1) rfl rfl rfl rfl<| ?_
 refine bD ?_
 refine aM ?_
 refine gC (Opd.t rfl) (fun h=>by cases h) (fun _=> ?_)
 refine lR ?_
 refine aM ?_
 refine aW ?_
 refine aV ?_
 refine aw (au (Opd.t rfl)) rfl rfl rfl rfl<|aw (iU Tryz.underlying177 (Opd.t rfl) (fun _=>⟨_,_,rfl⟩)) rfl rfl rfl rfl<|aw (cB (Opd.t rfl)) rfl rfl rfl rfl<| ?_
 refine bD ?_
 refine aM ?_
 refine aW ?_
 refine aW ?_
 refine aV ?_
 refine aw (au (Opd.t rfl)) rfl rfl rfl rfl<|aw (au (Opd.t rfl)) rfl rfl rfl rfl<|aw (Run.eqB (nN (Opd.t rfl) (Opd.t rfl)) z2) rfl rfl rfl rfl<| ?_
 refine bD ?_
 refine aM ?_
 refine gC (Opd.t rfl) (fun _=> ?_) (fun h=>by cases h)
 refine aW ?_
 refine aV ?_
 refine aw (au (Opd.t rfl)) rfl rfl rfl rfl<|aw (au (Opd.t rfl)) rfl rfl rfl rfl<| ?_
 refine ta (yk (Opd.t rfl) (Opd.t rfl) hr) rfl rfl rfl rfl ?_
 refine aw (cB (Opd.t rfl)) rfl rfl rfl rfl<| ?_
 refine bD ?_
 refine aM ?_
 refine s8 ?_
 refine rP<| ?_
 refine JI rfl (iw.t rfl) ?_
 exact ⟨rfl,rfl⟩
set_option maxRecDepth 100000 in
theorem rQ {w:World} {b vb n c i m mc:Nat} {cur curv:Array Value} {ev:TypeId} (hin:i<n) (hm:0<m) (hroom:n+m≤c) (hc:c≤9223372036854775807) (hne:vb≠b)
  (hb:w.heap[b]? =some (.cells cur 290 (0,0))) (hsz:cur.size=c*2) (hv:w.heap[vb]? =some (.cells curv ev (0,0))) (hvs:m*2≤curv.size) (h1: ∀ v∈cur.toList.take (n*2),v.oneCell'=true) (h1v: ∀ v∈curv.toList.take (m*2),v.oneCell'=true):
  ez Tryz.prog 188 [.slice (some ⟨b,0,none⟩) n c,.int .i64 (i:Int),.slice (some ⟨vb,0,none⟩) m mc] w (fun r w1=>r= .slice (some ⟨b,0,none⟩) (n+m) c∧Chg [b] w w1∧ ∃ cur':Array Value,w1.heap[b]? =some (.cells cur' 290 (0,0))∧cur'.size=c*2∧cur'.toList.take ((n+m)*2)=(cur.toList.take (n*2)).take (i*2)++curv.toList.take (m*2)++(cur.toList.take (n*2)).drop (i*2)):=by
 have z1:((m:Int)==0)=false:=by simp;omega
 have z2:((i:Int)==(n:Int))=false:=by simp;omega
 have a1:IntKind.i64.wrap ((n:Int)+(m:Int))=((n+m:Nat):Int):=by rw [w64 (by omega)];omega
 have a2:IntKind.i64.wrap ((i:Int)+(m:Int))=((i+m:Nat):Int):=by rw [w64 (by omega)];omega
 have a3:IntKind.i64.wrap (((n+m:Nat):Int)-(i:Int))=((n+m-i:Nat):Int):=by rw [w64 (by omega)];omega
 have hl:cur.toList.length=c*2:=by rw [Array.length_toList,hsz]
 have hvl:(curv.toList.take (m*2)).length=m*2:=by rw [List.length_take,Array.length_toList];omega
 have z3:decide ((c:Int)<((n+m:Nat):Int))=false:=by simp;omega
 have hC:Chg [b] w w:=(Ext.refl w).chg _
 have hov: ∀ lb cb,(callFunc 193 [.slice (some ⟨vb,0,none⟩) m mc,.slice (some ⟨b,0+(i+m)*2,none⟩) lb cb].toArray).run Tryz.prog w= .ok (.value (.bool false)) w:=fun lb cb=>by
  rw [run_callFunc_extern Tryz.func193 (by kernel_rfl) (by kernel_rfl) (by kernel_rfl) (e:=Extern.SlicesOverlaps.overlaps #[177,177] #[4]) (by kernel_rfl)]
  have:=Lib.run_overlaps_apart (P:=Tryz.prog) w 177 4 290 Tryz.underlying177 2 (fun w=>by obtain ⟨i',hi',hs',_,_⟩:=tiI.out;simp [sizeOf,typeInfo,hi',hs']) ⟨vb,0,none⟩ ⟨b,0+(i+m)*2,none⟩ m mc lb cb hne ev 290 curv.size cur.size (by unfold World.shape?;rw [hv]) (by unfold World.shape?;rw [hb]) (by omega) (by unfold World.frozen?;rw [hv];rfl) (by unfold World.frozen?;rw [hv];simp)
  show ((Extern.SlicesOverlaps.overlaps #[177,177] #[4] #[.slice (some ⟨vb,0,none⟩) m mc,.slice (some ⟨b,0+(i+m)*2,none⟩) lb cb]).run Tryz.prog w).andThen _=_
  rw [this];rfl
 obtain ⟨hR1s,hR2s,hR2t⟩:=Ly (l:=cur.toList) (vs:=curv.toList.take (m*2)) (a:=i*2) (b:=m*2) (n:=n*2) (c:=c*2) (by omega) hvl (by omega) hl
 have hcl:((cur.toList.drop (i*2)).take (n*2-i*2)).length=n*2-i*2:=by rw [List.length_take,List.length_drop];omega
 obtain ⟨R1,hR1⟩: ∃ R1:Array Value,R1=(cur.toList.take (i*2+m*2)++(cur.toList.drop (i*2)).take (n*2-i*2)++cur.toList.drop (i*2+m*2+((cur.toList.drop (i*2)).take (n*2-i*2)).length)).toArray:=⟨_,rfl⟩
 have hR1l:R1.toList=cur.toList.take (i*2+m*2)++(cur.toList.drop (i*2)).take (n*2-i*2)++cur.toList.drop (i*2+m*2+((cur.toList.drop (i*2)).take (n*2-i*2)).length):=by rw [hR1]
 rw [← hR1l] at hR1s hR2s hR2t
 obtain ⟨R2,hR2⟩: ∃ R2:Array Value,R2=(R1.toList.take (i*2)++curv.toList.take (m*2)++R1.toList.drop (i*2+(curv.toList.take (m*2)).length)).toArray:=⟨_,rfl⟩
 have hR2l:R2.toList=R1.toList.take (i*2)++curv.toList.take (m*2)++R1.toList.drop (i*2+(curv.toList.take (m*2)).length):=by rw [hR2]
 rw [← hR2l] at hR2s hR2t
 rw [Array.length_toList] at hR1s hR2s
 rw [show n*2+m*2=(n+m)*2 by omega] at hR2t
 have run1: ∀ W:World,W.heap[b]? =some (.cells cur 290 (0,0))→ ∀ ty dc sc,(Builtin.copy_ #[177,177] ty #[.slice (some ⟨b,0+(i+m)*2,none⟩) (n+m-(i+m)) dc,.slice (some ⟨b,0+i*2,none⟩) (n+m-i) sc]).run Tryz.prog W= .ok (goInt (Nat.min (n+m-i) (n+m-(i+m)))) (W.setRow b R1):=fun W hb ty dc sc=>by
  have hmin:Nat.min (n+m-i) (n+m-(i+m))=n-i:=by simp only [Nat.min_def];split <;> omega
  rw [hR1,show i*2+m*2=0+(i+m)*2 by omega]
  exact kT Tryz.underlying177 tiI (by rw [hcl,hmin];omega) (cell_of_heap hb _ _ (by rw [hcl,Nat.zero_add])) hb (by rw [hcl];omega) (fun v hv=>h1 v (by
   rw [← List.drop_take] at hv
   exact List.mem_of_mem_drop hv))
 have run2: ∀ W:World,W.heap[b]? =some (.cells R1 290 (0,0))→W.heap[vb]? =some (.cells curv ev (0,0))→ ∀ ty dc,(Builtin.copy_ #[177,177] ty #[.slice (some ⟨b,0+i*2,none⟩) (n+m-i) dc,.slice (some ⟨vb,0,none⟩) m mc]).run Tryz.prog W= .ok (goInt (Nat.min m (n+m-i))) (W.setRow b R2):=fun W hb hv ty dc=>by
  have hmin:Nat.min m (n+m-i)=m:=by simp only [Nat.min_def];split <;> omega
  rw [hR2,Nat.zero_add]
  exact kT Tryz.underlying177 tiI (by rw [hvl,hmin]) (cell_of_heap hv _ _ (by rw [hvl,List.drop_zero])) hb (by rw [hvl];omega) h1v
 clear hR1 hR2 hR1l hR2l
 refine iL Tryz.func188 rfl Tryz.ntmps188 rfl ?_
 refine aW ?_
 refine aV ?_
 refine aw (cB Opd.c) rfl rfl rfl rfl<| ?_
 refine bD ?_
 refine aM ?_
 refine aW ?_
 refine aV ?_
 refine aw (au (Opd.t rfl)) rfl rfl rfl rfl<|aw (au (Opd.t rfl)) rfl rfl rfl rfl<|aw (jg Tryz.underlying177 tiI (Opd.t rfl) (Opd.t rfl) (by omega) (by omega) (by omega)) rfl rfl rfl rfl<| ?_
 refine bD ?_
 refine aM ?_
 refine aW ?_
 refine aV ?_
 refine aw (au (Opd.t rfl)) rfl rfl rfl rfl<|aw (iU Tryz.underlying177 (Opd.t rfl) (fun _=>⟨_,_,rfl⟩)) rfl rfl rfl rfl<|aw (cB (Opd.t rfl)) rfl rfl rfl rfl<| ?_
 refine bD ?_
 refine aM ?_
 refine aW ?_
 refine aW ?_
 refine aV ?_
 refine aw (au (Opd.t rfl)) rfl rfl rfl rfl<|aw (Run.eqB (nN (Opd.t rfl) Opd.c) z1) rfl rfl rfl rfl<| ?_
 refine bD ?_
 refine aM ?_
 refine gC (Opd.t rfl) (fun h=>by cases h) (fun _=> ?_)
 refine lR ?_
 refine aM ?_
 refine aW ?_
 refine aV ?_
 refine aw (au (Opd.t rfl)) rfl rfl rfl rfl<|aw (iU Tryz.underlying177 (Opd.t rfl) (fun _=>⟨_,_,rfl⟩)) rfl rfl rfl rfl<|aw (cB (Opd.t rfl)) rfl rfl rfl rfl<| ?_
 refine bD ?_
 refine aM ?_
 refine aW ?_
 refine aW ?_
 refine aV ?_
 refine aw (au (Opd.t rfl)) rfl rfl rfl rfl<|aw (au (Opd.t rfl)) rfl rfl rfl rfl<|aw (Run.eqB (nN (Opd.t rfl) (Opd.t rfl)) z2) rfl rfl rfl rfl<| ?_
 refine bD ?_
 refine aM ?_
 refine gC (Opd.t rfl) (fun h=>by cases h) (fun _=> ?_)
 refine lR ?_
 refine aM ?_
 refine aW ?_
 refine aW ?_
 refine aV ?_
 refine aw (au (Opd.t rfl)) rfl rfl rfl rfl<|aw (au (Opd.t rfl)) rfl rfl rfl rfl<|aw (Run.eqI (lY (Opd.t rfl) (Opd.t rfl)) a1) rfl rfl rfl rfl<|aw (au (Opd.t rfl)) rfl rfl rfl rfl<|aw (Cn Tryz.underlying177 (Opd.t rfl)) rfl rfl rfl rfl<|aw (Run.eqB (BT (Opd.t rfl) (Opd.t rfl)) z3) rfl rfl rfl rfl<| ?_
 refine bD ?_
 refine aM ?_
 refine gC (Opd.t rfl) (fun h=>by cases h) (fun _=> ?_)
 refine lR ?_
 refine aM ?_
 refine aW ?_
 refine aV ?_
 refine aw (au (Opd.t rfl)) rfl rfl rfl rfl<|aw (au (Opd.t rfl)) rfl rfl rfl rfl<|aw (au (Opd.t rfl)) rfl rfl rfl rfl<|aw (Run.eqI (lY (Opd.t rfl) (Opd.t rfl)) a1) rfl rfl rfl rfl<|aw (Eu Tryz.underlying177 tiI (Opd.t rfl) (Opd.t rfl) (by omega)) rfl rfl rfl rfl<|aw (cB (Opd.t rfl)) rfl rfl rfl rfl<| ?_
 refine bD ?_
 refine aM ?_
 refine aW ?_
 refine aW ?_
 refine aV ?_
 refine aw (au (Opd.t rfl)) rfl rfl rfl rfl<|aw (au (Opd.t rfl)) rfl rfl rfl rfl<|aw (au (Opd.t rfl)) rfl rfl rfl rfl<|aw (au (Opd.t rfl)) rfl rfl rfl rfl<|aw (Run.eqI (lY (Opd.t rfl) (Opd.t rfl)) a2) rfl rfl rfl rfl<|aw (jg Tryz.underlying177 tiI (Opd.t rfl) (Opd.t rfl) (by omega) (by omega) (by omega)) rfl rfl rfl rfl<|aw (Jm (xs:=[(.tmp 61),(.tmp 66)]) (.cons (Opd.t rfl) (.cons (Opd.t rfl) .nil)) (hov _ _)) rfl rfl rfl rfl<|aw (Ek (Opd.t rfl)) rfl rfl rfl rfl<| ?_
 refine bD ?_
 refine aM ?_
 refine gC (Opd.t rfl) (fun _=> ?_) (fun h=>by cases h)
 refine aW ?_
 refine mC [0,0,0,6,9,0,0,96,144] (.q 0 0 (.q 1 1 (.q 2 3 (.q 3 7 (.q 4 15 (.q 5 31 (.q 6 63 (.q 7 127 (.l 8 255 .nil))))))))) (by kernel_rfl) (by kernel_rfl) ?_
 intro w1 hx2
 replace hb:=(hx2.block _ (Array.getElem?_eq_some_iff.1 hb).1).trans hb
 replace hv:=(hx2.block _ (Array.getElem?_eq_some_iff.1 hv).1).trans hv
 replace hC:=hC.trans (hx2.chg _)
 refine dU (fun _=>(au (Opd.t rfl))) rfl rfl rfl rfl<|dU (fun _=>(au (Opd.t rfl))) rfl rfl rfl rfl<|dU (fun _=>(au (Opd.t rfl))) rfl rfl rfl rfl<|dU (fun _=>(Run.eqI (lY (Opd.t rfl) (Opd.t rfl)) a2)) rfl rfl rfl rfl<|dU (fun _=>(jg Tryz.underlying177 tiI (Opd.t rfl) (Opd.t rfl) (by omega) (by omega) (by omega))) rfl rfl rfl rfl<|dU (fun _=>(au (Opd.t rfl))) rfl rfl rfl rfl<|dU (fun _=>(au (Opd.t rfl))) rfl rfl rfl rfl<|dU (fun _=>(jg Tryz.underlying177 tiI (Opd.t rfl) (Opd.t rfl) (by omega) (by omega) (by omega))) rfl rfl rfl rfl<| ?_
 refine HQ (pend':=[]) rfl (by kernel_rfl) ?_
 refine ta (ou (Opd.t rfl) (Opd.t rfl) (run1 _ hb _ _ _)) rfl rfl rfl rfl ?_
 replace hb:=setRow_heap _ b cur R1 290 (0,0) hb
 replace hv:=(setRow_other _ b vb R1 hne).trans hv
 replace hC:=hC.trans (mZ b R1)
 refine bD ?_
 refine O8 Ey ?_
 refine L6 ?_
 refine aM ?_
 refine aW ?_
 refine aV ?_
 refine aw (au (Opd.t rfl)) rfl rfl rfl rfl<|aw (au (Opd.t rfl)) rfl rfl rfl rfl<|aw (jg Tryz.underlying177 tiI (Opd.t rfl) (Opd.t rfl) (by omega) (by omega) (by omega)) rfl rfl rfl rfl<|aw (au (Opd.t rfl)) rfl rfl rfl rfl<| ?_
 refine ta (ou (Opd.t rfl) (Opd.t rfl) (run2 _ hb hv _ _)) rfl rfl rfl rfl ?_
 replace hb:=setRow_heap _ b R1 R2 290 (0,0) hb
 replace hC:=hC.trans (mZ b R2)
 refine bD ?_
 refine aM ?_
 refine aW ?_
 refine aV ?_
 refine aw (au (Opd.t rfl)) rfl rfl rfl rfl<|aw (cB (Opd.t rfl)) rfl rfl rfl rfl<| ?_
 refine bD ?_
 refine aM ?_
 refine s8 ?_
 refine rP<| ?_
 refine JI rfl (iw.t rfl) ?_
 exact ⟨rfl,hC,R2,hb,hR2s,hR2t⟩
set_option maxRecDepth 100000 in
theorem Ta {w:World} {b vb n c i m mc:Nat} {cur curv:Array Value} {ev:TypeId} (hin:i<n) (hm:0<m) (hnc:n≤c) (hroom:c<n+m) (hbig:(n+m)*16≤140737488355328)
  (hb:w.heap[b]? =some (.cells cur 290 (0,0))) (hsz:cur.size=c*2) (hv:w.heap[vb]? =some (.cells curv ev (0,0))) (hvs:m*2≤curv.size) (h1: ∀ v∈cur.toList.take (n*2),v.oneCell'=true) (h1v: ∀ v∈curv.toList.take (m*2),v.oneCell'=true):
  ez Tryz.prog 188 [.slice (some ⟨b,0,none⟩) n c,.int .i64 (i:Int),.slice (some ⟨vb,0,none⟩) m mc] w (fun r w1=>r= .slice (some ⟨w.heap.size,0,none⟩) (n+m) (grownCap w (n+m) c 290)∧Chg [w.heap.size] w w1∧ ∃ cur':Array Value,w1.heap[w.heap.size]? =some (.cells cur' 290 (0,0))∧cur'.size=grownCap w (n+m) c 290*2∧cur'.toList.take ((n+m)*2)=(cur.toList.take (n*2)).take (i*2)++curv.toList.take (m*2)++(cur.toList.take (n*2)).drop (i*2)):=by
 have z1:((m:Int)==0)=false:=by simp;omega
 have z2:((i:Int)==(n:Int))=false:=by simp;omega
 have a1:IntKind.i64.wrap ((n:Int)+(m:Int))=((n+m:Nat):Int):=by rw [w64 (by omega)];omega
 have a2:IntKind.i64.wrap ((i:Int)+(m:Int))=((i+m:Nat):Int):=by rw [w64 (by omega)];omega
 have a3:IntKind.i64.wrap (((n+m:Nat):Int)-(i:Int))=((n+m-i:Nat):Int):=by rw [w64 (by omega)];omega
 have hl:cur.toList.length=c*2:=by rw [Array.length_toList,hsz]
 have hvl:(curv.toList.take (m*2)).length=m*2:=by rw [List.length_take,Array.length_toList];omega
 have z3:decide ((c:Int)<((n+m:Nat):Int))=true:=by simp;omega
 have hbN:b≠w.heap.size:=by have:=(Array.getElem?_eq_some_iff.1 hb).1;omega
 have hvN:vb≠w.heap.size:=by have:=(Array.getElem?_eq_some_iff.1 hv).1;omega
 obtain ⟨i0,hi0,hs0,hb0,hz0⟩:=tiI.out
 have hcn:(cur.toList.take (n*2)).length=n*2:=by rw [List.length_take];omega
 have hci:((cur.toList.take (n*2)).take (i*2)).length=i*2:=by rw [List.length_take];omega
 have hold:(Builtin.firstCells i0.size i (.slice (some ⟨b,0,none⟩) i c)).run Tryz.prog w.drew= .ok ((cur.toList.take (n*2)).take (i*2)).toArray w.drew:=by
  rw [hs0]
  exact run_firstCells_some w.drew 2 i ⟨b,0,none⟩ i c _ (by rw [hci]) (cell_of_heap (w:=w.drew) hb 0 _ (by rw [hci,List.drop_zero,List.take_take,Nat.min_eq_left (by omega)]))
 have hrz0:=Lib.run_append_grow_zeros (P:=Tryz.prog) w 177 3 177 290 i0 _ .i64 .i64 Tryz.underlying177 Tryz.underlying3 hi0 hz0 (some ⟨b,0,none⟩) i c _ hold (n+m-i) (by omega) (by omega) (by omega) (by omega) (by rw [hb0];omega) (by rw [hb0];exact growslice_fits (by omega) (by rw [show i+(n+m-i)=n+m by omega];exact hbig))
 rw [show i+(n+m-i)=n+m by omega] at hrz0
 obtain ⟨G,hG⟩: ∃ G,G=grownCap w (n+m) c 290:=⟨_,rfl⟩
 have hGn:n+m≤G:=by rw [hG];exact grownCap_ge w _ _ _
 have hG63:G≤9223372036854775807:=by
  have:=grownCap_le_maxLen w (n+m) c 290 (by unfold maxLen;omega)
  rw [← hG] at this
  unfold maxLen at this
  omega
 rw [← hG] at hrz0 ⊢
 obtain ⟨zz,hzz⟩: ∃ zz:List Value,zz=(Builtin.zeroCells ((.agg #[(.int .u8 0),(.int .i64 0)]):Value).cells (n+m-i)++Builtin.zeroCells ((.agg #[(.int .u8 0),(.int .i64 0)]):Value).cells (G-(n+m))).toList:=⟨_,rfl⟩
 have hzl:zz.length=(G-i)*2:=by
  have hz2:((.agg #[(.int .u8 0),(.int .i64 0)]):Value).cells.size=2:=rfl
  rw [hzz,Array.length_toList,Array.size_append,size_zeroCells,size_zeroCells,hz2];omega
 obtain ⟨R0,hR0⟩: ∃ R0:Array Value,R0=((cur.toList.take (n*2)).take (i*2)).toArray++Builtin.zeroCells ((.agg #[(.int .u8 0),(.int .i64 0)]):Value).cells (n+m-i)++Builtin.zeroCells ((.agg #[(.int .u8 0),(.int .i64 0)]):Value).cells (G-(n+m)):=⟨_,rfl⟩
 rw [← hR0] at hrz0
 have hR0l:R0.toList=(cur.toList.take (n*2)).take (i*2)++zz:=by rw [hR0,hzz];simp
 have hR0s:R0.size=G*2:=by
  have:=congrArg List.length hR0l
  rw [Array.length_toList,List.length_append,hci,hzl] at this
  omega
 have hrz:(Builtin.append_ #[177,3] 177 #[.slice (some ⟨b,0,none⟩) i c,.int .i64 ((n+m-i:Nat):Int)]).run Tryz.prog w= .ok (.slice (some ⟨w.heap.size,0,none⟩) (n+m) G) (w.drew.alloc (.cells R0 290)):=hrz0
 obtain ⟨g1,g2,g3⟩:=OJ (l:=cur.toList.take (n*2)) (vs:=curv.toList.take (m*2)) (z:=zz) (a:=i*2) (b:=m*2) (n:=n*2) (by omega) hvl hcn (by rw [hzl];omega)
 rw [← hR0l] at g1 g2 g3
 obtain ⟨R1,hR1⟩: ∃ R1:Array Value,R1=(R0.toList.take (i*2)++curv.toList.take (m*2)++R0.toList.drop (i*2+(curv.toList.take (m*2)).length)).toArray:=⟨_,rfl⟩
 have hR1l:R1.toList=R0.toList.take (i*2)++curv.toList.take (m*2)++R0.toList.drop (i*2+(curv.toList.take (m*2)).length):=by rw [hR1]
 rw [← hR1l] at g1 g2 g3
 have hdl:((cur.toList.take (n*2)).drop (i*2)).length=n*2-i*2:=by rw [List.length_drop,hcn]
 obtain ⟨R2,hR2⟩: ∃ R2:Array Value,R2=(R1.toList.take (i*2+m*2)++(cur.toList.take (n*2)).drop (i*2)++R1.toList.drop (i*2+m*2+((cur.toList.take (n*2)).drop (i*2)).length)).toArray:=⟨_,rfl⟩
 have hR2l:R2.toList=R1.toList.take (i*2+m*2)++(cur.toList.take (n*2)).drop (i*2)++R1.toList.drop (i*2+m*2+((cur.toList.take (n*2)).drop (i*2)).length):=by rw [hR2]
 rw [← hR2l] at g2 g3
 rw [Array.length_toList,Array.length_toList,hR0s] at g1 g2
 rw [show n*2+m*2=(n+m)*2 by omega] at g3
 have hR2s:=g2
 have hR2t:=g3
 have run1: ∀ W:World,W.heap[w.heap.size]? =some (.cells R0 290 (0,0))→W.heap[vb]? =some (.cells curv ev (0,0))→ ∀ ty dc,(Builtin.copy_ #[177,177] ty #[.slice (some ⟨w.heap.size,0+i*2,none⟩) (n+m-i) dc,.slice (some ⟨vb,0,none⟩) m mc]).run Tryz.prog W= .ok (goInt (Nat.min m (n+m-i))) (W.setRow w.heap.size R1):=fun W hN hv ty dc=>by
  have hmin:Nat.min m (n+m-i)=m:=by simp only [Nat.min_def];split <;> omega
  rw [hR1,Nat.zero_add]
  exact kT Tryz.underlying177 tiI (by rw [hvl,hmin]) (cell_of_heap hv _ _ (by rw [hvl,List.drop_zero])) hN (by rw [hvl];omega) h1v
 have run2: ∀ W:World,W.heap[w.heap.size]? =some (.cells R1 290 (0,0))→W.heap[b]? =some (.cells cur 290 (0,0))→ ∀ ty dc sc,(Builtin.copy_ #[177,177] ty #[.slice (some ⟨w.heap.size,0+(i+m)*2,none⟩) (n+m-(i+m)) dc,.slice (some ⟨b,0+i*2,none⟩) (n-i) sc]).run Tryz.prog W= .ok (goInt (Nat.min (n-i) (n+m-(i+m)))) (W.setRow w.heap.size R2):=fun W hN hb ty dc sc=>by
  have hmin:Nat.min (n-i) (n+m-(i+m))=n-i:=by simp only [Nat.min_def];split <;> omega
  rw [hR2,show i*2+m*2=0+(i+m)*2 by omega]
  exact kT Tryz.underlying177 tiI (by rw [hdl,hmin];omega) (cell_of_heap hb _ _ (by rw [hdl,Nat.zero_add,List.drop_take])) hN (by rw [hdl];omega) (fun v hv=>h1 v (List.mem_of_mem_drop hv))
 have hC:Chg [w.heap.size] w (w.drew.alloc (.cells R0 290)):=⟨rfl,rfl,rfl,by simp,fun b hb _=>heap_alloc_old w.drew _ hb⟩
 clear hR1 hR2 hR1l hR2l hR0 hR0l hzz hzl g1 g2 g3 hrz0 hold
 refine iL Tryz.func188 rfl Tryz.ntmps188 rfl ?_
 refine aW ?_
 refine aV ?_
 refine aw (cB Opd.c) rfl rfl rfl rfl<| ?_
 refine bD ?_
 refine aM ?_
 refine aW ?_
 refine aV ?_
 refine aw (au (Opd.t rfl)) rfl rfl rfl rfl<|aw (au (Opd.t rfl)) rfl rfl rfl rfl<|aw (jg Tryz.underlying177 tiI (Opd.t rfl) (Opd.t rfl) (by omega) (by omega) (by omega)) rfl rfl rfl rfl<| ?_
 refine bD ?_
 refine aM ?_
 refine aW ?_
 refine aV ?_
 refine aw (au (Opd.t rfl)) rfl rfl rfl rfl<|aw (iU Tryz.underlying177 (Opd.t rfl) (fun _=>⟨_,_,rfl⟩)) rfl rfl rfl rfl<|aw (cB (Opd.t rfl)) rfl rfl rfl rfl<| ?_
 refine bD ?_
 refine aM ?_
 refine aW ?_
 refine aW ?_
 refine aV ?_
 refine aw (au (Opd.t rfl)) rfl rfl rfl rfl<|aw (Run.eqB (nN (Opd.t rfl) Opd.c) z1) rfl rfl rfl rfl<| ?_
 refine bD ?_
 refine aM ?_
 refine gC (Opd.t rfl) (fun h=>by cases h) (fun _=> ?_)
 refine lR ?_
 refine aM ?_
 refine aW ?_
 refine aV ?_
 refine aw (au (Opd.t rfl)) rfl rfl rfl rfl<|aw (iU Tryz.underlying177 (Opd.t rfl) (fun _=>⟨_,_,rfl⟩)) rfl rfl rfl rfl<|aw (cB (Opd.t rfl)) rfl rfl rfl rfl<| ?_
 refine bD ?_
 refine aM ?_
 refine aW ?_
 refine aW ?_
 refine aV ?_
 refine aw (au (Opd.t rfl)) rfl rfl rfl rfl<|aw (au (Opd.t rfl)) rfl rfl rfl rfl<|aw (Run.eqB (nN (Opd.t rfl) (Opd.t rfl)) z2) rfl rfl rfl rfl<| ?_
 refine bD ?_
 refine aM ?_
 refine gC (Opd.t rfl) (fun h=>by cases h) (fun _=> ?_)
 refine lR ?_
 refine aM ?_
 refine aW ?_
 refine aW ?_
 refine aV ?_
 refine aw (au (Opd.t rfl)) rfl rfl rfl rfl<|aw (au (Opd.t rfl)) rfl rfl rfl rfl<|aw (Run.eqI (lY (Opd.t rfl) (Opd.t rfl)) a1) rfl rfl rfl rfl<|aw (au (Opd.t rfl)) rfl rfl rfl rfl<|aw (Cn Tryz.underlying177 (Opd.t rfl)) rfl rfl rfl rfl<|aw (Run.eqB (BT (Opd.t rfl) (Opd.t rfl)) z3) rfl rfl rfl rfl<| ?_
 refine bD ?_
 refine aM ?_
 refine gC (Opd.t rfl) (fun _=> ?_) (fun h=>by cases h)
 refine aW ?_
 refine aV ?_
 refine aw (au (Opd.t rfl)) rfl rfl rfl rfl<|aw (au (Opd.t rfl)) rfl rfl rfl rfl<|aw (Eu Tryz.underlying177 tiI (Opd.t rfl) (Opd.t rfl) (by omega)) rfl rfl rfl rfl<|aw (au (Opd.t rfl)) rfl rfl rfl rfl<|aw (au (Opd.t rfl)) rfl rfl rfl rfl<|aw (Run.eqI (lY (Opd.t rfl) (Opd.t rfl)) a1) rfl rfl rfl rfl<|aw (au (Opd.t rfl)) rfl rfl rfl rfl<|aw (Run.eqI (HA (Opd.t rfl) (Opd.t rfl)) a3) rfl rfl rfl rfl<| ?_
 refine ta (yk (Opd.t rfl) (Opd.t rfl) hrz) rfl rfl rfl rfl ?_
 have hN:=heap_alloc_new w.drew (.cells R0 290)
 replace hb:=(heap_alloc_old w.drew (.cells R0 290) (Array.getElem?_eq_some_iff.1 hb).1).trans hb
 replace hv:=(heap_alloc_old w.drew (.cells R0 290) (Array.getElem?_eq_some_iff.1 hv).1).trans hv
 refine aw (cB (Opd.t rfl)) rfl rfl rfl rfl<| ?_
 refine bD ?_
 refine aM ?_
 refine aW ?_
 refine aV ?_
 refine aw (au (Opd.t rfl)) rfl rfl rfl rfl<|aw (au (Opd.t rfl)) rfl rfl rfl rfl<|aw (jg Tryz.underlying177 tiI (Opd.t rfl) (Opd.t rfl) (by omega) (by omega) (by omega)) rfl rfl rfl rfl<|aw (au (Opd.t rfl)) rfl rfl rfl rfl<| ?_
 refine ta (ou (Opd.t rfl) (Opd.t rfl) (run1 _ hN hv _ _)) rfl rfl rfl rfl ?_
 replace hC:=hC.trans (mZ w.heap.size R1)
 replace hN:=setRow_heap _ w.heap.size R0 R1 290 (0,0) hN
 replace hb:=(setRow_other _ w.heap.size b R1 hbN).trans hb
 replace hv:=(setRow_other _ w.heap.size vb R1 hvN).trans hv
 refine bD ?_
 refine aM ?_
 refine aW ?_
 refine mC [0,0,0,6,9,0,0,96,144] (.q 0 0 (.q 1 1 (.q 2 3 (.q 3 7 (.q 4 15 (.q 5 31 (.q 6 63 (.q 7 127 (.l 8 255 .nil))))))))) (by kernel_rfl) (by kernel_rfl) ?_
 intro w1 hx2
 replace hN:=(hx2.block _ (Array.getElem?_eq_some_iff.1 hN).1).trans hN
 replace hb:=(hx2.block _ (Array.getElem?_eq_some_iff.1 hb).1).trans hb
 replace hv:=(hx2.block _ (Array.getElem?_eq_some_iff.1 hv).1).trans hv
 replace hC:=hC.trans (hx2.chg _)
 refine dU (fun _=>(au (Opd.t rfl))) rfl rfl rfl rfl<|dU (fun _=>(au (Opd.t rfl))) rfl rfl rfl rfl<|dU (fun _=>(au (Opd.t rfl))) rfl rfl rfl rfl<|dU (fun _=>(Run.eqI (lY (Opd.t rfl) (Opd.t rfl)) a2)) rfl rfl rfl rfl<|dU (fun _=>(jg Tryz.underlying177 tiI (Opd.t rfl) (Opd.t rfl) (by omega) (by omega) (by omega))) rfl rfl rfl rfl<|dU (fun _=>(au (Opd.t rfl))) rfl rfl rfl rfl<|dU (fun _=>(au (Opd.t rfl))) rfl rfl rfl rfl<|dU (fun _=>(jg Tryz.underlying177 tiI (Opd.t rfl) (Opd.t rfl) (by omega) (by omega) (by omega))) rfl rfl rfl rfl<| ?_
 refine HQ (pend':=[]) rfl (by kernel_rfl) ?_
 refine ta (ou (Opd.t rfl) (Opd.t rfl) (run2 _ hN hb _ _ _)) rfl rfl rfl rfl ?_
 replace hC:=hC.trans (mZ w.heap.size R2)
 replace hN:=setRow_heap _ w.heap.size R1 R2 290 (0,0) hN
 refine bD ?_
 refine O8 Ey ?_
 refine L6 ?_
 refine aM ?_
 refine aW ?_
 refine aV ?_
 refine aw (au (Opd.t rfl)) rfl rfl rfl rfl<|aw (cB (Opd.t rfl)) rfl rfl rfl rfl<| ?_
 refine bD ?_
 refine aM ?_
 refine s8 ?_
 refine rP<| ?_
 refine JI rfl (iw.t rfl) ?_
 exact ⟨rfl,hC,R2,hN,hR2s,hR2t⟩
theorem Ej {Φ:Ctx} {w:World} {v vy:SLV} {xs ys:List (Int×Int)} {R Ry:List Nat} {i:Int} (hs:Sat (osl (RP (RI .u8) (RI .i64)) 290 (sl v) xs R::osl (RP (RI .u8) (RI .i64)) 290 (sl vy) ys Ry::Φ) w) (hne:ys≠[]) (hi:oY i xs.length=true) (hroom:aB (xs.length+ys.length) 16=true):
  ez Tryz.prog 188 [sl v,.int .i64 i,sl vy] w (fun r w'=> ∃ (p:SLV) (R':List Nat),r=sl p∧Sat (osl (RP (RI .u8) (RI .i64)) 290 (sl p) (fS xs i ys) R'::imm (RSl (RP (RI .u8) (RI .i64))) [sl vy] ys::Φ) w'):=by
 obtain ⟨hi0,hi1⟩:=E4.1 hi
 obtain ⟨k,rfl⟩: ∃ k:Nat,i=k:=⟨i.toNat,by omega⟩
 have hk:k≤xs.length:=by omega
 have hym:0<ys.length:=List.length_pos_iff.2 hne
 have hO:=hs.own (i:=0) rfl
 obtain ⟨p,c,hv,hnc⟩:=hO.shape
 obtain ⟨vb,mc,curv,hvy,hRy,hhv,hmc,_,hvsz,hyr⟩:=(hs.own (i:=1) rfl).row hne
 have mono: ∀ {S S':Value→World→Prop} {args},ez Tryz.prog 188 args w S→(∀ r w',S r w'→S' r w')→ez Tryz.prog 188 args w S':=fun h hS=>fW.mono h hS (fun _ _ h=>h)
 by_cases hend:k=xs.length
 · -- at the end
  subst hend
  have hs2:=hs.freeze (i:=1) rfl
  have hs2:Sat (osl (RP (RI .u8) (RI .i64)) 290 (sl v) xs R::imm (RSl (RP (RI .u8) (RI .i64))) [sl vy] ys::Φ) w:=hs2
  obtain ⟨v',R',w',hr,hC,hR,hP⟩:=IQ (t:=177) (ty:=177) Tryz.underlying177 tiI rfl (by decide) (hs2.own (i:=0) rfl) (hs2.sl (i:=1) rfl) (fun b hb=>Ctx.fv (i:=0) rfl hb) hroom
  have hS:=hs2.upd (i:=0) rfl (new:=osl (RP (RI .u8) (RI .i64)) 290 v' (xs++ys) R') hC hR (fun M' m _=>hP M' m)
  have hv': ∃ p,v'=sl p:=by
   obtain ⟨a,cap,hv⟩:=(hS.own (i:=0) rfl).len
   exact ⟨(a,_,cap),hv⟩
  obtain ⟨p',rfl⟩:=hv'
  rw [hv,hvy] at hr ⊢
  refine mono (kB hnc hym hr) ?_
  rintro r w1 ⟨rfl,rfl⟩
  rw [← hvy]
  refine ⟨p',R',rfl,?_⟩
  rw [Oo]
  exact hS
 ·have hlt:k<xs.length:=by omega
  have hxne:xs≠[]:=fun h=>by rw [h] at hlt;simp at hlt
  obtain ⟨b,c,cur,hv,hR,hh,hnc,hcm,hsz,hxr⟩:=hO.row hxne
  have hcm2:c≤9223372036854775807:=by unfold maxLen at hcm;omega
  have hbv:vb≠b:=by
   intro e
   subst e
   exact hs.sep 0 1 _ _ rfl rfl (by decide) vb (by show vb∈R;rw [hR];simp) (by show vb∈Ry;rw [hRy];simp)
  have hlen:=Oj (ys:=ys) hk
  simp only [aB,Bool.and_eq_true] at hroom
  have hb1:=Nat.le_of_ble_eq_true hroom.1
  have hb2:=Nat.le_of_ble_eq_true hroom.2
  have hcur:c*2=cur.size:=hsz.symm
  by_cases hroomc:xs.length+ys.length≤c
  · -- there is room
   rw [hv,hvy]
   refine mono (rQ hlt hym hroomc hcm2 hbv hh hsz hhv (by rw [show curv.size=mc*2 from hvsz];omega) hxr.pH hyr.pH) ?_
   rintro r w1 ⟨rfl,hC,cur',hh',hs',ht'⟩
   rw [← hvy]
   refine ⟨(some ⟨b,0,none⟩,xs.length+ys.length,c),[b],rfl,?_⟩
   have hS:=hs.upd (i:=0) rfl (new:=osl (RP (RI .u8) (RI .i64)) 290 (.slice (some ⟨b,0,none⟩) (xs.length+ys.length) c) (fS xs (k:Int) ys) [b]) (by show Chg R w w1;rw [hR];exact hC) (fun d hd=>by
    have:d=b:=by simpa [osl] using hd
    subst this
    exact ⟨(Array.getElem?_eq_some_iff.1 hh').1,.inl (by show d∈R;rw [hR];simp)⟩) (fun M' m _=>by
    show Own _ _ _ _ _ _ _
    rw [← hlen]
    refine Own.mk_ hh' (by omega) hcm hs' ?_
    rw [hlen]
    have:=(Ik (i:=k) hxr hyr).mv m
    have e:cur'.toList.take ((xs.length+ys.length)*((RP (RI .u8) (RI .i64))).n)=(cur.toList.take (xs.length*((RP (RI .u8) (RI .i64))).n)).take (k*((RP (RI .u8) (RI .i64))).n)++curv.toList.take (ys.length*((RP (RI .u8) (RI .i64))).n)++(cur.toList.take (xs.length*((RP (RI .u8) (RI .i64))).n)).drop (k*((RP (RI .u8) (RI .i64))).n):=ht'
    rw [e]
    exact this)
   exact hS.freeze (i:=1) rfl
  · -- a new row
   rw [hv,hvy]
   refine mono (Ta hlt hym hnc (by omega) hb1 hh hsz hhv (by rw [show curv.size=mc*2 from hvsz];omega) hxr.pH hyr.pH) ?_
   rintro r w1 ⟨rfl,hC,cur',hh',hs',ht'⟩
   rw [← hvy]
   refine ⟨(some ⟨w.heap.size,0,none⟩,xs.length+ys.length,_),[w.heap.size],rfl,?_⟩
   have hE:Chg R w w1:=⟨hC.os,hC.tape,hC.output,hC.size,fun d hd _=>hC.block d hd (by simp;omega)⟩
   have hS:=hs.upd (i:=0) rfl (new:=osl (RP (RI .u8) (RI .i64)) 290 (.slice (some ⟨w.heap.size,0,none⟩) (xs.length+ys.length) (grownCap w (xs.length+ys.length) c 290)) (fS xs (k:Int) ys) [w.heap.size]) hE (fun d hd=>by
    have:d=w.heap.size:=by simpa [osl] using hd
    subst this
    exact ⟨(Array.getElem?_eq_some_iff.1 hh').1,.inr (Nat.le_refl _)⟩) (fun M' m _=>by
    show Own _ _ _ _ _ _ _
    rw [← hlen]
    refine Own.mk_ (by rw [hlen] at *; exact hh') (by rw [hlen];exact grownCap_ge w _ _ _) (by rw [hlen];exact grownCap_le_maxLen w _ c 290 (by simpa [maxLen] using hb2)) (by rw [hlen];exact hs') ?_
    rw [hlen]
    have:=(Ik (i:=k) hxr hyr).mv m
    have e:cur'.toList.take ((xs.length+ys.length)*((RP (RI .u8) (RI .i64))).n)=(cur.toList.take (xs.length*((RP (RI .u8) (RI .i64))).n)).take (k*((RP (RI .u8) (RI .i64))).n)++curv.toList.take (ys.length*((RP (RI .u8) (RI .i64))).n)++(cur.toList.take (xs.length*((RP (RI .u8) (RI .i64))).n)).drop (k*((RP (RI .u8) (RI .i64))).n):=ht'
    rw [e]
    exact this)
   exact hS.freeze (i:=1) rfl
end I188
end Go.Proofs.YtgcgmclghbebjaaGreat
namespace Go.Proofs.YtgcgmclghbebjaaGreat
open Go.Lib
theorem P7 {P:Program} {Γg:Ctx} {f e bytes:Nat} {t:Ty} (hE:cQ P f)
  (hins: ∀ {Φ:Ctx} {w:World} {v vy:SLV} {xs ys:List t.T} {R Ry:List Nat} {i:Int},Sat (osl t.rep e (sl v) xs R::osl t.rep e (sl vy) ys Ry::Φ) w→ys≠[]→oY i xs.length=true→aB (xs.length+ys.length) bytes=true→
   ez P f [sl v,.int .i64 i,sl vy] w (fun r w'=> ∃ (p:SLV) (R':List Nat),r=sl p∧Sat (osl t.rep e (sl p) (fS xs i ys) R'::imm (RSl t.rep) [sl vy] ys::Φ) w'))
  (m:List t.T→Int→List t.T→Option (List t.T)) (hm: ∀ xs i ys r,m xs i ys=some r→ys≠[]∧oY i xs.length=true∧aB (xs.length+ys.length) bytes=true∧r=fS xs i ys):
  (⟨f,[.own t e true,.int .i64,.own t e true],.own t e true,[],fun s=>m s.1 s.2.1 s.2.2⟩:Ent).Ok P Γg:=by
 refine ⟨hE,fun s r hr vs N I X Φ w hS hs hΦ=> ?_⟩
 obtain ⟨v1,vs1,D1,D2,I1,I2,X1,X2,N1,rfl,⟨a,l,rfl,_,rfl,rfl,rfl,rfl,_⟩,⟨v2,vs2,D3,D4,I3,I4,X3,X4,N2,rfl,⟨i,rfl,rfl,rfl,rfl,rfl⟩,⟨v3,vs3,D5,D6,I5,I6,X5,X6,N3,rfl,⟨b,l2,rfl,_,rfl,rfl,rfl,rfl,_⟩,⟨rfl,rfl,rfl,rfl,rfl⟩,rfl,rfl,rfl⟩,rfl,rfl,rfl⟩,hD,rfl,rfl⟩:=hS
 obtain ⟨s1,s2,s3⟩:=s
 obtain ⟨hne,hb,hroom,rfl⟩:=hm s1 s2 s3 r hr
 have hD:[(⟨.l t,s1⟩:Dyn),⟨.i .i64,s2⟩,⟨.l t,s3⟩]=[⟨.l t,l⟩,⟨.i .i64,i⟩,⟨.l t,l2⟩]:=hD
 simp only [List.cons.injEq,and_true] at hD
 obtain ⟨hD1,hD2,hD3⟩:=hD
 have q1:s1=l:=by cases hD1;rfl
 have q2:s2=i:=by cases hD2;rfl
 have q3:s3=l2:=by cases hD3;rfl
 subst q1 q2 q3
 have hs:Sat (lu t.rep e a.v s1 True::lu t.rep e b.v s3 True::Φ) w:=hs
 have hs1:Sat (osl t.rep e (sl a.v) s1 (slR a.v)::lu t.rep e b.v s3 True::Φ) w:=Sat.le2 (A:=[]) hs ⟨fun _ h=>h,fun M w h=>h.1⟩
 have hs2:Sat (osl t.rep e (sl a.v) s1 (slR a.v)::osl t.rep e (sl b.v) s3 (slR b.v)::Φ) w:=Sat.le2 (A:=[osl t.rep e (sl a.v) s1 (slR a.v)]) hs1 ⟨fun _ h=>h,fun M w h=>h.1⟩
 refine ez.mono (hins hs2 hne hb hroom) ?_
 rintro v w' ⟨p,R',rfl,hs3⟩
 obtain ⟨Y,hY⟩: ∃ Y:List t.T,Y=fS s1 s2 s3:=⟨_,rfl⟩
 rw [← hY] at hs3
 refine ⟨[a,b,{ nm0 with v:=p,y:=⟨.l t,Y⟩ }],[a,b,{ nm0 with v:=p,y:=⟨.l t,Y⟩ }],[⟨.l t,Y⟩],[],[(true,lu t.rep e p Y True)],[],[],[],
  ⟨{ nm0 with v:=p,y:=⟨.l t,Y⟩ },Y,rfl,(fun q h=>by cases h),rfl,rfl,rfl,rfl,rfl⟩,⟨rfl,rfl,rfl,rfl⟩,by rw [hY];rfl,?_⟩
 have hO:=hs3.own (i:=0) rfl
 have hcan:=hO.canon
 have hs4:Sat ([osl t.rep e (sl p) Y R']++eB::Φ) w':=Sat.le2 (A:=[osl t.rep e (sl p) Y R']) (B:=Φ) hs3 ⟨(fun _ h=>nomatch h),fun _ _ _=>trivial⟩
 have hs5:=Sat.fS (A:=[osl t.rep e (sl p) Y R']) (B:=eB::Φ) hs4 [eB] (fun it hit=>by rw [List.mem_singleton.1 hit];exact ⟨rfl,fun _ _=>trivial⟩)
 exact Sat.le2 (A:=[]) (B:=eB::eB::Φ) (x:=osl t.rep e (sl p) Y R') hs5 ⟨fun b hb=>hcan.1 b hb,fun M w h=>⟨hcan.2 M w h,trivial⟩⟩
end Go.Proofs.YtgcgmclghbebjaaGreat
