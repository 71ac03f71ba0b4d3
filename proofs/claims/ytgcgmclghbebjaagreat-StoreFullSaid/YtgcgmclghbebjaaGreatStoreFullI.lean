/-
  Own texts for the statement StoreFull, cut down to what it needs: SoI, SoShown, SoFull, KFr, KFx, KArg, SoFullT. (cut and joined by a program)
-/
import Derived.Test.YtgcgmclghbebjaaGreatStoreFullA
import Derived.Test.YtgcgmclghbebjaaGreatStoreFullB
import Derived.Test.YtgcgmclghbebjaaGreatStoreFullC
import Derived.Test.YtgcgmclghbebjaaGreatStoreFullD
import Derived.Test.YtgcgmclghbebjaaGreatStoreFullE
import Derived.Test.YtgcgmclghbebjaaGreatStoreFullF
import Derived.Test.YtgcgmclghbebjaaGreatStoreFullG
import Derived.Test.YtgcgmclghbebjaaGreatStoreFullH
import Derived.Lib.LaidTab
import Derived.Below
import Derived.WalkKit
import Derived.ProofKit
import Derived.Test.YtgcgmclghbebjaaGreatRows
import Derived.Carry
import Derived.ChangeSlices
import Derived.OpenShut
namespace Go.Proofs.YtgcgmclghbebjaaGreat
namespace So
theorem Fb {l:List Fd} (h:l.length<1000000000):cp l=some l:=by
 unfold cp
 rw [bd (cz (by omega) (by omega))]
abbrev Op:=Int×Int×Int×Int×Int×Int
noncomputable def Rc:St:=(0,[],0,((0,[],[]),[]),([],(0,[],[]),[]),([],[]),((0,[],0,0,[]),(0,[],0,0,[]),(0,[],0,0,[])),(0,0,0,([],[],[])))
noncomputable def kV (s:List Fd) (o:Op):St:=(o.1,s,o.2.1,((0,[],[]),[]),([],(0,[],[]),[]),([],[]),((0,[],0,0,[]),(0,[],0,0,[]),(0,[],0,0,[])),(0,0,0,([],[],[])))
noncomputable def thenS (x:Option (St×Int)):Option (St×Int):=x.bind fun r=>bif (r.2 != 0) then some (Rc,r.2) else some (r.1,0)
theorem NZ {s:List Fd} (hf:FI s) (hs:jU s) (o:Op):
  (o.1=0→dD s o=thenS (dT () (kV s o) o))∧(o.1=1→dD s o=thenS (dA () (kV s o) o))∧(o.1=2→dD s o=thenS (dz () (kV s o) o))∧
  (o.1=3→dD s o=thenS (di () (kV s o) o))∧(o.1=4→dD s o=thenS (gX () (kV s o) o)):=by
 have hl:=hs.few
 have k: ∀ n:Nat,(decide (((5:Nat):Int)≤o.1))=false→decide (o.1<0)=false→(aS).bind (fun r54=>idx r54 o.1)=some n→dD s o=
   (bif (Nat.beq n 133) then thenS (dT () (kV s o) o) else bif (Nat.beq n 134) then thenS (dA () (kV s o) o) else bif (Nat.beq n 135) then thenS (dz () (kV s o) o) else bif (Nat.beq n 136) then thenS (di () (kV s o) o) else bif (Nat.beq n 137) then thenS (gX () (kV s o) o) else none):=by
  intro n h5 h0 hn
  unfold dD
  obtain ⟨l,hk,hi⟩:=dR hn
  have hkl:l.length=5:=by
   unfold aS at hk;cases hk;rfl
  simp only [bD]
  rw [Mh hf,ab,BC.2 hs,h0,hk,Bool.not_true,Bool.false_or,Bool.not_false,cd,ab,hkl,h5,Bool.false_or,cond_false,ab,hi,ab,Fb (by omega),ab]
  rfl
 refine ⟨fun h=> ?_,fun h=> ?_,fun h=> ?_,fun h=> ?_,fun h=> ?_⟩
 ·rw [k 133 (by rw [h];rfl) (by rw [h];rfl) (by unfold aS;rw [h];rfl)];rfl
 ·rw [k 134 (by rw [h];rfl) (by rw [h];rfl) (by unfold aS;rw [h];rfl)];rfl
 ·rw [k 135 (by rw [h];rfl) (by rw [h];rfl) (by unfold aS;rw [h];rfl)];rfl
 ·rw [k 136 (by rw [h];rfl) (by rw [h];rfl) (by unfold aS;rw [h];rfl)];rfl
 ·rw [k 137 (by rw [h];rfl) (by rw [h];rfl) (by unfold aS;rw [h];rfl)];rfl
theorem Gv {s:List Fd} (hs:Fds s) (t:St) (ht:t.2.1=s) (o:Op) (h0:0≤o.2.1) (h1:o.2.1≤1048576):
  di () t o=some ((t.1,t.2.1,t.2.2.1,t.2.2.2.1,t.2.2.2.2.1,t.2.2.2.2.2.1,(((da s:Int),[],-1,0,[]),((da s:Int),[],-1,0,[]),((da s:Int),[],-1,0,[])),t.2.2.2.2.2.2.2),0):=by
 unfold di
 simp only [bD]
 rw [decide_eq_false (show ¬ o.2.1<0 by omega),decide_eq_false (show ¬ 1048576<o.2.1 by omega),Bool.or_self,cond_false]
 have hB:hZ t.2.1=some (da s:Int):=by rw [ht];exact EX hs
 have hN:=Df.QU (Hc hs)
 obtain ⟨m,hm⟩: ∃ m,aB=m+4:=⟨2^64-4,rfl⟩
 rw [hm,aQ]
 generalize hF:dN () t=F
 have hs0: ∀ k a1 a2 a3 a4 a5 b1 b2 b3 b4 b5 c1 c2 c3 c4 c5,F k (a1,a2,a3,a4,a5,b1,b2,b3,b4,b5,c1,c2,c3,c4,c5,0)=k ((da s:Int),[],-1,0,[],b1,b2,b3,b4,b5,c1,c2,c3,c4,c5,1):=by
  intros;rw [← hF];unfold dN;dsimp only;rw [hB,ab,hN,ab];rfl
 have hs1: ∀ k a1 a2 a3 a4 a5 b1 b2 b3 b4 b5 c1 c2 c3 c4 c5,F k (a1,a2,a3,a4,a5,b1,b2,b3,b4,b5,c1,c2,c3,c4,c5,1)=k (a1,a2,a3,a4,a5,(da s:Int),[],-1,0,[],c1,c2,c3,c4,c5,2):=by
  intros;rw [← hF];unfold dN;dsimp only;rw [hB,ab,hN,ab];rfl
 have hs2: ∀ k a1 a2 a3 a4 a5 b1 b2 b3 b4 b5 c1 c2 c3 c4 c5,F k (a1,a2,a3,a4,a5,b1,b2,b3,b4,b5,c1,c2,c3,c4,c5,2)=k (a1,a2,a3,a4,a5,b1,b2,b3,b4,b5,(da s:Int),[],-1,0,[],3):=by
  intros;rw [← hF];unfold dN;dsimp only;rw [hB,ab,hN,ab];rfl
 rw [hs0,aQ,hs1,aQ,hs2,aQ,← hF]
 rfl
theorem OP {s:List Fd} (hf:FI s) (hs:jU s) (o:Op) (hk:0≤o.1∧o.1<4):
  ((o.2.1<0∨1048576<o.2.1)→dD s o=some (Rc,1))∧(0≤o.2.1→o.2.1≤1048576→ ∃ t,dD s o=some (t,0)∧OkS t s o.2.1 [] (fun _ _=>false)∧t.1=o.1):=by
 obtain ⟨k0,k1,k2,k3,_⟩:=NZ hf hs o
 have hko:o.1=0∨o.1=1∨o.1=2∨o.1=3:=by omega
 refine ⟨fun hb=> ?_,fun h0 h1=> ?_⟩
 ·rcases hko with h | h | h | h
  ·rw [k0 h];unfold dT;rw [y5,if_pos hb];rfl
  ·rw [k1 h];unfold dA
   rw [show (kV s o).2.1=s from rfl,Ae hs.fds,if_pos hb];rfl
  ·rw [k2 h];unfold dz
   rw [show (kV s o).2.1=s from rfl,zN hs.fds,if_pos hb];rfl
  ·rw [k3 h];unfold di
   simp only [bD]
   rw [show (decide (o.2.1<0)||decide (1048576<o.2.1))=true by simpa using hb];rfl
 ·have hb: ¬ (o.2.1<0∨1048576<o.2.1):=by omega
  rcases hko with h | h | h | h
  ·rw [k0 h];unfold dT;rw [y5,if_neg hb]
   exact ⟨_,rfl,⟨rfl,rfl,.inl ⟨h,Jp s h0 h1,rfl⟩⟩,rfl⟩
  ·rw [k1 h];unfold dA
   rw [show (kV s o).2.1=s from rfl,Ae hs.fds,if_neg hb]
   exact ⟨_,rfl,⟨rfl,rfl,.inr (.inl ⟨h,Jt s h0 h1⟩)⟩,rfl⟩
  ·rw [k2 h];unfold dz
   rw [show (kV s o).2.1=s from rfl,zN hs.fds,if_neg hb]
   exact ⟨_,rfl,⟨rfl,rfl,.inr (.inr (.inl ⟨h,Ij s h0 h1⟩))⟩,rfl⟩
  ·rw [k3 h,Gv hs.fds (kV s o) rfl o h0 h1]
   have hw:=Hc hs.fds
   exact ⟨_,rfl,⟨rfl,rfl,.inr (.inr (.inr ⟨h,⟨h1,h0,fun v hv=>by simp at hv,List.nodup_nil,Eh hw,⟨[],Eh hw,List.nodup_nil,fun v=>by simp,fun v hv=>by simp at hv⟩,⟨[],Eh hw,List.nodup_nil,fun v=>by simp,fun v hv=>by simp at hv⟩⟩⟩))⟩,rfl⟩
/-! as the document has it -/
theorem K3 {s:List Fd} (hf:FI s):fS s=some (pN s):=by
 unfold fS pN
 simp only [bD]
 by_cases h:1≤s.length∧s.length≤17
 ·rw [decide_eq_false (show ¬ (s.length:Int)<1 by omega),decide_eq_false (show ¬ (17:Int)<s.length by omega),Bool.or_self,cond_false,decide_eq_true h.1,decide_eq_true h.2,Bool.true_and,Bool.true_and]
  have step: ∀ i (hi:i<s.length) (k:Int→Option Bool),dq s k (i:Int)=bif kl s[i] then k ((i+1:Nat):Int) else some false:=by
   intro i hi k
   have hI:=hf s[i] (List.getElem_mem hi)
   have hq:=J9 hI.1 hI.2
   unfold dq
   simp only [bD]
   rw [fC hi,cond_true,bT hi,ab,ab,nx (show i<9223372036854775807 by omega)]
   unfold kl
   by_cases h1:s[i].2<s[i].1
   ·rw [decide_eq_true h1,Bool.not_true,cG]
    simp only [Bool.true_or,Bool.not_true,cG,cond_true]
    rw [decide_eq_false (show ¬ s[i].1≤s[i].2 by omega),Bool.and_false,Bool.false_and,cond_false]
   ·rw [decide_eq_false h1,Bool.not_false,cd,ab,Bool.false_or]
    by_cases h2:s[i].1< -1073741824
    ·rw [decide_eq_true h2,Bool.not_true,cG]
     simp only [Bool.true_or,Bool.not_true,cG,cond_true]
     rw [decide_eq_false (show ¬ -1073741824≤s[i].1 by omega)]
     simp
    ·rw [decide_eq_false h2,Bool.not_false,cd,ab,Bool.false_or]
     by_cases h3:1073741824<s[i].2
     ·rw [decide_eq_true h3,Bool.not_true,cG,cG,Bool.true_or,cond_true,decide_eq_false (show ¬ s[i].2≤1073741824 by omega)]
      simp
     ·rw [decide_eq_false h3,Bool.not_false,cd,ab,cd,ab,Bool.false_or,w64 (by omega),decide_eq_true (show -1073741824≤s[i].1 by omega),decide_eq_true (show s[i].2≤1073741824 by omega),decide_eq_true (show s[i].1≤s[i].2 by omega)]
      by_cases h4:65535<s[i].2-s[i].1
      ·rw [decide_eq_true h4,decide_eq_false (show ¬ s[i].2-s[i].1≤65535 by omega)];rfl
      ·rw [decide_eq_false h4,decide_eq_true (show s[i].2-s[i].1≤65535 by omega)];rfl
  refine (findF (F:=dq s) (fun i=>(i:Int)) (fun i=>if h:i<s.length then !kl s[i] else false) (r:=fun i=>if i<s.length then some false else some true) s.length (s:=0) rfl (by omega) (fun i hi hp k=> ?_) (fun i hi hp k=> ?_) (fun k=> ?_)).elim (fun ⟨i,h1,h2,h3,h4⟩=> ?_) (fun ⟨h1,h4⟩=> ?_)
  ·rw [dif_pos hi] at hp
   rw [step i hi,show kl s[i]=true by simpa using hp,cond_true]
  ·rw [dif_pos hi] at hp
   rw [step i hi,show kl s[i]=false by simpa using hp,cond_false,if_pos hi]
  ·unfold dq
   rw [iw (Nat.lt_irrefl _),cond_false,if_neg (Nat.lt_irrefl _)]
  ·rw [h4,if_pos h1]
   rw [dif_pos h1] at h2
   congr 1
   rw [eq_comm,← Bool.not_eq_true]
   intro h
   have:=List.all_eq_true.1 h _ (List.getElem_mem h1)
   rw [this] at h2;cases h2
  ·rw [h4,if_neg (Nat.lt_irrefl _)]
   congr 1
   rw [eq_comm,List.all_eq_true]
   intro x hx
   obtain ⟨i,hi,e⟩:=List.getElem_of_mem hx
   have:=h1 i hi
   rw [dif_pos hi,e] at this
   simpa using this
 ·have e:(decide ((s.length:Int)<1)||decide ((17:Int)<(s.length:Int)))=true:=by simp;omega
  have e':(decide (1≤s.length)&&decide (s.length≤17))=false:=by
   rw [← Bool.not_eq_true,Bool.and_eq_true,decide_eq_true_eq,decide_eq_true_eq];omega
  rw [e,e',cond_true,Bool.false_and]
theorem QQ (s:List Fd) (v:List Int) (hn:v.length<100000000):iH s v=some (inC s v):=by
 unfold iH
 by_cases hl:v.length=s.length
 ·rw [show ((v.length:Int) != (s.length:Int))=false by simp;omega,cond_false]
  have hsv: ∀ i,i<v.length→i<s.length:=fun i h=>by omega
  have step: ∀ i (hi:i<v.length) (k:Int→Option Int),ed s v k (i:Int)=bif (decide ((s[i]'(hsv i hi)).1≤v[i])&&decide (v[i]≤(s[i]'(hsv i hi)).2)) then k ((i+1:Nat):Int) else some 5:=by
   intro i hi k
   unfold ed
   simp only [bD]
   rw [fC hi,cond_true,bT hi,bT (hsv i hi),ab,ab,nx (show i<9223372036854775807 by omega)]
   by_cases h1:v[i]<(s[i]'(hsv i hi)).1
   ·rw [decide_eq_true h1,Bool.not_true,cG,cG,Bool.true_or,cond_true,decide_eq_false (show ¬ (s[i]'(hsv i hi)).1≤v[i] by omega)];rfl
   ·rw [decide_eq_false h1,Bool.not_false,cd,ab,cd,ab,Bool.false_or,decide_eq_true (show (s[i]'(hsv i hi)).1≤v[i] by omega),Bool.true_and]
    by_cases h2:(s[i]'(hsv i hi)).2<v[i]
    ·rw [decide_eq_true h2,decide_eq_false (show ¬ v[i]≤(s[i]'(hsv i hi)).2 by omega)];rfl
    ·rw [decide_eq_false h2,decide_eq_true (show v[i]≤(s[i]'(hsv i hi)).2 by omega)];rfl
  refine (findF (F:=ed s v) (fun i=>(i:Int)) (fun i=>if h:i<v.length then !(decide ((s[i]'(hsv i h)).1≤v[i])&&decide (v[i]≤(s[i]'(hsv i h)).2)) else false) (r:=fun i=>if i<v.length then some 5 else some 0) v.length (s:=0) rfl (by omega) (fun i hi hp k=> ?_) (fun i hi hp k=> ?_) (fun k=> ?_)).elim (fun ⟨i,h1,h2,h3,h4⟩=> ?_) (fun ⟨h1,h4⟩=> ?_)
  ·rw [dif_pos hi,Bool.not_eq_false'] at hp
   rw [step i hi,hp,cond_true]
  ·rw [dif_pos hi,Bool.not_eq_true'] at hp
   rw [step i hi,hp,cond_false,if_pos hi]
  ·unfold ed
   rw [iw (Nat.lt_irrefl _),cond_false,if_neg (Nat.lt_irrefl _)]
  ·rw [h4,if_pos h1,FK hl i (by omega)]
   rw [dif_pos h1] at h2
   simp at h2;omega
  ·rw [h4,if_neg (by omega),jW.2 ⟨hl,fun i hi=> ?_⟩]
   have:=h1 i (by omega)
   rw [dif_pos (by omega)] at this
   simpa using this
 ·rw [show ((v.length:Int) != (s.length:Int))=true by simp;omega,cond_true]
  unfold inC;rw [if_neg hl]
theorem Rp (a b:List Int) (hn:a.length<100000000):gS a b=some (a==b):=by
 unfold gS
 by_cases hl:a.length=b.length
 ·rw [show ((a.length:Int) != (b.length:Int))=false by simp;omega,cond_false]
  have step: ∀ i (hi:i<a.length) (k:Int→Option Bool),dQ a b k (i:Int)=bif (a[i] != b[i]'(by omega)) then some false else k ((i+1:Nat):Int):=by
   intro i hi k
   unfold dQ
   rw [fC hi,cond_true,bT hi,bT (show i<b.length by omega),ab,ab,nx (show i<9223372036854775807 by omega)]
  refine (findF (F:=dQ a b) (fun i=>(i:Int)) (fun i=>if h:i<a.length then a[i] != b[i]'(by omega) else false) (r:=fun i=>if i<a.length then some false else some true) a.length (s:=0) rfl (by omega) (fun i hi hp k=> ?_) (fun i hi hp k=> ?_) (fun k=> ?_)).elim (fun ⟨i,h1,h2,h3,h4⟩=> ?_) (fun ⟨h1,h4⟩=> ?_)
  ·rw [dif_pos hi] at hp
   rw [step i hi,hp,cond_false]
  ·rw [dif_pos hi] at hp
   rw [step i hi,hp,cond_true,if_pos hi]
  ·unfold dQ
   rw [iw (Nat.lt_irrefl _),cond_false,if_neg (Nat.lt_irrefl _)]
  ·rw [h4,if_pos h1]
   rw [dif_pos h1] at h2
   congr 1
   rw [eq_comm,beq_eq_false_iff_ne]
   rintro rfl
   simp at h2
  ·rw [h4,if_neg (Nat.lt_irrefl _)]
   congr 1
   rw [eq_comm,beq_iff_eq]
   refine List.ext_getElem hl fun i h2 h3=> ?_
   have:=h1 i h2
   rw [dif_pos h2] at this
   simpa using this
 ·rw [show ((a.length:Int) != (b.length:Int))=true by simp;omega,cond_true]
  congr 1
  rw [eq_comm,beq_eq_false_iff_ne]
  rintro rfl
  exact hl rfl
end So
end Go.Proofs.YtgcgmclghbebjaaGreat
namespace Go.Proofs.YtgcgmclghbebjaaGreat
namespace So
theorem HR:jb=some true:=by
 show _=_
 kernel_rfl
end So
end Go.Proofs.YtgcgmclghbebjaaGreat
namespace Go.Proofs.YtgcgmclghbebjaaGreat
namespace So
noncomputable def un (t:St) (x:List (List Int)) (i:Int):=(t.1,t.2.1,t.2.2.1,t.2.2.2.1.1.1,t.2.2.2.1.1.2.1,t.2.2.2.1.1.2.2,t.2.2.2.1.2,t.2.2.2.2.1.1,t.2.2.2.2.1.2.1.1,t.2.2.2.2.1.2.1.2.1,t.2.2.2.2.1.2.1.2.2,t.2.2.2.2.1.2.2,t.2.2.2.2.2.1.1,t.2.2.2.2.2.1.2,t.2.2.2.2.2.2.1.1.1,t.2.2.2.2.2.2.1.1.2.1,t.2.2.2.2.2.2.1.1.2.2.1,t.2.2.2.2.2.2.1.1.2.2.2.1,t.2.2.2.2.2.2.1.1.2.2.2.2,t.2.2.2.2.2.2.1.2.1.1,t.2.2.2.2.2.2.1.2.1.2.1,t.2.2.2.2.2.2.1.2.1.2.2.1,t.2.2.2.2.2.2.1.2.1.2.2.2.1,t.2.2.2.2.2.2.1.2.1.2.2.2.2,t.2.2.2.2.2.2.1.2.2.1,t.2.2.2.2.2.2.1.2.2.2.1,t.2.2.2.2.2.2.1.2.2.2.2.1,t.2.2.2.2.2.2.1.2.2.2.2.2.1,t.2.2.2.2.2.2.1.2.2.2.2.2.2,t.2.2.2.2.2.2.2.1,t.2.2.2.2.2.2.2.2.1,t.2.2.2.2.2.2.2.2.2.1,t.2.2.2.2.2.2.2.2.2.2.1,t.2.2.2.2.2.2.2.2.2.2.2.1,t.2.2.2.2.2.2.2.2.2.2.2.2,x,i)
abbrev FIn:=List Fd×Int×Int×List (List Int)
theorem QI (t:St):(t.1,t.2.1,t.2.2.1,((t.2.2.2.1.1.1,t.2.2.2.1.1.2.1,t.2.2.2.1.1.2.2),t.2.2.2.1.2),(t.2.2.2.2.1.1,(t.2.2.2.2.1.2.1.1,t.2.2.2.2.1.2.1.2.1,t.2.2.2.2.1.2.1.2.2),t.2.2.2.2.1.2.2),(t.2.2.2.2.2.1.1,t.2.2.2.2.2.1.2),((t.2.2.2.2.2.2.1.1.1,t.2.2.2.2.2.2.1.1.2.1,t.2.2.2.2.2.2.1.1.2.2.1,t.2.2.2.2.2.2.1.1.2.2.2.1,t.2.2.2.2.2.2.1.1.2.2.2.2),(t.2.2.2.2.2.2.1.2.1.1,t.2.2.2.2.2.2.1.2.1.2.1,t.2.2.2.2.2.2.1.2.1.2.2.1,t.2.2.2.2.2.2.1.2.1.2.2.2.1,t.2.2.2.2.2.2.1.2.1.2.2.2.2),(t.2.2.2.2.2.2.1.2.2.1,t.2.2.2.2.2.2.1.2.2.2.1,t.2.2.2.2.2.2.1.2.2.2.2.1,t.2.2.2.2.2.2.1.2.2.2.2.2.1,t.2.2.2.2.2.2.1.2.2.2.2.2.2)),(t.2.2.2.2.2.2.2.1,t.2.2.2.2.2.2.2.2.1,t.2.2.2.2.2.2.2.2.2.1,(t.2.2.2.2.2.2.2.2.2.2.1,t.2.2.2.2.2.2.2.2.2.2.2.1,t.2.2.2.2.2.2.2.2.2.2.2.2)))=t:=rfl
theorem tq (w:FIn) (t:St) (V:List (List Int)) (i:Nat) (v:List Int) (hv:w.2.2.2[i]? =some v) (hV:V.length<1000000) (hl: ∀ u∈V,u.length<100000000) {r:Option Bool} {again:_→Option Bool}
  (h: ∀ k,(fun ⟨c45,c46,c48,c49,c50,c52,c54,c56,c58,c59,c61,c63,c65,c67,c69,c70,c72,c73,c74,c76,c77,c79,c80,c81,c83,c84,c86,c87,c88,c90,c91,c92,c93,c95,c97,in99,i102⟩=>cw w c45 c46 c48 c49 c50 c52 c54 c56 c58 c59 c61 c63 c65 c67 c69 c70 c72 c73 c74 c76 c77 c79 c80 c81 c83 c84 c86 c87 c88 c90 c91 c92 c93 c95 c97 in99 i102 again k (decide (v∈V),(V.length:Int))) (un t V (i:Int))=r):
  (fun ⟨c45,c46,c48,c49,c50,c52,c54,c56,c58,c59,c61,c63,c65,c67,c69,c70,c72,c73,c74,c76,c77,c79,c80,c81,c83,c84,c86,c87,c88,c90,c91,c92,c93,c95,c97,in99,i102⟩=>ar (cw w c45 c46 c48 c49 c50 c52 c54 c56 c58 c59 c61 c63 c65 c67 c69 c70 c72 c73 c74 c76 c77 c79 c80 c81 c83 c84 c86 c87 c88 c90 c91 c92 c93 c95 c97 in99 i102 again) aB (false,0)) (un t V (i:Int))=r:=by
 refine kU (fun j=>(decide (v∈V.take j),(j:Int))) V.length (by simp) (by omega) (fun j hj k=> ?_) (fun k=>by rw [List.take_length];exact h k)
 unfold cw
 dsimp only [un]
 rw [fC hj,cond_true,nx (show j<9223372036854775807 by omega),List.take_add_one,List.getElem?_eq_getElem hj]
 simp only [bD]
 by_cases hm:v∈V.take j
 ·rw [decide_eq_true hm,Bool.not_true,cG,cG,cG,Bool.true_or,decide_eq_true (List.mem_append_left _ hm)]
 ·rw [decide_eq_false hm,Bool.not_false,cd,bT hj,ab,cd,dK hv,ab,cd,Rp _ _ (hl _ (List.getElem_mem hj)),ab,Bool.false_or]
  congr 2
  rw [Bool.eq_iff_iff,beq_iff_eq,decide_eq_true_eq,List.mem_append]
  simp only [Option.toList_some,List.mem_singleton]
  exact ⟨fun e=> .inr e.symm,fun e=>(e.resolve_left hm).symm⟩
theorem NQ {s:List Fd} (hs:jU s) {t:St} {cap:Int} {V:List (List Int)} {g:Gf} (h:OkS t s cap V g) (hin: ∀ u∈V,In s u) (b:Bool×Int) (i:Int) (hV:V.length<1000000) (again:_→Option Bool):
  ar (dv i again (t,b) V) aB 0=again (un t V (IntKind.i64.wrap (i+1))):=by
 refine kU (fun j=>(j:Int)) V.length rfl (by omega) (fun j hj k=> ?_) (fun k=> ?_)
 ·have hv:=hin _ (List.getElem_mem hj)
  unfold dv
  simp only [bD]
  rw [fC hj,cond_true,bT hj,ab,Qb hs h _ (by rw [hv.len];have:=hs.few;omega),ab,nx (show j<9223372036854775807 by omega)]
  unfold Mn
  rw [if_pos (jW.2 hv),decide_eq_true (List.getElem_mem hj)]
  rfl
 ·unfold dv
  rw [iw (Nat.lt_irrefl _),cond_false]
  rfl
theorem KB {w:FIn} (hs:jU w.1) {t:St} {V:List (List Int)} {g:Gf} (h:OkS t w.1 (Int.tmod (IntKind.i64.wrap w.2.2.1) 21) V g) (hin: ∀ u∈V,In w.1 u) (hV:V.length≤1000) {i:Nat} {v:List Int} (hv:w.2.2.2[i]? =some v) (k:_→Option Bool) (hi:i<1000):
  bm w true k (un t V (i:Int))=some true∨ ∃ t' V',bm w true k (un t V (i:Int))=k (un t' V' ((i+1:Nat):Int))∧OkS t' w.1 (Int.tmod (IntKind.i64.wrap w.2.2.1) 21) V' g∧(∀ u∈V',In w.1 u)∧V'.length≤V.length+1:=by
 have hil:=kA hv
 have hf:=hs.few
 have hl: ∀ u∈V,u.length<100000000:=fun u hu=>by have:=(hin u hu).len;omega
 unfold bm
 by_cases h40:40<v.length
 ·left
  dsimp only [un]
  rw [fC hil,cond_true,dK hv,ab,decide_eq_true (show (40:Int)<(v.length:Int) by omega),cond_true]
 ·right
  obtain ⟨t',e1,e2,e3⟩:=Qg hs h v (by omega)
  refine ⟨t',(n5 w.1 (Int.tmod (IntKind.i64.wrap w.2.2.1) 21) V v).1,?_,e2,?_,?_⟩
  ·have hh:=tq w t V i v hv (by omega) hl (again:=k) (r:=k (un t' (n5 w.1 (Int.tmod (IntKind.i64.wrap w.2.2.1) 21) V v).1 ((i+1:Nat):Int))) (fun k'=> ?_)
   ·dsimp only [un] at hh ⊢
    rw [fC hil,cond_true,dK hv,ab,decide_eq_false (show ¬ (40:Int)<(v.length:Int) by omega),cond_false]
    exact hh
   ·unfold cw
    dsimp only [un]
    simp only [bD]
    rw [QI t]
    rw [iw (Nat.lt_irrefl _),cond_false,dK hv,ab,QQ _ _ (by omega),ab,ab,e1,ab]
    have hmany:=PE e2
    have hml:=fun b=>NQ hs e2 (by
     intro u hu
     unfold n5 ja at hu
     split at hu
     ·rename_i hc
      split at hu
      ·exact hin u hu
      ·split at hu
       ·exact hin u hu
       ·rcases List.mem_append.1 hu with hu | hu
        ·exact hin u hu
        ·simp at hu;subst hu;exact jW.1 hc
     ·exact hin u hu) b (i:Int) (by
     unfold n5 ja
     split
     ·split
      ·simp;omega
      ·split
       ·simp;omega
       ·simp;omega
     ·simp;omega) k
    unfold n5 at hmany hml ⊢
    by_cases hc:inC w.1 v=0
    ·rw [if_pos hc] at hmany hml ⊢
     rw [hc]
     unfold ja at hmany hml ⊢
     by_cases hm:v∈V
     ·rw [if_pos hm] at hmany hml ⊢
      rw [decide_eq_true hm]
      simp only [Bool.not_true,Bool.and_false,Bool.false_and,cond_false,cu]
      rw [hmany,ab]
      simp only [bne_self_eq_false,cond_false]
      rw [hml,nx (by omega)]
      rfl
     ·rw [if_neg hm] at hmany hml ⊢
      rw [decide_eq_false hm]
      by_cases hfull:Int.tmod (IntKind.i64.wrap w.2.2.1) 21≤(V.length:Int)
      ·rw [if_pos hfull] at hmany hml ⊢
       rw [decide_eq_true hfull]
       simp only [cu]
       rw [hmany,ab,hml,nx (by omega)]
       simp
       rfl
      ·rw [if_neg hfull] at hmany hml ⊢
       rw [decide_eq_false hfull]
       simp only [cu,ab]
       rw [hmany,ab,hml,nx (by omega),bd (cz (by simp;omega) (by simp;omega))]
       simp
       rfl
    ·rw [if_neg hc] at hmany hml ⊢
     simp only [cu]
     rw [hmany,ab,hml,nx (by omega),show (inC w.1 v==0)=false by simpa using hc]
     simp
     rfl
  ·intro u hu
   unfold n5 ja at hu
   split at hu
   ·rename_i hc
    split at hu
    ·exact hin u hu
    ·split at hu
     ·exact hin u hu
     ·rcases List.mem_append.1 hu with hu | hu
      ·exact hin u hu
      ·simp at hu;subst hu;exact jW.1 hc
   ·exact hin u hu
  ·unfold n5 ja
   split
   ·split
    ·simp
    ·split <;> simp
   ·simp
theorem BD {w:FIn} (hs:jU w.1) (hl:w.2.2.2.length≤30): ∀ (d i:Nat) (t:St) (V:List (List Int)) (g:Gf) (M:Nat),i+d=w.2.2.2.length→d<M→V.length≤i→OkS t w.1 (Int.tmod (IntKind.i64.wrap w.2.2.1) 21) V g→(∀ u∈V,In w.1 u)→
  ar (bm w true) M (un t V (i:Int))=some true
 | 0,i,t,V,g,M,hi,hM,_,_,_=>by
  obtain ⟨m,rfl⟩: ∃ m,M=m+1:=⟨M-1,by omega⟩
  rw [aQ]
  generalize ar (bm w true) m=k
  unfold bm
  dsimp only [un]
  rw [iw (show ¬ i<w.2.2.2.length by omega),cond_false]
 | d+1,i,t,V,g,M,hi,hM,hV,h,hin=>by
  obtain ⟨m,rfl⟩: ∃ m,M=m+1:=⟨M-1,by omega⟩
  rw [aQ]
  rcases KB hs h hin (by omega) (List.getElem?_eq_getElem (show i<w.2.2.2.length by omega)) (ar (bm w true) m) (by omega) with e | ⟨t',V',e,h1,h2,h3⟩
  ·exact e
  ·rw [e]
   exact BD hs hl d (i+1) t' V' g m (by omega) (by omega) (by omega) h1 h2
theorem K4 (w:FIn) (hf:FI w.1) (hk:0≤w.2.1∧w.2.1≤255) (hm:0≤w.2.2.1∧w.2.2.1≤255):dZ w=some true:=by
 unfold dZ
 rw [HR,ab,K3 hf,ab]
 simp only [bD]
 cases hr:pN w.1
 ·rfl
 ·have hs:=BC.1 hr
  by_cases h30:30<w.2.2.2.length
  ·rw [decide_eq_true (show (30:Int)<(w.2.2.2.length:Int) by omega)];rfl
  ·rw [decide_eq_false (show ¬ (30:Int)<(w.2.2.2.length:Int) by omega),Bool.not_true,Bool.or_self,cond_false]
   have e1:IntKind.i64.wrap w.2.1=w.2.1:=w64 (by omega)
   have e2:IntKind.i64.wrap w.2.2.1=w.2.2.1:=w64 (by omega)
   have t1:Int.tmod w.2.1 4=w.2.1%4:=Int.tmod_eq_emod_of_nonneg hk.1
   have t2:Int.tmod w.2.2.1 21=w.2.2.1%21:=Int.tmod_eq_emod_of_nonneg hm.1
   obtain ⟨t,h1,h2,h3⟩:=(OP hf hs (Int.tmod (IntKind.i64.wrap w.2.1) 4,Int.tmod (IntKind.i64.wrap w.2.2.1) 21,0,0,0,0) (by dsimp only;rw [e1,t1];omega)).2 (by dsimp only;rw [e2,t2];omega) (by dsimp only;rw [e2,t2];omega)
   rw [h1,ab]
   have:=BD hs (by omega) w.2.2.2.length 0 t [] (fun _ _=>false) aB (by omega) (by show _<2^64;omega) (Nat.le_refl _) h2 (fun u hu=>by simp at hu)
   rw [show ((0:Nat):Int)=0 from rfl] at this
   exact this
end So
end Go.Proofs.YtgcgmclghbebjaaGreat
namespace Go.Proofs.YtgcgmclghbebjaaGreat
open Go.Lib Go.ChangeAt Go.ChangeShapes Go.WideShapes Go.RowKit
theorem Bd {P:Program} {w:World}: ∀ (l:List (String×DataW Unit)) (ps:List MemPlace),DataW.LaidVars P w l ps→ ∀ (i:Nat) (n:String) (d:DataW Unit),l[i]? =some (n,d)→
  ∃ g t cs fuel p,P.globalNamed n=some g∧(P.globals[g]?).map (·.type)=some t∧w.var? P n=some cs∧DataW.trod (fun _=>()) P w 0 (fun _=>true) false fuel t cs.toList=some (d,p)
 | [],_,_,i,n,d,h=>by simp at h
 | (n0,d0)::l,ps,h,i,n,d,hi=>by
  obtain ⟨g,t,cs,fuel,p,q,h1,h2,h3,h4,h5,_⟩:=h
  cases i with
  | zero=>
   simp only [List.getElem?_cons_zero,Option.some.injEq,Prod.mk.injEq] at hi
   obtain ⟨rfl,rfl⟩:=hi
   exact ⟨g,t,cs,fuel,p,h1,h2,h3,h4⟩
  | succ i=>exact Bd l q h5 i n d (by simpa using hi)
theorem Cq {H:Type} {enc:TypeId×Value→H} {P:Program} {w:World} {base:Nat} {sp:Nat→Bool} {held:Bool} {fuel:Nat} {t e:TypeId} {n:Nat} {cs:List Value} {zs:List Str} {p:List MemPlace}
  (ht:P.underlying t=some (.array n e)) (he:P.underlying e=some .string) (hce:P.cellsOf e=1) (hct:P.cellsOf t=n)
  (h:DataW.trod enc P w base sp held fuel t cs=some (.agg (zs.map fun z=> .lit (.string z)),p)):cs=zs.map S:=by
 cases fuel with
 | zero=>simp [DataW.trod] at h
 | succ fuel=>
  simp only [DataW.trod,ht,hce,hct,Nat.mul_one] at h
  split at h
  ·rename_i hl
   obtain ⟨xs,hm,hx⟩:=Option.map_eq_some_iff.1 h
   have hxs:xs.map (·.1)=zs.map fun z=>(DataW.lit (.string z):DataW H):=by
    have:=congrArg Prod.fst hx
    simpa using this
   have hxl:xs.length=n:=by simpa using mapM_length hm
   have hzl:zs.length=n:=by
    have:=congrArg List.length hxs
    simp at this
    omega
   apply List.ext_getElem?
   intro i
   by_cases hi:i<n
   ·obtain ⟨b,hb,hf⟩:=mapM_at hm i i (by simp [hi])
    obtain ⟨z,hc,rfl,_⟩:=DataW.trod_string he hf
    have h1:cs[i]? =some (.string z):=by
     have:=congrArg (·[0]?) hc
     simpa [List.getElem?_take,List.getElem?_drop] using this
    have h2:(xs.map (·.1))[i]? =some (DataW.lit (.string z.data.toList):DataW H):=by simp [hb]
    rw [hxs] at h2
    simp only [List.getElem?_map,Option.map_eq_some_iff,DataW.lit.injEq,Lit.string.injEq] at h2
    obtain ⟨z',hz',hz2⟩:=h2
    subst hz2
    simp [h1,hz',S]
   ·rw [List.getElem?_eq_none (by omega),List.getElem?_eq_none (by simp;omega)]
  ·cases h
theorem laidMet_of {P:Program} {laid:List (String×DataW Unit)} {w:World} (hf:(laid.filter fun x=>x.2.handleName?.isSome)=[]) (h:laidMetH P laid w):laidMet P laid w:=by
 unfold laidMetH at h
 rw [hf] at h
 exact h
theorem gl_strs {P:Program} {laid:List (String×DataW Unit)} {w:World} {Γ:Ctx} (h:laidMet P laid w) (i:Nat) {n:String} {zs:List Str} {g:Nat} {t e:TypeId} {k:Nat}
  (hi:laid[i]? =some (n,.agg (zs.map fun z=> .lit (.string z)))) (hg:P.globalNamed n=some g) (hty:(P.globals[g]?).map (·.type)=some t)
  (ht:P.underlying t=some (.array k e)) (he:P.underlying e=some .string) (hce:P.cellsOf e=1) (hct:P.cellsOf t=k) (hM: ¬ Γ.M g):(gl g (zs.map S)).P Γ.M w:=by
 obtain ⟨ps,hl,_⟩:=h
 obtain ⟨g',t',cs,fuel,p,hg',ht',hv,hd⟩:=Bd _ _ hl i n _ hi
 obtain rfl:=Option.some.inj (hg.symm.trans hg')
 obtain rfl:=Option.some.inj (hty.symm.trans ht')
 have e1:=Cq ht he hce hct hd
 refine ⟨hM,?_⟩
 unfold World.var? at hv
 rw [hg] at hv
 simp only [Option.bind_some] at hv
 split at hv
 ·rename_i c ty fr hb
  obtain rfl:=Option.some.inj hv
  exact ⟨ty,fr,by rw [hb,← e1]⟩
 ·cases hv
theorem gl_ints {P:Program} {laid:List (String×DataW Unit)} {w:World} {Γ:Ctx} (h:laidMet P laid w) (i:Nat) {n:String} {kd:IntKind} {zs:List Int} {g:Nat} {t e:TypeId} {k:Nat}
  (hi:laid[i]? =some (n,tabData kd zs)) (hg:P.globalNamed n=some g) (hty:(P.globals[g]?).map (·.type)=some t)
  (ht:P.underlying t=some (.array k e)) (he:P.underlying e=some (.int kd)) (hce:P.cellsOf e=1) (hct:P.cellsOf t=k) (hM: ¬ Γ.M g):(gl g (zs.map (Value.int kd))).P Γ.M w:=by
 obtain ⟨ps,hl,_⟩:=h
 obtain ⟨g',t',cs,fuel,p,hg',ht',hv,hd⟩:=Bd _ _ hl i n _ hi
 obtain rfl:=Option.some.inj (hg.symm.trans hg')
 obtain rfl:=Option.some.inj (hty.symm.trans ht')
 have e1:=cells_of_tab ht he hce hct hd
 refine ⟨hM,?_⟩
 unfold World.var? at hv
 rw [hg] at hv
 simp only [Option.bind_some] at hv
 split at hv
 ·rename_i c ty fr hb
  obtain rfl:=Option.some.inj hv
  exact ⟨ty,fr,by rw [hb,← e1]⟩
 ·cases hv
/-! the row at the start: nothing is owned -/
def NoM (Γ:Ctx):Prop:= ∀ b,¬ Γ.M b
theorem Hi:NoM []:=fun b h=>by obtain ⟨it,h,_⟩:=h;cases h
theorem MH {it:Item} {Γ:Ctx} (hp:it.own=[]) (h:NoM Γ):NoM (it::Γ):=fun b hb=>by
 rcases Ctx.nT.1 hb with h1 | h1
 ·rw [hp] at h1;cases h1
 ·exact h b h1
theorem Lt (w:World):Sat [kept w (fun _=>False)] w:=Sat.nil.add rfl ⟨cX.refl w,Nat.le_refl _,fun b _ _=>⟨Hi b,rfl⟩⟩
theorem K8 (w:World):NoM [kept w (fun _=>False)]:=MH rfl Hi
theorem MX {w:World} {Γ:Ctx} (h:NoM Γ):Mv (fun _=>False) w Γ.M w:=⟨Nat.le_refl _,fun b _ _=>⟨h b,rfl⟩⟩
theorem Kl {w w':World} {Γ:Ctx} {i:Nat} (h:Sat Γ w') (hi:Γ[i]? =some (kept w (fun _=>False))):Below w.heap.size w w':=by
 obtain ⟨h1,h2,h3⟩:=h.kept hi
 exact ⟨h1.os,h1.tape,h1.output,h2,fun k hk=>(h3 k hk (fun h=>h)).2⟩
end Go.Proofs.YtgcgmclghbebjaaGreat
namespace Go.Proofs.YtgcgmclghbebjaaGreat
open Go.Lib Go.ChangeAt Go.ChangeShapes Go.WideShapes Go.RowKit
theorem Ab {Y:Type} (R:Nat→Y→Ex→Prop): ∀ (ys:List Y),(∀ i y,ys[i]? =some y→ ∃ e,R i y e)→ ∃ l:List Ex,l.length=ys.length∧ ∀ i y e,ys[i]? =some y→l[i]? =some e→R i y e
 | [],_=>⟨[],rfl,fun i y e h=>by simp at h⟩
 | y::ys,h=>by
  obtain ⟨e,he⟩:=h 0 y rfl
  obtain ⟨l,hl,hr⟩:=Ab (fun i=>R (i+1)) ys (fun i y hy=>h (i+1) y (by simpa using hy))
  refine ⟨e::l,by simp [hl],fun i y' e' hy hx=> ?_⟩
  cases i with
  | zero=>
   simp only [List.getElem?_cons_zero,Option.some.injEq] at hy hx
   subst hy;subst hx;exact he
  | succ i=>exact hr i y' e' (by simpa using hy) (by simpa using hx)
theorem Li {H:Type}: ∀ (l:List Ex) (ds:List (DataW H)),l.length=ds.length→(∀ (i:Nat) (e:Ex) (d:DataW H),l[i]? =some e→ds[i]? =some d→e.sz≤Rows.uptoBulk d)→szL l≤Rows.uptoBulkAll ds
 | [],[],_,_=>Nat.le_refl _
 | e::l,d::ds,hl,h=>by
  have h1:=h 0 e d rfl rfl
  have h2:=Li l ds (by simpa using hl) (fun i e d he hd=>h (i+1) e d (by simpa using he) (by simpa using hd))
  simp only [szL,Rows.uptoBulkAll]
  omega
 | [],_::_,h,_=>by simp at h
 | _::_,[],h,_=>by simp at h
theorem yd {H:Type} (d:DataW H):1≤Rows.uptoBulk d:=by
 cases d with
 | lit l=>cases l <;> simp [Rows.uptoBulk]
 | nil=>simp [Rows.uptoBulk]
 | ptr d=>simp [Rows.uptoBulk]
 | slice elems spare=>simp [Rows.uptoBulk]
 | agg parts=>simp [Rows.uptoBulk]
 | iface t d=>simp [Rows.uptoBulk]
 | map entries=>simp [Rows.uptoBulk]
 | held h=>simp [Rows.uptoBulk]
theorem qH {H:Type} {d:DataW H}: ∀ {l:List (DataW H)},d∈l→Rows.uptoBulk d≤Rows.uptoBulkAll l
 | x::r,h=>by
  simp only [Rows.uptoBulkAll]
  rcases List.mem_cons.1 h with rfl | h
  ·omega
  ·have:=qH h;omega
structure Ka (P:Program) (t:TypeId):Prop where
 fields: ∃ (fs:Array Field) (f0 f1 f2 f3:Field),P.underlying t=some (.struct fs)∧fs.size=4∧fs[0]? =some f0∧fs[1]? =some f1∧fs[2]? =some f2∧fs[3]? =some f3∧
  (f0.offset=0∧P.underlying f0.type=some (.int .i64)∧P.cellsOf f0.type=1)∧(f1.offset=1∧P.underlying f1.type=some (.int .i64)∧P.cellsOf f1.type=1)∧
  (f2.offset=2∧P.underlying f2.type=some (.int .i64)∧P.cellsOf f2.type=1)∧(f3.offset=3∧P.underlying f3.type=some (.slice t)∧P.cellsOf f3.type=1)
 cells:P.cellsOf t=4
theorem Rb {P:Program} {w:World} {base:Nat} {t:TypeId} {v:Value} {fs:Array Field} (ht:P.underlying t=some (.struct fs)) (h:Value.okWide P w .any base t v):
  ∃ cs,v= .agg cs∧cs.size=P.cellsOf t∧Row.okWide P w .any base t cs:=by
 unfold Value.okWide at h
 rw [ht] at h
 exact h
theorem IP {w:World} {a:Addr} {v:Value} (h:w.cell? a=some v):a.spot=none∧ ∃ cs e fr,w.heap[a.block]? =some (.cells cs e fr)∧cs[a.off]? =some v:=by
 unfold World.cell? at h
 split at h
 ·rename_i cs e fr hb
  split at h
  ·cases h
  ·rename_i hs
   exact ⟨by simpa using hs,cs,e,fr,hb,h⟩
 ·cases h
theorem IM {H:Type} {enc:TypeId×Value→H} {P:Program} {W:World} {t:TypeId} (L:Ka P t): ∀ (fuel:Nat) (cs:List Value) (x:DataW H×List MemPlace),
  DataW.trod enc P W 0 (fun _=>true) true fuel t cs=some x→ ∃ e,lX (fun _=>False) W cs e∧e.sz≤Rows.uptoBulk x.1:=by
 intro fuel
 induction fuel using Nat.strongRecOn with
 | ind fuel ih=>
 intro cs x h
 obtain ⟨⟨fs,f0,f1,f2,f3,hT,hsz,g0,g1,g2,g3,⟨o0,u0,c0⟩,⟨o1,u1,c1⟩,⟨o2,u2,c2⟩,⟨o3,u3,c3⟩⟩,hc⟩:=L
 obtain ⟨xs,n,rfl,rfl,hl,hxs,hf⟩:=DataW.trod_struct hT h
 rw [hc] at hl
 rw [hsz] at hxs
 obtain ⟨a0,a1,a2,a3,rfl⟩: ∃ a0 a1 a2 a3,cs=[a0,a1,a2,a3]:=by
  match cs,hl with
  | [a,b,c,d],_=>exact ⟨a,b,c,d,rfl⟩
 obtain ⟨x0,x1,x2,x3,rfl⟩: ∃ a0 a1 a2 a3,xs=[a0,a1,a2,a3]:=by
  match xs,hxs with
  | [a,b,c,d],_=>exact ⟨a,b,c,d,rfl⟩
 have t0:=hf 0 f0 g0
 have t1:=hf 1 f1 g1
 have t2:=hf 2 f2 g2
 have t3:=hf 3 f3 g3
 rw [o0,c0] at t0;rw [o1,c1] at t1;rw [o2,c2] at t2;rw [o3,c3] at t3
 simp only [List.drop_zero,List.take_succ_cons,List.take_zero,List.drop_succ_cons,List.getElem?_cons_zero,List.getElem?_cons_succ] at t0 t1 t2 t3
 obtain ⟨z0,e0,_,_⟩:=DataW.trod_int u0 t0
 obtain ⟨z1,e1,_,_⟩:=DataW.trod_int u1 t1
 obtain ⟨z2,e2,_,_⟩:=DataW.trod_int u2 t2
 obtain rfl:a0= .int .i64 z0:=by simpa using e0
 obtain rfl:a1= .int .i64 z1:=by simpa using e1
 obtain rfl:a2= .int .i64 z2:=by simpa using e2
 have hb: ∀ d,x3.1=d→Rows.uptoBulk d+1≤Rows.uptoBulk (DataW.agg ([x0,x1,x2,x3].map (·.1))):=fun d hd=>by
  subst hd
  have:=qH (d:=x3.1) (l:=[x0,x1,x2,x3].map (·.1)) (by simp)
  simp only [Rows.uptoBulk]
  omega
 rcases DataW.trod_slice u3 t3 with ⟨h3,hx3⟩ | ⟨a,len,cap,elems,rest,m,rfl,h3,hx3,_,hlc,_,hlen,hel,hsp,_⟩
 ·obtain rfl:a3= .slice none 0 0:=by simpa using h3
  refine ⟨.mk z0 z1 z2 [],.nil z0 z1 z2 none,?_⟩
  have:=hb _ rfl
  have:=yd x3.1
  simp only [Ex.sz,szL]
  omega
 ·obtain rfl:a3= .slice (some a) len cap:=by simpa using h3
  obtain ⟨hrl,hre⟩:=hsp rfl
  rw [hc] at hel hre
  -- all of it is there
  have cell: ∀ i,i<cap→ ∃ us y,W.cells? 0 (a.add (i*4)) 4=some us∧us.length=4∧(∀ j,j<4→W.cell? ((a.add (i*4)).add j)=us[j]?)∧DataW.trod enc P W 0 (fun _=>true) true m t us=some y∧(i<len→elems[i]? =some y):=fun i hi=>by
   by_cases hil:i<len
   ·obtain ⟨y,hy⟩: ∃ y,elems[i]? =some y:=⟨elems[i]'(by omega),List.getElem?_eq_getElem _⟩
    have:=hel i hil
    rw [hy,Option.bind_eq_some_iff] at this
    obtain ⟨us,h1,h2⟩:=this
    obtain ⟨_,h3,h4⟩:=World.cells?_some h1
    exact ⟨us,y,h1,h3,h4,h2,fun _=>hy⟩
   ·obtain ⟨y,hy⟩: ∃ y,rest[i-len]? =some y:=⟨rest[i-len]'(by omega),List.getElem?_eq_getElem _⟩
    have:=hre (i-len) (by omega)
    rw [hy,Option.bind_eq_some_iff] at this
    obtain ⟨us,h1,h2⟩:=this
    have e:len+(i-len)=i:=by omega
    rw [e] at h1
    obtain ⟨_,h3,h4⟩:=World.cells?_some h1
    exact ⟨us,y,h1,h3,h4,h2,fun h=>absurd h hil⟩
  by_cases hcap:cap=0
  ·subst hcap
   obtain rfl:len=0:=by omega
   refine ⟨.mk z0 z1 z2 [],.nil z0 z1 z2 (some a),?_⟩
   have:=hb _ rfl
   have:=yd x3.1
   simp only [Ex.sz,szL]
   omega
  ·obtain ⟨us0,_,_,hl0,hc0,_⟩:=cell 0 (by omega)
   have h00:=hc0 0 (by omega)
   rw [List.getElem?_eq_getElem (by omega)] at h00
   obtain ⟨hs,cs',e',fr,hblk,_⟩:=IP h00
   have hs':a.spot=none:=by simpa [Addr.add] using hs
   have hblk':W.heap[a.block]? =some (.cells cs' e' fr):=by simpa [Addr.add] using hblk
   obtain ⟨b,off,sp⟩:=a
   simp only at hs' hblk'
   subst hs'
   have at_: ∀ i j,((⟨b,off,none⟩:Addr).add (i*4)).add j=⟨b,off+i*4+j,none⟩:=fun i j=>by
    unfold Addr.add
    split <;> split <;> simp_all
   have cellx: ∀ i,i<cap→ ∃ us y,us.length=4∧(∀ j,j<4→cs'[off+i*4+j]? =us[j]?)∧DataW.trod enc P W 0 (fun _=>true) true m t us=some y∧(i<len→elems[i]? =some y):=fun i hi=>by
    obtain ⟨us,y,_,h3,h4,h5,h6⟩:=cell i hi
    refine ⟨us,y,h3,fun j hj=> ?_,h5,h6⟩
    have:=h4 j hj
    rw [at_] at this
    simpa [World.cell?,hblk'] using this
   have hsize:off+cap*4≤cs'.size:=by
    obtain ⟨us,_,h3,h4,_⟩:=cellx (cap-1) (by omega)
    have:=h4 3 (by omega)
    rw [List.getElem?_eq_getElem (by omega)] at this
    have:=(Array.getElem?_eq_some_iff.1 this).1
    omega
   have hel': ∀ i y,elems[i]? =some y→ ∃ e,(lX (fun _=>False) W (((cs'.toList.drop off).drop (i*4)).take 4) e∧e.sz≤Rows.uptoBulk y.1):=fun i y hy=>by
    have hi:i<len:=by rw [← hlen];exact (List.getElem?_eq_some_iff.1 hy).1
    obtain ⟨us,y',h3,h4,h5,h6⟩:=cellx i (by omega)
    obtain rfl:y'=y:=by have:=h6 hi;rw [hy] at this;exact (Option.some.inj this).symm
    have hus:((cs'.toList.drop off).drop (i*4)).take 4=us:=by
     apply List.ext_getElem?
     intro j
     by_cases hj:j<4
     ·rw [List.getElem?_take,if_pos hj,List.getElem?_drop,List.getElem?_drop,← h4 j hj]
      simp [Nat.add_assoc]
     ·rw [List.getElem?_take,if_neg hj,List.getElem?_eq_none (by omega)]
    rw [hus]
    exact ih m (by omega) us y' h5
   obtain ⟨l,hll,hR⟩:=Ab (fun i y e=>lX (fun _=>False) W (((cs'.toList.drop off).drop (i*4)).take 4) e∧e.sz≤Rows.uptoBulk y.1) elems hel'
   have hll':l.length=len:=by omega
   refine ⟨.mk z0 z1 z2 l,?_,?_⟩
   ·rw [← hll']
    refine .some z0 z1 z2 l b off cap cs' e' fr (fun h=>h) hblk' (by omega) (by omega) ?_ (fun i hi=> ?_)
    ·simp only [List.length_take,List.length_drop,Array.length_toList]
     omega
    ·obtain ⟨y,hy⟩: ∃ y,elems[i]? =some y:=⟨elems[i]'(by omega),List.getElem?_eq_getElem _⟩
     have:=(hR i y l[i] hy (List.getElem?_eq_getElem _)).1
     rw [List.drop_take,List.take_take]
     have e4:min 4 (l.length*4-i*4)=4:=by omega
     rw [e4]
     exact this
   ·have h1:=Li l (elems.map (·.1)) (by simp [hll]) (fun i e d he hd=>by
     rw [List.getElem?_map,Option.map_eq_some_iff] at hd
     obtain ⟨y,hy,rfl⟩:=hd
     exact (hR i y e hy he).2)
    have h2:x3.1= .slice (elems.map (·.1)) (rest.map (·.1)):=by rw [hx3]
    have h3:=hb _ h2
    simp only [Ex.sz]
    have h4:Rows.uptoBulk (DataW.slice (elems.map (·.1)) (rest.map (·.1)))=Rows.uptoBulkAll (elems.map (·.1))+Rows.uptoBulkAll (rest.map (·.1))+1:=by simp only [Rows.uptoBulk]
    omega
end Go.Proofs.YtgcgmclghbebjaaGreat
namespace Go.Proofs.YtgcgmclghbebjaaGreat
open Go.Lib Go.ChangeAt Go.ChangeShapes Go.WideShapes Go.RowKit
open Go.ChangeMaps (open_string)
def ku:Ty→List (Option TypeId)
 | .p a b=>ku a++ku b
 | .l _ | .ex=>[none]
 | _=>[]
def Qi:Ty→Pt
 | .i k=> .int k
 | .bo=> .bool
 | .s=> .str
 | .l t=> .sli t
 | t=> .dat t (ku t)
def Dom (Q:Nat→Prop):(t:Ty)→t.T→Prop
 | .i k,x=>(Lit.int k x).wf=true
 | .s,x=>x.length≤9223372036854775807
 | .p a b,x=>Dom Q a x.1∧Dom Q b x.2
 | .l t,x=>(List.length (α:=t.T) x≤9223372036854775807∧Q (List.length (α:=t.T) x))∧ ∀ y:t.T,List.Mem y x→Dom Q t y
 | .ex,x=>Q x.sz
 | _,_=>True
/-! the program's types and codes -/
def vT (P:Program) (t:TypeId):Bool:=(match P.underlying t with
 | some (.int .i64)=>true
 | _=>false)&&P.cellsOf t==1
def exB (P:Program) (t:TypeId):Bool:=(match P.underlying t with
 | some (.struct fs)=>(match fs.toList with
  | [f0,f1,f2,f3]=>f0.offset==0&&vT P f0.type&&(f1.offset==1&&vT P f1.type)&&(f2.offset==2&&vT P f2.type)&&(f3.offset==3&&P.cellsOf f3.type==1&&(match P.underlying f3.type with
   | some (.slice e)=>e==t
   | _=>false))
  | _=>false)
 | _=>false)&&P.cellsOf t==4
def oK (P:Program) (fit:TypeId→Ty→Bool) (tot:Nat):List Field→Nat→Ty→Bool
 | [],_,_=>false
 | [f],off,t=>f.offset==off&&off+P.cellsOf f.type==tot&&P.cellsOf f.type==t.rep.n&&fit f.type t
 | f::g::fs,off,t=>match t with
  | .p a b=>f.offset==off&&P.cellsOf f.type==a.rep.n&&fit f.type a&&oK P fit tot (g::fs) (off+P.cellsOf f.type) b
  | _=>false
def fits (P:Program):Nat→TypeId→Ty→Bool
 | 0,_,_=>false
 | n+1,i,t=>match P.underlying i with
  | some (.int k)=>(match t with
   | .i k'=>decide (k=k')
   | _=>false)
  | some .bool=>(match t with
   | .bo=>true
   | _=>false)
  | some .string=>(match t with
   | .s=>true
   | _=>false)
  | some (.slice e)=>(match t with
   | .l u=>P.cellsOf e==u.rep.n&&Nat.blt 0 u.rep.n&&fits P n e u
   | _=>false)
  | some (.struct fs)=>(match t with
   | .ex=>exB P i
   | .p a b=>oK P (fits P n) (P.cellsOf i) fs.toList 0 (.p a b)
   | _=>false)
  | _=>false
def noN:Ty→Bool
 | .n=>false
 | .p a b=>noN a&&noN b
 | _=>true
theorem uT {P:Program} {fit:TypeId→Ty→Bool} (h: ∀ i t,fit i t=true→noN t=true) {tot:Nat}: ∀ (fs:List Field) (off:Nat) (t:Ty),oK P fit tot fs off t=true→noN t=true
 | [],_,_,e=>by cases e
 | [f],off,t,e=>by
  simp only [oK,Bool.and_eq_true] at e
  exact h _ _ e.2
 | f::g::fs,off,t,e=>by
  unfold oK at e
  split at e
  ·rename_i a b
   simp only [Bool.and_eq_true] at e
   simp only [noN,Bool.and_eq_true]
   exact ⟨h _ _ e.1.2,uT h (g::fs) _ b e.2⟩
  ·cases e
theorem C1 {P:Program}: ∀ (n:Nat) (i:TypeId) (t:Ty),fits P n i t=true→noN t=true
 | 0,_,_,e=>by cases e
 | n+1,i,t,e=>by
  unfold fits at e
  split at e <;> (try cases e)
  ·split at e
   ·rfl
   ·cases e
  ·split at e
   ·rfl
   ·cases e
  ·split at e
   ·rfl
   ·cases e
  ·split at e
   ·rfl
   ·cases e
  ·split at e
   ·rfl
   ·exact uT (fun i t=>C1 n i t) _ _ _ e
   ·cases e
theorem ld {P:Program} {t:TypeId} (h:vT P t=true):P.underlying t=some (.int .i64)∧P.cellsOf t=1:=by
 unfold vT at h
 simp only [Bool.and_eq_true,beq_iff_eq] at h
 refine ⟨?_,h.2⟩
 revert h
 split
 ·rename_i h;intro _;exact h
 ·intro h;cases h.1
theorem Qu {P:Program} {t:TypeId} (h:exB P t=true):Ka P t:=by
 unfold exB at h
 simp only [Bool.and_eq_true,beq_iff_eq] at h
 obtain ⟨h1,h2⟩:=h
 split at h1
 ·rename_i fs hfs
  split at h1
  ·rename_i f0 f1 f2 f3 hl
   simp only [Bool.and_eq_true,beq_iff_eq] at h1
   obtain ⟨⟨⟨⟨a0,b0⟩,a1,b1⟩,a2,b2⟩,⟨a3,c3⟩,b3⟩:=h1
   have g: ∀ i:Nat,fs[i]? =[f0,f1,f2,f3][i]? :=fun i=>by rw [← hl,Array.getElem?_toList]
   have u3:P.underlying f3.type=some (.slice t):=by
    revert b3
    split
    ·rename_i e he
     intro hb
     rw [he,(by simpa using hb:e=t)]
    ·intro hb;cases hb
   refine ⟨⟨fs,f0,f1,f2,f3,hfs,?_,g 0,g 1,g 2,g 3,⟨a0,(ld b0).1,(ld b0).2⟩,⟨a1,(ld b1).1,(ld b1).2⟩,⟨a2,(ld b2).1,(ld b2).2⟩,⟨a3,u3,c3⟩⟩,h2⟩
   rw [← Array.length_toList,hl];rfl
  ·cases h1
 ·cases h1
theorem L3 {w:World} {a:Addr} {v:Value} (h:w.cell? a=some v):a.spot=none∧ ∃ cs e fr,w.heap[a.block]? =some (.cells cs e fr)∧cs[a.off]? =some v:=by
 unfold World.cell? at h
 split at h
 ·rename_i cs e fr hb
  split at h
  ·cases h
  ·rename_i hs
   exact ⟨by simpa using hs,cs,e,fr,hb,h⟩
 ·cases h
theorem xH {Y α:Type} (R:Nat→Y→α→Prop): ∀ (ys:List Y),(∀ i y,ys[i]? =some y→ ∃ e,R i y e)→ ∃ l:List α,l.length=ys.length∧ ∀ i y e,ys[i]? =some y→l[i]? =some e→R i y e
 | [],_=>⟨[],rfl,fun i y e h=>by simp at h⟩
 | y::ys,h=>by
  obtain ⟨e,he⟩:=h 0 y rfl
  obtain ⟨l,hl,hr⟩:=xH (fun i=>R (i+1)) ys (fun i y hy=>h (i+1) y (by simpa using hy))
  refine ⟨e::l,by simp [hl],fun i y' e' hy hx=> ?_⟩
  cases i with
  | zero=>
   simp only [List.getElem?_cons_zero,Option.some.injEq] at hy hx
   subst hy;subst hx;exact he
  | succ i=>exact hr i y' e' (by simpa using hy) (by simpa using hx)
theorem xM {H:Type}: ∀ (l:List (DataW H)),l.length≤Rows.uptoBulkAll l
 | []=>Nat.zero_le _
 | d::l=>by
  have:=xM l
  have:=yd d
  simp only [List.length_cons,Rows.uptoBulkAll]
  omega
theorem KN {H α:Type} {enc:TypeId×Value→H} {P:Program} {W:World} {t e:TypeId} {A:Rep α} {Q:Nat→Prop} {D:α→Prop} (ht:P.underlying t=some (.slice e)) (hA:P.cellsOf e=A.n) (hn:0<A.n)
  (fuel:Nat) (cs:List Value) (x:DataW H×List MemPlace) (hQ: ∀ n,n≤Rows.uptoBulk x.1→Q n)
  (he: ∀ (fuel:Nat) (us:List Value) (y:DataW H×List MemPlace),(∀ n,n≤Rows.uptoBulk y.1→Q n)→DataW.trod enc P W 0 (fun _=>true) true fuel e us=some y→ ∃ z,A.rd (fun _=>False) W us z∧D z)
  (h:DataW.trod enc P W 0 (fun _=>true) true fuel t cs=some x):
  ∃ (u:SLV) (zs:List α),cs=[sl u]∧SRd A (fun _=>False) W (sl u) zs∧(zs.length≤9223372036854775807∧Q zs.length)∧ ∀ z∈zs,D z:=by
 rcases DataW.trod_slice ht h with ⟨h3,_⟩ | ⟨a,len,cap,elems,rest,m,rfl,h3,hx,_,hlc,hmx,hlen,hel,hsp,_⟩
 ·exact ⟨(none,0,0),[],h3,SRd.nil,⟨by simp,hQ _ (Nat.zero_le _)⟩,by simp⟩
 ·obtain ⟨hrl,hre⟩:=hsp rfl
  rw [hA] at hel hre
  have hmx:cap≤9223372036854775807:=hmx
  have hb:Rows.uptoBulk x.1=Rows.uptoBulkAll (elems.map (·.1))+Rows.uptoBulkAll (rest.map (·.1))+1:=by rw [hx];simp only [Rows.uptoBulk]
  have hlb:len≤Rows.uptoBulk x.1:=by
   have:=xM (elems.map (·.1))
   simp only [List.length_map] at this
   omega
  have hQe: ∀ y∈elems,∀ n,n≤Rows.uptoBulk y.1→Q n:=fun y hy n hn=>hQ n (by
   have:=qH (d:=y.1) (l:=elems.map (·.1)) (List.mem_map.2 ⟨y,hy,rfl⟩)
   omega)
  have cell: ∀ i,i<cap→ ∃ us y,us.length=A.n∧(∀ j,j<A.n→W.cell? ((a.add (i*A.n)).add j)=us[j]?)∧DataW.trod enc P W 0 (fun _=>true) true m e us=some y∧(i<len→elems[i]? =some y):=fun i hi=>by
   by_cases hil:i<len
   ·obtain ⟨y,hy⟩: ∃ y,elems[i]? =some y:=⟨elems[i]'(by omega),List.getElem?_eq_getElem _⟩
    have:=hel i hil
    rw [hy,Option.bind_eq_some_iff] at this
    obtain ⟨us,h1,h2⟩:=this
    obtain ⟨_,h3,h4⟩:=World.cells?_some h1
    exact ⟨us,y,h3,h4,h2,fun _=>hy⟩
   ·obtain ⟨y,hy⟩: ∃ y,rest[i-len]? =some y:=⟨rest[i-len]'(by omega),List.getElem?_eq_getElem _⟩
    have:=hre (i-len) (by omega)
    rw [hy,Option.bind_eq_some_iff,show len+(i-len)=i by omega] at this
    obtain ⟨us,h1,h2⟩:=this
    obtain ⟨_,h3,h4⟩:=World.cells?_some h1
    exact ⟨us,y,h3,h4,h2,fun h=>absurd h hil⟩
  by_cases hcap:cap=0
  ·subst hcap
   obtain rfl:len=0:=by omega
   exact ⟨(some a,0,0),[],h3,SRd.emp,⟨by simp,hQ _ (Nat.zero_le _)⟩,by simp⟩
  ·obtain ⟨us0,_,hl0,hc0,_⟩:=cell 0 (by omega)
   have h00:=hc0 0 hn
   rw [List.getElem?_eq_getElem (by omega)] at h00
   obtain ⟨hs,cs',e',fr,hblk,_⟩:=L3 h00
   have hs':a.spot=none:=by simpa [Addr.add] using hs
   have hblk':W.heap[a.block]? =some (.cells cs' e' fr):=by simpa [Addr.add] using hblk
   obtain ⟨b,off,sp⟩:=a
   simp only at hs' hblk'
   subst hs'
   have at_: ∀ i j,((⟨b,off,none⟩:Addr).add (i*A.n)).add j=⟨b,off+i*A.n+j,none⟩:=fun i j=>by
    unfold Addr.add
    split <;> split <;> simp_all
   have cellx: ∀ i,i<cap→ ∃ us y,us.length=A.n∧(∀ j,j<A.n→cs'[off+i*A.n+j]? =us[j]?)∧DataW.trod enc P W 0 (fun _=>true) true m e us=some y∧(i<len→elems[i]? =some y):=fun i hi=>by
    obtain ⟨us,y,h3,h4,h5,h6⟩:=cell i hi
    refine ⟨us,y,h3,fun j hj=> ?_,h5,h6⟩
    have:=h4 j hj
    rw [at_] at this
    simpa [World.cell?,hblk'] using this
   have hsize:off+cap*A.n≤cs'.size:=by
    obtain ⟨us,_,h3,h4,_⟩:=cellx (cap-1) (by omega)
    have:=h4 (A.n-1) (by omega)
    rw [List.getElem?_eq_getElem (by omega)] at this
    have:=(Array.getElem?_eq_some_iff.1 this).1
    have e1:cap*A.n=(cap-1)*A.n+A.n:=by
     have:cap=(cap-1)+1:=by omega
     conv=>lhs;rw [this]
     rw [Nat.add_mul,Nat.one_mul]
    omega
   have hel': ∀ i y,elems[i]? =some y→ ∃ z,(A.rd (fun _=>False) W (((cs'.toList.drop off).drop (i*A.n)).take A.n) z∧D z):=fun i y hy=>by
    have hi:i<len:=by rw [← hlen];exact (List.getElem?_eq_some_iff.1 hy).1
    obtain ⟨us,y',h3,h4,h5,h6⟩:=cellx i (by omega)
    obtain rfl:y'=y:=by have:=h6 hi;rw [hy] at this;exact (Option.some.inj this).symm
    have hus:((cs'.toList.drop off).drop (i*A.n)).take A.n=us:=by
     apply List.ext_getElem?
     intro j
     by_cases hj:j<A.n
     ·rw [List.getElem?_take,if_pos hj,List.getElem?_drop,List.getElem?_drop,← h4 j hj]
      simp [Nat.add_assoc]
     ·rw [List.getElem?_take,if_neg hj,List.getElem?_eq_none (by omega)]
    rw [hus]
    exact he m us y' (hQe y' (List.mem_of_getElem? hy)) h5
   obtain ⟨l,hll,hR⟩:=xH (fun i y z=>A.rd (fun _=>False) W (((cs'.toList.drop off).drop (i*A.n)).take A.n) z∧D z) elems hel'
   have hll':l.length=len:=by omega
   have get: ∀ i (hi:i<l.length),A.rd (fun _=>False) W (((cs'.toList.drop off).drop (i*A.n)).take A.n) l[i]∧D l[i]:=fun i hi=>by
    obtain ⟨y,hy⟩: ∃ y,elems[i]? =some y:=⟨elems[i]'(by omega),List.getElem?_eq_getElem _⟩
    exact hR i y l[i] hy (List.getElem?_eq_getElem _)
   refine ⟨(some ⟨b,off,none⟩,len,cap),l,h3,.inr ⟨b,off,cap,cs',e',fr,by rw [hll'];rfl,(fun h=>h),hblk',by omega,hsize,?_⟩,⟨by omega,hQ _ (by omega)⟩,fun z hz=> ?_⟩
   ·have hle:l.length*A.n≤cap*A.n:=Nat.mul_le_mul_right _ (by omega)
    refine ⟨?_,fun i hi=> ?_⟩
    ·simp only [List.length_take,List.length_drop,Array.length_toList]
     omega
    ·have h1:i*A.n+A.n≤l.length*A.n:=by rw [← Nat.succ_mul];exact Nat.mul_le_mul_right _ hi
     rw [List.drop_take,List.take_take,Nat.min_eq_left (by omega)]
     exact (get i hi).1
   ·obtain ⟨i,hi,rfl⟩:=List.getElem_of_mem hz
    exact (get i hi).2
theorem GC {H:Type} {enc:TypeId×Value→H} {P:Program} {W:World} {Q:Nat→Prop}: ∀ (n:Nat) (i:TypeId) (t:Ty),fits P n i t=true→ ∀ (fuel:Nat) (cs:List Value) (x:DataW H×List MemPlace),
  (∀ n,n≤Rows.uptoBulk x.1→Q n)→DataW.trod enc P W 0 (fun _=>true) true fuel i cs=some x→ ∃ z:t.T,t.rep.rd (fun _=>False) W cs z∧Dom Q t z:=by
 intro n
 induction n with
 | zero=>intro i t h;cases h
 | succ n ih=>
 intro i t hf fuel cs x hQ h
 unfold fits at hf
 split at hf
 ·rename_i k hu
  split at hf
  ·obtain ⟨z,h1,_,h3⟩:=DataW.trod_int hu h
   have e:=of_decide_eq_true hf
   subst e
   exact ⟨z,h1,h3⟩
  ·cases hf
 ·rename_i hu
  split at hf
  ·obtain ⟨z,h1,_⟩:=DataW.trod_bool hu h
   exact ⟨z,h1,trivial⟩
  ·cases hf
 ·rename_i hu
  split at hf
  ·obtain ⟨⟨⟨z⟩⟩,h1,_,h3⟩:=DataW.trod_string hu h
   exact ⟨z,h1,h3⟩
  ·cases hf
 ·rename_i e hu
  split at hf
  ·rename_i u
   simp only [Bool.and_eq_true,beq_iff_eq,Nat.blt_eq] at hf
   obtain ⟨⟨h1,h2⟩,h3⟩:=hf
   obtain ⟨p,zs,a1,a2,a3,a4⟩:=KN (A:=u.rep) (Q:=Q) (D:=Dom Q u) hu h1 h2 fuel cs x hQ (fun fuel us y hy h=>ih e u h3 fuel us y hy h) h
   exact ⟨zs,⟨p,a1,a2⟩,a3,a4⟩
  ·cases hf
 ·rename_i fs hu
  have key: ∀ t:Ty,oK P (fits P n) (P.cellsOf i) fs.toList 0 t=true→ ∃ z:t.T,t.rep.rd (fun _=>False) W cs z∧Dom Q t z:=fun t hf=>by
   obtain ⟨xs,m,_,hx,hl,hxs,hfl⟩:=DataW.trod_struct hu h
   have hb:Rows.uptoBulk x.1=Rows.uptoBulkAll (xs.map (·.1))+1:=by rw [hx];simp only [Rows.uptoBulk]
   have hQe: ∀ y∈xs,∀ n,n≤Rows.uptoBulk y.1→Q n:=fun y hy n hn=>hQ n (by
    have:=qH (d:=y.1) (l:=xs.map (·.1)) (List.mem_map.2 ⟨y,hy,rfl⟩)
    omega)
   have one: ∀ (j:Nat) (f:Field) (t:Ty),fs.toList[j]? =some f→fits P n f.type t=true→ ∃ z:t.T,t.rep.rd (fun _=>False) W ((cs.drop f.offset).take (P.cellsOf f.type)) z∧Dom Q t z:=fun j f t hj ht=>by
    have hj':fs[j]? =some f:=by simpa using hj
    have h1:=hfl j f hj'
    have hjl:j<xs.length:=by rw [hxs];exact (Array.getElem?_eq_some_iff.1 hj').1
    rw [List.getElem?_eq_getElem hjl] at h1
    exact ih f.type t ht m _ _ (hQe _ (List.getElem_mem _)) h1
   have go: ∀ (r:List Field) (j off:Nat) (t:Ty),fs.toList.drop j=r→oK P (fits P n) (P.cellsOf i) r off t=true→ ∃ z:t.T,t.rep.rd (fun _=>False) W (cs.drop off) z∧Dom Q t z:=fun r=>by
    induction r with
    | nil=>intro j off t _ h;cases h
    | cons f r ihr=>
     intro j off t hr hf
     have hj:fs.toList[j]? =some f:=by
      have:=congrArg (·[0]?) hr
      simpa [List.getElem?_drop] using this
     have hr':fs.toList.drop (j+1)=r:=by
      rw [← List.drop_drop,hr];rfl
     cases r with
     | nil=>
      simp only [oK,Bool.and_eq_true,beq_iff_eq] at hf
      obtain ⟨⟨⟨h1,h2⟩,h3⟩,h4⟩:=hf
      obtain ⟨z,z1,z2⟩:=one j f t hj h4
      rw [h1,List.take_of_length_le (by simp;omega)] at z1
      exact ⟨z,z1,z2⟩
     | cons g r=>
      unfold oK at hf
      split at hf
      ·rename_i a b
       simp only [Bool.and_eq_true,beq_iff_eq] at hf
       obtain ⟨⟨⟨h1,h2⟩,h3⟩,h4⟩:=hf
       obtain ⟨z,z1,z2⟩:=one j f a hj h3
       obtain ⟨y,y1,y2⟩:=ihr (j+1) _ b hr' h4
       rw [h1] at z1
       refine ⟨(z,y),⟨_,_,?_,z1,y1⟩,z2,y2⟩
       rw [← List.drop_drop];exact (List.take_append_drop ..).symm
      ·cases hf
   obtain ⟨z,z1,z2⟩:=go fs.toList 0 0 t rfl hf
   exact ⟨z,by simpa using z1,z2⟩
  split at hf
  ·obtain ⟨e,h1,h2⟩:=IM (Qu hf) fuel cs x h
   exact ⟨e,h1,hQ _ h2⟩
  ·exact key _ hf
  ·cases hf
 ·cases hf
def fW (W:World) (I:Its):Prop:= ∀ it∈I,it.1=false∧it.2.bU=true∧ ∀ M,Mv (fun _=>False) W M W→it.2.P M W
theorem fW.nil {W:World}:fW W []:=fun it h=>by cases h
theorem fW.app {W:World} {I J:Its} (h:fW W I) (k:fW W J):fW W (I++J):=fun it hit=>by
 rcases List.mem_append.1 hit with h1 | h1
 ·exact h it h1
 ·exact k it h1
theorem fW.one {W:World} {α:Type} {A:Rep α} {p:SLV} {l:List α} (h:SRd A (fun _=>False) W (sl p) l):fW W [(false,wo true A p l false)]:=fun it hit=>by
 rcases List.mem_singleton.1 hit with rfl
 exact ⟨rfl,rfl,fun M hm _=>⟨h.mv hm,fun h=>by cases h⟩⟩
theorem s9 {W:World}: ∀ (t:Ty) (cs:List Value) (x:t.T),noN t=true→t.rep.rd (fun _=>False) W cs x→ ∀ (o:List (Option TypeId)) (N:List Nm),∃ I N',yi t x cs (ku t++o) N I N' o∧fW W I
 | .i k,cs,x,hn,h,o,N=>⟨[],N,⟨h,rfl,rfl,rfl⟩,.nil⟩
 | .bo,cs,x,hn,h,o,N=>⟨[],N,⟨h,rfl,rfl,rfl⟩,.nil⟩
 | .s,cs,x,hn,h,o,N=>⟨[],N,⟨h,rfl,rfl,rfl⟩,.nil⟩
 | .un,cs,x,hn,h,o,N=>⟨[],N,⟨h,rfl,rfl,rfl⟩,.nil⟩
 | .n,cs,x,hn,h,o,N=>by cases hn
 | .mp _ _,cs,x,hn,h,o,N=>absurd h id
 | .p a b,cs,x,hn,h,o,N=>by
  simp only [noN,Bool.and_eq_true] at hn
  obtain ⟨c1,c2,h1,h2,h3⟩:=h
  obtain ⟨I1,N1,s1,g1⟩:=s9 a c1 x.1 hn.1 h2 (ku b++o) N
  obtain ⟨I2,N2,s2,g2⟩:=s9 b c2 x.2 hn.2 h3 o N1
  refine ⟨I1++I2,N2,⟨c1,c2,N1,I1,I2,ku b++o,?_,s2,h1,rfl⟩,g1.app g2⟩
  rw [show ku (.p a b)++o=ku a++(ku b++o) by simp [ku]]
  exact s1
 | .l t,cs,x,hn,h,o,N=>by
  obtain ⟨p,h1,h2⟩:=h
  exact ⟨_,_,⟨⟨0,p,⟨0,0,none⟩,none,.bool false,⟨.un,()⟩⟩,h1,rfl,.inl ⟨rfl,rfl⟩⟩,.one h2⟩
 | .ex,cs,x,hn,h,o,N=>by
  obtain ⟨p,h1,h2⟩:=uf h
  exact ⟨_,_,⟨⟨0,p,⟨0,0,none⟩,none,.bool false,⟨.un,()⟩⟩,h1,rfl,.inl ⟨rfl,rfl⟩⟩,.one h2⟩
def Arg (W:World) (t:Ty) (v:Value) (z:t.T):Prop:= ∀ N:List Nm,∃ I N',Sem (Qi t) v none none N [⟨t,z⟩] I [] N'∧fW W I
theorem Gp {H:Type} {enc:TypeId×Value→H} {P:Program} {W:World} {Q:Nat→Prop} {base:Nat} {n:Nat} {i:TypeId} (t:Ty) (hf:fits P n i t=true) {v:Value} {d:DataW H} {ps:List MemPlace}
  (hw:Value.okWide P W .any base i v) (hQ: ∀ n,n≤Rows.uptoBulk d→Q n) (h:DataW.Trod enc P W 0 (fun _=>true) true i v d ps): ∃ z:t.T,Arg W t v z∧Dom Q t z:=by
 have hk:=h
 obtain ⟨fuel,hx⟩:=h
 obtain ⟨z,h1,h2⟩:=GC n i t hf fuel _ _ hQ hx
 refine ⟨z,?_,h2⟩
 cases n with
 | zero=>cases hf
 | succ n=>
 unfold fits at hf
 split at hf
 ·rename_i k hu
  split at hf
  ·have e:=of_decide_eq_true hf
   subst e
   obtain ⟨y,rfl,_⟩:=open_int hu hw hk
   have:y=z:=by
    have h1:([.int k y]:List Value)=[.int k z]:=h1
    injection h1 with h1 _
    injection h1
   subst this
   exact fun N=>⟨[],N,⟨y,rfl,rfl,rfl,rfl,rfl⟩,.nil⟩
  ·cases hf
 ·rename_i hu
  split at hf
  ·obtain ⟨y,rfl,_⟩:=open_bool hu hw hk
   have:y=z:=by
    have h1:([.bool y]:List Value)=[.bool z]:=h1
    injection h1 with h1 _
    injection h1
   subst this
   exact fun N=>⟨[],N,⟨y,rfl,rfl,rfl,rfl,rfl⟩,.nil⟩
  ·cases hf
 ·rename_i hu
  split at hf
  ·obtain ⟨⟨⟨y⟩⟩,rfl,_⟩:=open_string hu hw hk
   have:y=z:=by
    have h1:([S y]:List Value)=[S z]:=h1
    injection h1 with h1 _
    injection h1 with h1
    injection h1 with h1
    injection h1
   subst this
   exact fun N=>⟨[],N,⟨y,rfl,rfl,rfl,rfl,rfl⟩,.nil⟩
  ·cases hf
 ·rename_i e hu
  split at hf
  ·rename_i u
   obtain ⟨a,len,cap,rfl⟩:=okWide_slice hu hw
   obtain ⟨p,e1,h3⟩:=h1
   have e2:Value.slice a len cap=sl p:=by simpa [Value.cells] using e1
   rw [e2]
   exact fun N=>⟨_,_,⟨⟨0,p,⟨0,0,none⟩,none,.bool false,⟨.un,()⟩⟩,z,rfl,rfl,rfl,rfl,rfl⟩,.one h3⟩
  ·cases hf
 ·rename_i fs hu
  obtain ⟨cs,rfl,_,_⟩:=Rb hu hw
  split at hf
  ·obtain ⟨p,e1,h3⟩:=uf h1
   exact fun N=>⟨_,_,⟨cs.toList,z,[],by simp,rfl,⟨⟨0,p,⟨0,0,none⟩,none,.bool false,⟨.un,()⟩⟩,e1,rfl,.inl ⟨rfl,rfl⟩⟩,rfl⟩,.one h3⟩
  ·rename_i a b
   exact fun N=>by
    obtain ⟨I,N',s,g⟩:=s9 (.p a b) _ z (uT (fun i t=>C1 n i t) _ _ _ hf) h1 [] N
    exact ⟨I,N',⟨cs.toList,z,[],by simp,rfl,by simpa [Value.cells] using s,rfl⟩,g⟩
  ·cases hf
 ·cases hf
def Lz (W:World) (ps:List Pt) (vs:List Value) (D:List Dyn):Prop:= ∀ N:List Nm,∃ I N',lQ ps vs [] [] N D I [] N'∧fW W I
theorem My {W:World}:Lz W [] [] []:=fun N=>⟨[],N,⟨rfl,rfl,rfl,rfl,rfl⟩,.nil⟩
theorem KR {W:World} {t:Ty} {v:Value} {z:t.T} {ps:List Pt} {vs:List Value} {D:List Dyn} (h:Arg W t v z) (k:Lz W ps vs D):Lz W (Qi t::ps) (v::vs) (⟨t,z⟩::D):=fun N=>by
 obtain ⟨I1,N1,s1,g1⟩:=h N
 obtain ⟨I2,N2,s2,g2⟩:=k N1
 exact ⟨I1++I2,N2,⟨v,vs,[⟨t,z⟩],D,I1,I2,[],[],N1,rfl,s1,s2,rfl,rfl,rfl⟩,g1.app g2⟩
theorem Ns {W:World} {I:Its} {Γ:Ctx} (g:fW W I) (hn:NoM Γ) (h:Sat Γ W):Sat (bB I++Γ) W:=p6 h _ (fun it hit=>by
 obtain ⟨x,hx,rfl⟩:=List.mem_map.1 hit
 exact ⟨(g x hx).2.1,(g x hx).2.2 _ (MX hn)⟩)
end Go.Proofs.YtgcgmclghbebjaaGreat
namespace Go.Proofs.YtgcgmclghbebjaaGreat
namespace So
theorem JW {x:Int} (h:(Lit.int .i64 x).wf=true):I64 x:=by
 simp only [Lit.wf,Bool.and_eq_true,decide_eq_true_eq] at h
 exact h
theorem Ou {x:Int} (h:(Lit.int .u8 x).wf=true):0≤x∧x≤255:=by
 simp only [Lit.wf,Bool.and_eq_true,decide_eq_true_eq] at h
 exact h
theorem RA {Q:Nat→Prop} {s:List Fd} (h:Dom Q (.l (.p (.i .i64) (.i .i64))) s):FI s:=fun f hf=>⟨JW (h.2 f hf).1,JW (h.2 f hf).2⟩
theorem Qm {Q:Nat→Prop} (w:FIn) (h:Dom Q (.p (.l (.p (.i .i64) (.i .i64))) (.p (.i .u8) (.p (.i .u8) (.l (.l (.i .i64)))))) w):dZ w=some true:=
 K4 w (RA h.1) (Ou h.2.1) (Ou h.2.2.1)
end So
end Go.Proofs.YtgcgmclghbebjaaGreat
