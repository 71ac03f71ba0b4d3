/-
  Own texts for the statement StoreLossy, cut down to what it needs: SoH, SoI, SoFew, SoK, SoShown, SoOld, SoLossy, SoFull, KFr, KFx, KArg, SoFullT, SoLossyT. (cut and joined by a program)
-/
import Derived.Test.YtgcgmclghbebjaaGreatStoreLossyA
import Derived.Test.YtgcgmclghbebjaaGreatStoreLossyB
import Derived.Test.YtgcgmclghbebjaaGreatStoreLossyC
import Derived.Test.YtgcgmclghbebjaaGreatStoreLossyD
import Derived.Test.YtgcgmclghbebjaaGreatStoreLossyE
import Derived.Test.YtgcgmclghbebjaaGreatStoreLossyF
import Derived.Test.YtgcgmclghbebjaaGreatStoreLossyG
import Derived.Test.YtgcgmclghbebjaaGreatStoreLossyH
import Derived.Lib.LaidTab
import Derived.Below
import Derived.WalkKit
import Derived.ProofKit
import Derived.Test.YtgcgmclghbebjaaGreatRows
import Derived.Carry
import Derived.ChangeSlices
import Derived.OpenShut
namespace Go.Proofs.YtgcgmclghbebjaaGreat
namespace So
/-! sets of words -/
noncomputable def DS (d:Df.D) (W:Nat) (L:List (List Int)):Prop:= ∃ A,Df.Good d W L.length A∧ ∀ w,w.length=W→(Df.rC d w↔w∈L)
theorem FZ {W:Nat} (h:1≤W∧W≤64):DS ((W:Int),[],-1,0,[]) W []:=
 ⟨[],Df.OF h,fun w _=>⟨fun h=>absurd rfl h.1,fun h=>by simp at h⟩⟩
theorem AU {d:Df.D} {W:Nat} {L:List (List Int)} (h:DS d W L) {w:List Int} (hw:w.length=W):gC d w=some (decide (w∈L)):=by
 obtain ⟨A,G,ht⟩:=h
 have:=G.w1
 obtain ⟨r,h1,h2⟩:=Df.Mi G (w:=w) (by omega)
 rw [h1]
 congr 1
 rw [Bool.eq_iff_iff,h2,decide_eq_true_eq,ht w hw]
 exact ⟨fun h=>h.2,fun h=>⟨hw,h⟩⟩
theorem Tc {d:Df.D} {W:Nat} {L:List (List Int)} (h:DS d W L) {w:List Int} (hw:w.length=W) (hb:By w) (hm:w∈L) (hl:L.length<2097152):cM d w=some (d,false,0):=by
 obtain ⟨A,G,ht⟩:=h
 have:=G.w1
 rcases Df.KX G hl (w:=w) (fun b hb'=>by have:=hb b hb';omega) (by omega) with ⟨h1,_⟩ | ⟨_,_,h2⟩ | ⟨_,h2,_⟩
 ·exact absurd hw h1
 ·exact h2
 ·exact absurd ((ht w hw).2 hm) h2
theorem LC {d:Df.D} {W:Nat} {L:List (List Int)} (h:DS d W L) {w:List Int} (hw:w.length=W) (hb:By w) (hm:w∉L) (hl:L.length<2097152): ∃ d',cM d w=some (d',true,0)∧DS d' W (L++[w]):=by
 obtain ⟨A,G,ht⟩:=h
 have:=G.w1
 rcases Df.KX G hl (w:=w) (fun b hb'=>by have:=hb b hb';omega) (by omega) with ⟨h1,_⟩ | ⟨_,h1,_⟩ | ⟨_,_,d',A',h2,h3,h4⟩
 ·exact absurd hw h1
 ·exact absurd ((ht w hw).1 h1) hm
 ·refine ⟨d',h2,A',by simpa using h3,fun v hv=> ?_⟩
  rw [h4 v hv,ht v hv,List.mem_append,List.mem_singleton]
  exact Or.comm
theorem Qa {d:Df.D} {W:Nat} {L:List (List Int)} (h:DS d W L):qI d=some (L.length:Int):=by
 obtain ⟨A,G,_⟩:=h
 unfold qI;rw [G.many]
/-! the store of words -/
abbrev Wo:=Df.D×Df.D×Df.D
noncomputable def FlD (s:List Fd) (d:Df.D) (V:List (List Int)) (p:List Int→Bool):Prop:= ∃ F:List (List Int),DS d (di s) (F.map (enc s))∧F.Nodup∧(∀ v,v∈F↔p v=true)∧ ∀ v∈F,v∈V
structure OkW (s:List Fd) (cap:Int) (t:Wo) (V:List (List Int)) (g:Gf):Prop where
 cap1:cap≤1048576
 few:(V.length:Int)≤cap
 ins: ∀ v∈V,In s v
 nd:V.Nodup
 d0:DS t.1 (di s) (V.map (enc s))
 d1:FlD s t.2.1 V (g false)
 d2:FlD s t.2.2 V (g true)
theorem HH {s:List Fd} (hs:Fds s):1≤di s∧di s≤64:=by
 have:=nn hs;have:=hs.few
 unfold di;omega
theorem FlD.add {s:List Fd} {d:Df.D} {V:List (List Int)} {p:List Int→Bool} (h:FlD s d V p) (v:List Int):FlD s d (V++[v]) p:=by
 obtain ⟨F,h1,h2,h3,h4⟩:=h
 exact ⟨F,h1,h2,h3,fun u hu=>List.mem_append_left _ (h4 u hu)⟩
theorem FlD.has {s:List Fd} {d:Df.D} {V:List (List Int)} {p:List Int→Bool} (hV: ∀ v∈V,In s v) (h:FlD s d V p) {v:List Int} (hv:In s v):gC d (enc s v)=some (p v):=by
 obtain ⟨F,h1,h2,h3,h4⟩:=h
 rw [AU h1 (lS hv.len)]
 congr 1
 rw [Bool.eq_iff_iff,decide_eq_true_eq,l7 (fun u hu=>hV u (h4 u hu)) hv,h3]
theorem FlD.set {s:List Fd} {d:Df.D} {V:List (List Int)} {p:List Int→Bool} (hV: ∀ v∈V,In s v) (hl:V.length<2097152) (h:FlD s d V p) {v:List Int} (hv:In s v) (hm:v∈V):
  ∃ d' b,cM d (enc s v)=some (d',b,0)∧FlD s d' V (fun u=>p u||u==v):=by
 obtain ⟨F,h1,h2,h3,h4⟩:=h
 have hF:=O6 h2 h4
 by_cases hp:v∈F
 ·refine ⟨d,false,Tc h1 (lS hv.len) (zS s v) (List.mem_map.2 ⟨v,hp,rfl⟩) (by simp;omega),F,h1,h2,fun u=> ?_,h4⟩
  rw [Bool.or_eq_true,beq_iff_eq,h3]
  exact ⟨.inl,fun h=>h.elim id fun e=>e▸(h3 v).1 hp⟩
 ·obtain ⟨d',e1,e2⟩:=LC h1 (lS hv.len) (zS s v) (by rw [l7 (fun u hu=>hV u (h4 u hu)) hv];exact hp) (by simp;omega)
  refine ⟨d',true,e1,F++[v],by simpa using e2,List.nodup_append.2 ⟨h2,by simp,fun a ha b hb=>by simp at hb;subst hb;exact fun e=>hp (e▸ha)⟩,fun u=> ?_,fun u hu=> ?_⟩
  ·rw [Bool.or_eq_true,beq_iff_eq,List.mem_append,List.mem_singleton,h3]
  ·rcases List.mem_append.1 hu with hu | hu
   ·exact h4 u hu
   ·simp at hu;subst hu;exact hm
/-! all lossless stores -/
abbrev St:=Int×List Fd×Int×Fl×Co×Tr×Wo×(Int×Int×Int×(List Int×List Int×List Int))
structure OkS (t:St) (s:List Fd) (cap:Int) (V:List (List Int)) (g:Gf):Prop where
 sch:t.2.1=s
 cap_:t.2.2.1=cap
 kind:(t.1=0∧OkF s t.2.2.2.1 V g∧t.2.2.2.1.1.1=cap)∨(t.1=1∧OkC s cap t.2.2.2.2.1 V g)∨(t.1=2∧OkT s cap t.2.2.2.2.2.1 V g)∨(t.1=3∧OkW s cap t.2.2.2.2.2.2.1 V g)
theorem mI {t:St} {s:List Fd} (hs:Fds s) (ht:t.2.1=s) {v:List Int} (hv:In s v):bP t v=some (enc s v):=by
 unfold bP
 rw [ht,vR hs hv,ab]
theorem F0 {t:St} {v:List Int} (hin:bS t.2.1 v=some 0):
  (t.1=0→aS t v=eY () t v)∧(t.1=1→aS t v=eC () t v)∧(t.1=2→aS t v=eD () t v)∧(t.1=3→aS t v=eZ () t v)∧(t.1=4→aS t v=eU () t v):=by
 have eta: ∀ x:Option (St×Bool×Int),(x.bind fun r=>some (r.1,r.2.1,r.2.2))=x:=fun x=>by cases x <;> rfl
 have k: ∀ n:Nat,bh t=some n→aS t v=(bif (Nat.beq n 133) then eY () t v else bif (Nat.beq n 134) then eC () t v else bif (Nat.beq n 135) then eD () t v else bif (Nat.beq n 136) then eZ () t v else bif (Nat.beq n 137) then eU () t v else none):=by
  intro n hn
  unfold aS
  rw [hin,ab,show ((0:Int) != 0)=false from rfl,cond_false,hn,ab,eta,eta,eta,eta,eta]
 refine ⟨fun h=> ?_,fun h=> ?_,fun h=> ?_,fun h=> ?_,fun h=> ?_⟩
 ·rw [k 133 (by unfold bh aG;rw [h];rfl)];rfl
 ·rw [k 134 (by unfold bh aG;rw [h];rfl)];rfl
 ·rw [k 135 (by unfold bh aG;rw [h];rfl)];rfl
 ·rw [k 136 (by unfold bh aG;rw [h];rfl)];rfl
 ·rw [k 137 (by unfold bh aG;rw [h];rfl)];rfl
theorem FQ {t:St} {v:List Int} (hin:bS t.2.1 v=some 0):
  (t.1=0→aX t v=(eW () t v).bind fun r=>some (r,0))∧(t.1=1→aX t v=(eB () t v).bind fun r=>some (r,0))∧(t.1=2→aX t v=(eA () t v).bind fun r=>some (r,0))∧(t.1=3→aX t v=(eX () t v).bind fun r=>some (r,0))∧(t.1=4→aX t v=(eT () t v).bind fun r=>some (r,0)):=by
 have k: ∀ n:Nat,bh t=some n→aX t v=(bif (Nat.beq n 133) then (eW () t v).bind fun r=>some (r,0) else bif (Nat.beq n 134) then (eB () t v).bind fun r=>some (r,0) else bif (Nat.beq n 135) then (eA () t v).bind fun r=>some (r,0) else bif (Nat.beq n 136) then (eX () t v).bind fun r=>some (r,0) else bif (Nat.beq n 137) then (eT () t v).bind fun r=>some (r,0) else none):=by
  intro n hn
  unfold aX
  rw [hin,ab,show ((0:Int) != 0)=false from rfl,cond_false,hn,ab]
 refine ⟨fun h=> ?_,fun h=> ?_,fun h=> ?_,fun h=> ?_,fun h=> ?_⟩
 ·rw [k 133 (by unfold bh aG;rw [h];rfl)];rfl
 ·rw [k 134 (by unfold bh aG;rw [h];rfl)];rfl
 ·rw [k 135 (by unfold bh aG;rw [h];rfl)];rfl
 ·rw [k 136 (by unfold bh aG;rw [h];rfl)];rfl
 ·rw [k 137 (by unfold bh aG;rw [h];rfl)];rfl
theorem EJ {t:St} {v:List Int} (f:Int) (hin:bS t.2.1 v=some 0):
  (t.1=0→bT t v f=gH () t v f)∧(t.1=1→bT t v f=fP () t v f)∧(t.1=2→bT t v f=fV () t v f)∧(t.1=3→bT t v f=gU () t v f)∧(t.1=4→bT t v f=hZ () t v f):=by
 have eta: ∀ x:Option (St×Int),(x.bind fun r=>some (r.1,r.2))=x:=fun x=>by cases x <;> rfl
 have k: ∀ n:Nat,bh t=some n→bT t v f=(bif (Nat.beq n 133) then gH () t v f else bif (Nat.beq n 134) then fP () t v f else bif (Nat.beq n 135) then fV () t v f else bif (Nat.beq n 136) then gU () t v f else bif (Nat.beq n 137) then hZ () t v f else none):=by
  intro n hn
  unfold bT
  rw [hin,ab,show ((0:Int) != 0)=false from rfl,cond_false,hn,ab,eta,eta,eta,eta,eta]
 refine ⟨fun h=> ?_,fun h=> ?_,fun h=> ?_,fun h=> ?_,fun h=> ?_⟩
 ·rw [k 133 (by unfold bh aG;rw [h];rfl)];rfl
 ·rw [k 134 (by unfold bh aG;rw [h];rfl)];rfl
 ·rw [k 135 (by unfold bh aG;rw [h];rfl)];rfl
 ·rw [k 136 (by unfold bh aG;rw [h];rfl)];rfl
 ·rw [k 137 (by unfold bh aG;rw [h];rfl)];rfl
theorem GD {t:St} {v:List Int} (f:Int) (hin:bS t.2.1 v=some 0):
  (t.1=0→bC t v f=gJ () t v f)∧(t.1=1→bC t v f=fR () t v f)∧(t.1=2→bC t v f=fK () t v f)∧(t.1=3→bC t v f=gX () t v f)∧(t.1=4→bC t v f=gS () t v f):=by
 have eta: ∀ x:Option (Bool×Int),(x.bind fun r=>some (r.1,r.2))=x:=fun x=>by cases x <;> rfl
 have k: ∀ n:Nat,bh t=some n→bC t v f=(bif (Nat.beq n 133) then gJ () t v f else bif (Nat.beq n 134) then fR () t v f else bif (Nat.beq n 135) then fK () t v f else bif (Nat.beq n 136) then gX () t v f else bif (Nat.beq n 137) then gS () t v f else none):=by
  intro n hn
  unfold bC
  rw [hin,ab,show ((0:Int) != 0)=false from rfl,cond_false,hn,ab,eta,eta,eta,eta,eta]
 refine ⟨fun h=> ?_,fun h=> ?_,fun h=> ?_,fun h=> ?_,fun h=> ?_⟩
 ·rw [k 133 (by unfold bh aG;rw [h];rfl)];rfl
 ·rw [k 134 (by unfold bh aG;rw [h];rfl)];rfl
 ·rw [k 135 (by unfold bh aG;rw [h];rfl)];rfl
 ·rw [k 136 (by unfold bh aG;rw [h];rfl)];rfl
 ·rw [k 137 (by unfold bh aG;rw [h];rfl)];rfl
theorem in0 {t:St} {s:List Fd} (hs:Fds s) (ht:t.2.1=s) {v:List Int} (hv:In s v):bS t.2.1 v=some 0:=by
 have:=hs.few;have:=hv.len
 rw [ht,iz s v (by omega),gF.2 hv]
noncomputable def oO (s:List Fd) (cap:Int) (V:List (List Int)) (v:List Int):List (List Int)×Bool×Int:=if inC s v=0 then jR cap V v else (V,false,inC s v)
noncomputable def Od (s:List Fd) (V:List (List Int)) (v:List Int):Bool×Int:=if inC s v=0 then (decide (v∈V),0) else (false,inC s v)
noncomputable def pC (s:List Fd) (V:List (List Int)) (v:List Int) (flag:Int):Int:=if inC s v=0 then cg V v flag else inC s v
noncomputable def Kz (s:List Fd) (V:List (List Int)) (g:Gf) (v:List Int) (flag:Int):Gf:=if pC s V v flag=0 then upd g (flag==1) v else g
noncomputable def NQ (s:List Fd) (V:List (List Int)) (g:Gf) (v:List Int) (flag:Int):Bool:=if pC s V v flag=0 then g (flag==1) v else false
theorem Sc {s:List Fd} (hs:ew s) {t:St} {cap:Int} {V:List (List Int)} {g:Gf} (h:OkS t s cap V g) (v:List Int) (hl:v.length<100000000):
  ∃ t',aS t v=some (t',(oO s cap V v).2)∧OkS t' s cap (oO s cap V v).1 g∧t'.1=t.1:=by
 unfold oO
 by_cases hc:inC s v=0
 ·rw [if_pos hc]
  have hv:=gF.1 hc
  have hin:=in0 hs.fds h.sch hv
  have hk:=mI hs.fds h.sch hv
  obtain ⟨k0,k1,k2,k3,_⟩:=F0 hin
  rcases h.kind with ⟨e,ok,hcap⟩ | ⟨e,ok⟩ | ⟨e,ok⟩ | ⟨e,ok⟩
  ·rw [k0 e]
   unfold eY
   obtain ⟨f,h1,h2,h3⟩:=IT hs.fds ok hv
   rw [hcap] at h1 h2 h3
   rw [hk,ab,h1,ab]
   exact ⟨_,rfl,⟨h.sch,h.cap_,.inl ⟨e,h2,h3⟩⟩,rfl⟩
  ·rw [k1 e]
   unfold eC
   obtain ⟨f,h1,h2⟩:=Kd hs.fds ok hv
   rw [h.sch,h1,ab]
   exact ⟨_,rfl,⟨rfl,h.cap_,.inr (.inl ⟨e,h2⟩)⟩,rfl⟩
  ·rw [k2 e]
   unfold eD
   obtain ⟨f,h1,h2⟩:=Jl hs ok hv
   rw [h.sch,h1,ab]
   exact ⟨_,rfl,⟨rfl,h.cap_,.inr (.inr (.inl ⟨e,h2⟩))⟩,rfl⟩
  ·rw [k3 e]
   unfold eZ jR
   have hm:=l7 ok.ins hv
   rw [hk,ab,AU ok.d0 (lS hv.len),ab]
   by_cases hV:v∈V
   ·rw [decide_eq_true (hm.2 hV),if_pos hV]
    exact ⟨t,rfl,h,rfl⟩
   ·rw [decide_eq_false (fun h'=>hV (hm.1 h')),if_neg hV,cond_false,Qa ok.d0,ab,h.cap_,List.length_map]
    by_cases hf:cap≤(V.length:Int)
    ·rw [decide_eq_true hf,if_pos hf]
     exact ⟨t,rfl,h,rfl⟩
    ·have h1:=ok.cap1;have h2:=ok.few
     rw [decide_eq_false hf,if_neg hf,cond_false]
     obtain ⟨d',e1,e2⟩:=LC ok.d0 (lS hv.len) (zS s v) (fun h'=>hV (hm.1 h')) (by simp;omega)
     rw [e1,ab]
     refine ⟨_,rfl,⟨h.sch,rfl,.inr (.inr (.inr ⟨e,⟨h1,by simp;omega,fun u hu=> ?_,?_,by simpa using e2,ok.d1.add v,ok.d2.add v⟩⟩))⟩,rfl⟩
     ·rcases List.mem_append.1 hu with hu | hu
      ·exact ok.ins u hu
      ·simp at hu;subst hu;exact hv
     ·exact List.nodup_append.2 ⟨ok.nd,by simp,fun a ha b hb=>by simp at hb;subst hb;exact fun e=>hV (e▸ha)⟩
 ·rw [if_neg hc]
  unfold aS
  rw [h.sch,iz s v hl,ab,show (inC s v != 0)=true by simpa using hc,cond_true]
  exact ⟨t,rfl,h,rfl⟩
theorem RA {s:List Fd} (hs:ew s) {t:St} {cap:Int} {V:List (List Int)} {g:Gf} (h:OkS t s cap V g) (v:List Int) (hl:v.length<100000000):aX t v=some (Od s V v):=by
 unfold Od
 by_cases hc:inC s v=0
 ·rw [if_pos hc]
  have hv:=gF.1 hc
  have hin:=in0 hs.fds h.sch hv
  have hk:=mI hs.fds h.sch hv
  obtain ⟨k0,k1,k2,k3,_⟩:=FQ hin
  rcases h.kind with ⟨e,ok,hcap⟩ | ⟨e,ok⟩ | ⟨e,ok⟩ | ⟨e,ok⟩
  ·rw [k0 e]
   unfold eW
   rw [hk,ab,IF hs.fds ok hv,ab,ab]
  ·rw [k1 e]
   unfold eB
   rw [h.sch,Ix hs.fds ok hv,ab,ab]
  ·rw [k2 e]
   unfold eA
   rw [h.sch,Kh hs ok hv,ab,ab]
  ·rw [k3 e]
   unfold eX
   rw [hk,ab,AU ok.d0 (lS hv.len),ab,ab]
   congr 2
   rw [decide_eq_decide];exact l7 ok.ins hv
 ·rw [if_neg hc]
  unfold aX
  rw [h.sch,iz s v hl,ab,show (inC s v != 0)=true by simpa using hc,cond_true]
theorem A0 {s:List Fd} (hs:Fds s) {t:St} (ht:t.2.1=s) {cap:Int} {V:List (List Int)} {g:Gf} (ok:OkW s cap t.2.2.2.2.2.2.1 V g) {v:List Int} (hv:In s v) (flag:Int):jo t v flag=some (cg V v flag):=by
 unfold jo cg
 simp only [bk]
 rcases ng flag with hb | hb
 ·rw [if_pos hb,show (decide (flag<0)||decide (1<flag))=true by simpa using hb,cond_true]
 ·rw [if_neg (show ¬ (flag<0∨1<flag) by omega),show (decide (flag<0)||decide (1<flag))=false by rcases hb with rfl | rfl <;> rfl,cond_false,mI hs ht hv,ab,AU ok.d0 (lS hv.len),ab]
  by_cases hm:v∈V
  ·rw [decide_eq_true ((l7 ok.ins hv).2 hm),if_pos hm];rfl
  ·rw [decide_eq_false (fun h=>hm ((l7 ok.ins hv).1 h)),if_neg hm];rfl
theorem RG {s:List Fd} (hs:ew s) {t:St} {cap:Int} {V:List (List Int)} {g:Gf} (h:OkS t s cap V g) (v:List Int) (hl:v.length<100000000) (flag:Int):
  ∃ t',bT t v flag=some (t',pC s V v flag)∧OkS t' s cap V (Kz s V g v flag)∧t'.1=t.1:=by
 unfold Kz pC
 by_cases hc:inC s v=0
 ·rw [if_pos hc]
  have hv:=gF.1 hc
  have hin:=in0 hs.fds h.sch hv
  have hk:=mI hs.fds h.sch hv
  obtain ⟨k0,k1,k2,k3,_⟩:=EJ flag hin
  rcases h.kind with ⟨e,ok,hcap⟩ | ⟨e,ok⟩ | ⟨e,ok⟩ | ⟨e,ok⟩
  ·rw [k0 e]
   unfold gH
   obtain ⟨f,h1,h2,h3⟩:=IP hs.fds ok hv flag
   rw [hk,ab,h1,ab]
   exact ⟨_,rfl,⟨h.sch,h.cap_,.inl ⟨e,h2,h3.trans hcap⟩⟩,rfl⟩
  ·rw [k1 e]
   unfold fP
   obtain ⟨f,h1,h2⟩:=IC hs.fds ok hv flag
   rw [h.sch,h1,ab]
   exact ⟨_,rfl,⟨rfl,h.cap_,.inr (.inl ⟨e,h2⟩)⟩,rfl⟩
  ·rw [k2 e]
   unfold fV
   obtain ⟨f,h1,h2⟩:=JF hs ok hv flag
   rw [h.sch,h1,ab]
   exact ⟨_,rfl,⟨rfl,h.cap_,.inr (.inr (.inl ⟨e,h2⟩))⟩,rfl⟩
  ·rw [k3 e]
   unfold gU
   have h1:=ok.cap1;have h2:=ok.few
   rw [A0 hs.fds h.sch ok hv,ab]
   by_cases hc0:cg V v flag=0
   ·rw [if_pos hc0,hc0,show ((0:Int) != 0)=false from rfl,cond_false]
    have hb:flag=0∨flag=1:=by
     rcases ng flag with hb | hb
     ·unfold cg at hc0;rw [if_pos hb] at hc0;omega
     ·exact hb
    have hm:v∈V:=Decidable.byContradiction fun hm=>by
     unfold cg at hc0;rw [if_neg (show ¬ (flag<0∨1<flag) by omega),if_neg hm] at hc0;omega
    rcases hb with rfl | rfl
    ·obtain ⟨d',b,e1,e2⟩:=ok.d1.set ok.ins (by omega) hv hm
     rw [show (IntKind.i64.wrap (1+0)==0)=false from rfl,show (IntKind.i64.wrap (1+0)==1)=true from rfl,cond_false,cond_true,hk,ab,e1,ab,cond_false,cond_true]
     refine ⟨_,rfl,⟨h.sch,h.cap_,.inr (.inr (.inr ⟨e,⟨h1,h2,ok.ins,ok.nd,ok.d0,?_,?_⟩⟩))⟩,rfl⟩
     ·show FlD s d' V (fun u=>g false u||(false==(0==1)&&u==v))
      simpa using e2
     ·show FlD s _ V (fun u=>g true u||(true==((0:Int)==1)&&u==v))
      simpa using ok.d2
    ·obtain ⟨d',b,e1,e2⟩:=ok.d2.set ok.ins (by omega) hv hm
     rw [show (IntKind.i64.wrap (1+1)==0)=false from rfl,show (IntKind.i64.wrap (1+1)==1)=false from rfl,show (IntKind.i64.wrap (1+1)==2)=true from rfl,cond_false,cond_false,cond_true,hk,ab,e1,ab,cond_false,cond_false,cond_true]
     refine ⟨_,rfl,⟨h.sch,h.cap_,.inr (.inr (.inr ⟨e,⟨h1,h2,ok.ins,ok.nd,ok.d0,?_,?_⟩⟩))⟩,rfl⟩
     ·show FlD s _ V (fun u=>g false u||(false==((1:Int)==1)&&u==v))
      simpa using ok.d1
     ·show FlD s d' V (fun u=>g true u||(true==((1:Int)==1)&&u==v))
      simpa using e2
   ·rw [if_neg hc0,show (cg V v flag != 0)=true by simpa using hc0,cond_true]
    exact ⟨t,rfl,h,rfl⟩
 ·rw [if_neg hc]
  unfold bT
  rw [h.sch,iz s v hl,ab,show (inC s v != 0)=true by simpa using hc,cond_true,if_neg hc]
  exact ⟨t,rfl,h,rfl⟩
theorem RN {s:List Fd} (hs:ew s) {t:St} {cap:Int} {V:List (List Int)} {g:Gf} (h:OkS t s cap V g) (v:List Int) (hl:v.length<100000000) (flag:Int):
  bC t v flag=some (NQ s V g v flag,pC s V v flag):=by
 unfold NQ pC
 by_cases hc:inC s v=0
 ·rw [if_pos hc]
  have hv:=gF.1 hc
  have hin:=in0 hs.fds h.sch hv
  have hk:=mI hs.fds h.sch hv
  obtain ⟨k0,k1,k2,k3,_⟩:=GD flag hin
  rcases h.kind with ⟨e,ok,hcap⟩ | ⟨e,ok⟩ | ⟨e,ok⟩ | ⟨e,ok⟩
  ·rw [k0 e]
   unfold gJ
   rw [hk,ab,JQ hs.fds ok hv flag,ab];rfl
  ·rw [k1 e]
   unfold fR
   rw [h.sch,IS hs.fds ok hv flag,ab];rfl
  ·rw [k2 e]
   unfold fK
   rw [h.sch,Ke hs ok hv flag,ab];rfl
  ·rw [k3 e]
   unfold gX
   rw [A0 hs.fds h.sch ok hv,ab]
   by_cases hc0:cg V v flag=0
   ·rw [if_pos hc0,hc0,show ((0:Int) != 0)=false from rfl,cond_false]
    have hb:flag=0∨flag=1:=by
     rcases ng flag with hb | hb
     ·unfold cg at hc0;rw [if_pos hb] at hc0;omega
     ·exact hb
    rcases hb with rfl | rfl
    ·rw [show (IntKind.i64.wrap (1+0)==0)=false from rfl,show (IntKind.i64.wrap (1+0)==1)=true from rfl,cond_false,cond_true,hk,ab,ok.d1.has ok.ins hv,ab];rfl
    ·rw [show (IntKind.i64.wrap (1+1)==0)=false from rfl,show (IntKind.i64.wrap (1+1)==1)=false from rfl,show (IntKind.i64.wrap (1+1)==2)=true from rfl,cond_false,cond_false,cond_true,hk,ab,ok.d2.has ok.ins hv,ab];rfl
   ·rw [if_neg hc0,show (cg V v flag != 0)=true by simpa using hc0,cond_true]
 ·rw [if_neg hc]
  unfold bC
  rw [h.sch,iz s v hl,ab,show (inC s v != 0)=true by simpa using hc,cond_true,if_neg hc]
end So
end Go.Proofs.YtgcgmclghbebjaaGreat
namespace Go.Proofs.YtgcgmclghbebjaaGreat
namespace So
theorem Fc {l:List Fd} (h:l.length<1000000000):cB l=some l:=by
 unfold cB
 rw [aU (cn (by omega) (by omega))]
abbrev Op:=Int×Int×Int×Int×Int×Int
noncomputable def Sx:St:=(0,[],0,((0,[],[]),[]),([],(0,[],[]),[]),([],[]),((0,[],0,0,[]),(0,[],0,0,[]),(0,[],0,0,[])),(0,0,0,([],[],[])))
noncomputable def lv (s:List Fd) (o:Op):St:=(o.1,s,o.2.1,((0,[],[]),[]),([],(0,[],[]),[]),([],[]),((0,[],0,0,[]),(0,[],0,0,[]),(0,[],0,0,[])),(0,0,0,([],[],[])))
noncomputable def thenS (x:Option (St×Int)):Option (St×Int):=x.bind fun r=>bif (r.2 != 0) then some (Sx,r.2) else some (r.1,0)
theorem DQ {s:List Fd} (hf:FI s) (hs:ew s) (o:Op):
  (o.1=0→cU s o=thenS (dX () (lv s o) o))∧(o.1=1→cU s o=thenS (dG () (lv s o) o))∧(o.1=2→cU s o=thenS (dF () (lv s o) o))∧
  (o.1=3→cU s o=thenS (dj () (lv s o) o))∧(o.1=4→cU s o=thenS (fw () (lv s o) o)):=by
 have hl:=hs.few
 have k: ∀ n:Nat,(decide (((5:Nat):Int)≤o.1))=false→decide (o.1<0)=false→(aG).bind (fun r54=>idx r54 o.1)=some n→cU s o=
   (bif (Nat.beq n 133) then thenS (dX () (lv s o) o) else bif (Nat.beq n 134) then thenS (dG () (lv s o) o) else bif (Nat.beq n 135) then thenS (dF () (lv s o) o) else bif (Nat.beq n 136) then thenS (dj () (lv s o) o) else bif (Nat.beq n 137) then thenS (fw () (lv s o) o) else none):=by
  intro n h5 h0 hn
  unfold cU
  obtain ⟨l,hk,hi⟩:=dU hn
  have hkl:l.length=5:=by
   unfold aG at hk;cases hk;rfl
  simp only [bk]
  rw [MW hf,ab,Ct.2 hs,h0,hk,Bool.not_true,Bool.false_or,Bool.not_false,cz,ab,hkl,h5,Bool.false_or,cond_false,ab,hi,ab,Fc (by omega),ab]
  rfl
 refine ⟨fun h=> ?_,fun h=> ?_,fun h=> ?_,fun h=> ?_,fun h=> ?_⟩
 ·rw [k 133 (by rw [h];rfl) (by rw [h];rfl) (by unfold aG;rw [h];rfl)];rfl
 ·rw [k 134 (by rw [h];rfl) (by rw [h];rfl) (by unfold aG;rw [h];rfl)];rfl
 ·rw [k 135 (by rw [h];rfl) (by rw [h];rfl) (by unfold aG;rw [h];rfl)];rfl
 ·rw [k 136 (by rw [h];rfl) (by rw [h];rfl) (by unfold aG;rw [h];rfl)];rfl
 ·rw [k 137 (by rw [h];rfl) (by rw [h];rfl) (by unfold aG;rw [h];rfl)];rfl
theorem Hv {s:List Fd} (hs:Fds s) (t:St) (ht:t.2.1=s) (o:Op) (h0:0≤o.2.1) (h1:o.2.1≤1048576):
  dj () t o=some ((t.1,t.2.1,t.2.2.1,t.2.2.2.1,t.2.2.2.2.1,t.2.2.2.2.2.1,(((di s:Int),[],-1,0,[]),((di s:Int),[],-1,0,[]),((di s:Int),[],-1,0,[])),t.2.2.2.2.2.2.2),0):=by
 unfold dj
 simp only [bk]
 rw [decide_eq_false (show ¬ o.2.1<0 by omega),decide_eq_false (show ¬ 1048576<o.2.1 by omega),Bool.or_self,cond_false]
 have hB:iJ t.2.1=some (di s:Int):=by rw [ht];exact FK hs
 have hN:=Df.RQ (HH hs)
 obtain ⟨m,hm⟩: ∃ m,az=m+4:=⟨2^64-4,rfl⟩
 rw [hm,aH]
 generalize hF:dP () t=F
 have hs0: ∀ k a1 a2 a3 a4 a5 b1 b2 b3 b4 b5 c1 c2 c3 c4 c5,F k (a1,a2,a3,a4,a5,b1,b2,b3,b4,b5,c1,c2,c3,c4,c5,0)=k ((di s:Int),[],-1,0,[],b1,b2,b3,b4,b5,c1,c2,c3,c4,c5,1):=by
  intros;rw [← hF];unfold dP;dsimp only;rw [hB,ab,hN,ab];rfl
 have hs1: ∀ k a1 a2 a3 a4 a5 b1 b2 b3 b4 b5 c1 c2 c3 c4 c5,F k (a1,a2,a3,a4,a5,b1,b2,b3,b4,b5,c1,c2,c3,c4,c5,1)=k (a1,a2,a3,a4,a5,(di s:Int),[],-1,0,[],c1,c2,c3,c4,c5,2):=by
  intros;rw [← hF];unfold dP;dsimp only;rw [hB,ab,hN,ab];rfl
 have hs2: ∀ k a1 a2 a3 a4 a5 b1 b2 b3 b4 b5 c1 c2 c3 c4 c5,F k (a1,a2,a3,a4,a5,b1,b2,b3,b4,b5,c1,c2,c3,c4,c5,2)=k (a1,a2,a3,a4,a5,b1,b2,b3,b4,b5,(di s:Int),[],-1,0,[],3):=by
  intros;rw [← hF];unfold dP;dsimp only;rw [hB,ab,hN,ab];rfl
 rw [hs0,aH,hs1,aH,hs2,aH,← hF]
 rfl
theorem Qn {s:List Fd} (hf:FI s) (hs:ew s) (o:Op) (hk:0≤o.1∧o.1<4):
  ((o.2.1<0∨1048576<o.2.1)→cU s o=some (Sx,1))∧(0≤o.2.1→o.2.1≤1048576→ ∃ t,cU s o=some (t,0)∧OkS t s o.2.1 [] (fun _ _=>false)∧t.1=o.1):=by
 obtain ⟨k0,k1,k2,k3,_⟩:=DQ hf hs o
 have hko:o.1=0∨o.1=1∨o.1=2∨o.1=3:=by omega
 refine ⟨fun hb=> ?_,fun h0 h1=> ?_⟩
 ·rcases hko with h | h | h | h
  ·rw [k0 h];unfold dX;rw [zP,if_pos hb];rfl
  ·rw [k1 h];unfold dG
   rw [show (lv s o).2.1=s from rfl,zY hs.fds,if_pos hb];rfl
  ·rw [k2 h];unfold dF
   rw [show (lv s o).2.1=s from rfl,AA hs.fds,if_pos hb];rfl
  ·rw [k3 h];unfold dj
   simp only [bk]
   rw [show (decide (o.2.1<0)||decide (1048576<o.2.1))=true by simpa using hb];rfl
 ·have hb: ¬ (o.2.1<0∨1048576<o.2.1):=by omega
  rcases hko with h | h | h | h
  ·rw [k0 h];unfold dX;rw [zP,if_neg hb]
   exact ⟨_,rfl,⟨rfl,rfl,.inl ⟨h,Jr s h0 h1,rfl⟩⟩,rfl⟩
  ·rw [k1 h];unfold dG
   rw [show (lv s o).2.1=s from rfl,zY hs.fds,if_neg hb]
   exact ⟨_,rfl,⟨rfl,rfl,.inr (.inl ⟨h,KC s h0 h1⟩)⟩,rfl⟩
  ·rw [k2 h];unfold dF
   rw [show (lv s o).2.1=s from rfl,AA hs.fds,if_neg hb]
   exact ⟨_,rfl,⟨rfl,rfl,.inr (.inr (.inl ⟨h,Je s h0 h1⟩))⟩,rfl⟩
  ·rw [k3 h,Hv hs.fds (lv s o) rfl o h0 h1]
   have hw:=HH hs.fds
   exact ⟨_,rfl,⟨rfl,rfl,.inr (.inr (.inr ⟨h,⟨h1,h0,fun v hv=>by simp at hv,List.nodup_nil,FZ hw,⟨[],FZ hw,List.nodup_nil,fun v=>by simp,fun v hv=>by simp at hv⟩,⟨[],FZ hw,List.nodup_nil,fun v=>by simp,fun v hv=>by simp at hv⟩⟩⟩))⟩,rfl⟩
/-! as the document has it -/
theorem LG {s:List Fd} (hf:FI s):gb s=some (qE s):=by
 unfold gb qE
 simp only [bk]
 by_cases h:1≤s.length∧s.length≤17
 ·rw [decide_eq_false (show ¬ (s.length:Int)<1 by omega),decide_eq_false (show ¬ (17:Int)<s.length by omega),Bool.or_self,cond_false,decide_eq_true h.1,decide_eq_true h.2,Bool.true_and,Bool.true_and]
  have step: ∀ i (hi:i<s.length) (k:Int→Option Bool),dz s k (i:Int)=bif kM s[i] then k ((i+1:Nat):Int) else some false:=by
   intro i hi k
   have hI:=hf s[i] (List.getElem_mem hi)
   have hq:=La hI.1 hI.2
   unfold dz
   simp only [bk]
   rw [eV hi,cond_true,cm hi,ab,ab,nx (show i<9223372036854775807 by omega)]
   unfold kM
   by_cases h1:s[i].2<s[i].1
   ·rw [decide_eq_true h1,Bool.not_true,dk]
    simp only [Bool.true_or,Bool.not_true,dk,cond_true]
    rw [decide_eq_false (show ¬ s[i].1≤s[i].2 by omega),Bool.and_false,Bool.false_and,cond_false]
   ·rw [decide_eq_false h1,Bool.not_false,cz,ab,Bool.false_or]
    by_cases h2:s[i].1< -1073741824
    ·rw [decide_eq_true h2,Bool.not_true,dk]
     simp only [Bool.true_or,Bool.not_true,dk,cond_true]
     rw [decide_eq_false (show ¬ -1073741824≤s[i].1 by omega)]
     simp
    ·rw [decide_eq_false h2,Bool.not_false,cz,ab,Bool.false_or]
     by_cases h3:1073741824<s[i].2
     ·rw [decide_eq_true h3,Bool.not_true,dk,dk,Bool.true_or,cond_true,decide_eq_false (show ¬ s[i].2≤1073741824 by omega)]
      simp
     ·rw [decide_eq_false h3,Bool.not_false,cz,ab,cz,ab,Bool.false_or,w64 (by omega),decide_eq_true (show -1073741824≤s[i].1 by omega),decide_eq_true (show s[i].2≤1073741824 by omega),decide_eq_true (show s[i].1≤s[i].2 by omega)]
      by_cases h4:65535<s[i].2-s[i].1
      ·rw [decide_eq_true h4,decide_eq_false (show ¬ s[i].2-s[i].1≤65535 by omega)];rfl
      ·rw [decide_eq_false h4,decide_eq_true (show s[i].2-s[i].1≤65535 by omega)];rfl
  refine (findF (F:=dz s) (fun i=>(i:Int)) (fun i=>if h:i<s.length then !kM s[i] else false) (r:=fun i=>if i<s.length then some false else some true) s.length (s:=0) rfl (by omega) (fun i hi hp k=> ?_) (fun i hi hp k=> ?_) (fun k=> ?_)).elim (fun ⟨i,h1,h2,h3,h4⟩=> ?_) (fun ⟨h1,h4⟩=> ?_)
  ·rw [dif_pos hi] at hp
   rw [step i hi,show kM s[i]=true by simpa using hp,cond_true]
  ·rw [dif_pos hi] at hp
   rw [step i hi,show kM s[i]=false by simpa using hp,cond_false,if_pos hi]
  ·unfold dz
   rw [gw (Nat.lt_irrefl _),cond_false,if_neg (Nat.lt_irrefl _)]
  ·rw [h4,if_pos h1]
   rw [dif_pos h1] at h2
   congr 1
   rw [eq_comm,← Bool.not_eq_true]
   intro h
   have:=List.all_eq_true.1 h _ (List.getElem_mem h1)
   rw [this] at h2;cases h2
  ·rw [h4,if_neg (Nat.lt_irrefl _)]
   congr 1
   rw [eq_comm,List.all_eq_true]
   intro x hx
   obtain ⟨i,hi,e⟩:=List.getElem_of_mem hx
   have:=h1 i hi
   rw [dif_pos hi,e] at this
   simpa using this
 ·have e:(decide ((s.length:Int)<1)||decide ((17:Int)<(s.length:Int)))=true:=by simp;omega
  have e':(decide (1≤s.length)&&decide (s.length≤17))=false:=by
   rw [← Bool.not_eq_true,Bool.and_eq_true,decide_eq_true_eq,decide_eq_true_eq];omega
  rw [e,e',cond_true,Bool.false_and]
theorem RX (a b:List Int) (hn:a.length<100000000):kF a b=some (a==b):=by
 unfold kF
 by_cases hl:a.length=b.length
 ·rw [show ((a.length:Int) != (b.length:Int))=false by simp;omega,cond_false]
  have step: ∀ i (hi:i<a.length) (k:Int→Option Bool),dQ a b k (i:Int)=bif (a[i] != b[i]'(by omega)) then some false else k ((i+1:Nat):Int):=by
   intro i hi k
   unfold dQ
   rw [eV hi,cond_true,cm hi,cm (show i<b.length by omega),ab,ab,nx (show i<9223372036854775807 by omega)]
  refine (findF (F:=dQ a b) (fun i=>(i:Int)) (fun i=>if h:i<a.length then a[i] != b[i]'(by omega) else false) (r:=fun i=>if i<a.length then some false else some true) a.length (s:=0) rfl (by omega) (fun i hi hp k=> ?_) (fun i hi hp k=> ?_) (fun k=> ?_)).elim (fun ⟨i,h1,h2,h3,h4⟩=> ?_) (fun ⟨h1,h4⟩=> ?_)
  ·rw [dif_pos hi] at hp
   rw [step i hi,hp,cond_false]
  ·rw [dif_pos hi] at hp
   rw [step i hi,hp,cond_true,if_pos hi]
  ·unfold dQ
   rw [gw (Nat.lt_irrefl _),cond_false,if_neg (Nat.lt_irrefl _)]
  ·rw [h4,if_pos h1]
   rw [dif_pos h1] at h2
   congr 1
   rw [eq_comm,beq_eq_false_iff_ne]
   rintro rfl
   simp at h2
  ·rw [h4,if_neg (Nat.lt_irrefl _)]
   congr 1
   rw [eq_comm,beq_iff_eq]
   refine List.ext_getElem hl fun i h2 h3=> ?_
   have:=h1 i h2
   rw [dif_pos h2] at this
   simpa using this
 ·rw [show ((a.length:Int) != (b.length:Int))=true by simp;omega,cond_true]
  congr 1
  rw [eq_comm,beq_eq_false_iff_ne]
  rintro rfl
  exact hl rfl
end So
end Go.Proofs.YtgcgmclghbebjaaGreat
namespace Go.Proofs.YtgcgmclghbebjaaGreat
namespace So
abbrev Act:=Int×List Int×Int
noncomputable def Bx (l:List Act) (n:Nat):Bool:=decide (l.length≤n)&&l.all fun e=>decide (e.2.1.length≤40)
theorem Sj (l:List Act) (n:Nat) (hn:n<1000000):fy l (n:Int)=some (Bx l n):=by
 unfold fy Bx
 by_cases h:n<l.length
 ·rw [eV h,cond_true,decide_eq_false (by omega),Bool.false_and]
 ·rw [gw h,cond_false,decide_eq_true (by omega),Bool.true_and]
  have step: ∀ i (hi:i<l.length) (k:Int→Option Bool),dV l k (i:Int)=bif decide (l[i].2.1.length≤40) then k ((i+1:Nat):Int) else some false:=by
   intro i hi k
   unfold dV
   rw [eV hi,cond_true,cm hi,ab,nx (by omega)]
   by_cases h40:l[i].2.1.length≤40
   ·rw [decide_eq_true h40,decide_eq_false (show ¬ (40:Int)<(l[i].2.1.length:Int) by omega)];rfl
   ·rw [decide_eq_false h40,decide_eq_true (show (40:Int)<(l[i].2.1.length:Int) by omega)];rfl
  refine (findF (F:=dV l) (fun i=>(i:Int)) (fun i=>if h:i<l.length then !decide (l[i].2.1.length≤40) else false) (r:=fun i=>if i<l.length then some false else some true) l.length (s:=0) rfl (by omega) (fun i hi hp k=> ?_) (fun i hi hp k=> ?_) (fun k=> ?_)).elim (fun ⟨i,h1,h2,h3,h4⟩=> ?_) (fun ⟨h1,h4⟩=> ?_)
  ·rw [dif_pos hi,Bool.not_eq_false'] at hp
   rw [step i hi,hp,cond_true]
  ·rw [dif_pos hi,Bool.not_eq_true'] at hp
   rw [step i hi,hp,cond_false,if_pos hi]
  ·unfold dV
   rw [gw (Nat.lt_irrefl _),cond_false,if_neg (Nat.lt_irrefl _)]
  ·rw [h4,if_pos h1]
   rw [dif_pos h1,Bool.not_eq_true'] at h2
   congr 1
   rw [eq_comm,← Bool.not_eq_true]
   intro h
   have:=List.all_eq_true.1 h _ (List.getElem_mem h1)
   rw [this] at h2;cases h2
  ·rw [h4,if_neg (Nat.lt_irrefl _)]
   congr 1
   rw [eq_comm,List.all_eq_true]
   intro x hx
   obtain ⟨i,hi,e⟩:=List.getElem_of_mem hx
   have:=h1 i hi
   rw [dif_pos hi,e,Bool.not_eq_false'] at this
   exact this
theorem QD {l:List Act} {n:Nat}:Bx l n=true↔l.length≤n∧ ∀ e∈l,e.2.1.length≤40:=by
 unfold Bx
 rw [Bool.and_eq_true,decide_eq_true_eq,List.all_eq_true]
 simp only [decide_eq_true_eq]
end So
end Go.Proofs.YtgcgmclghbebjaaGreat
namespace Go.Proofs.YtgcgmclghbebjaaGreat
namespace So
/-! bits of a byte -/
noncomputable def ss (e:Int) (k:Nat):Bool:=im .u8 e (fu .u8 1 (k:Int)) != 0
theorem NP: ∀ e:Fin 256,∀ j k:Fin 8,ss (orI .u8 (e.val:Int) (fu .u8 1 (j.val:Int))) k.val=(ss (e.val:Int) k.val||j.val==k.val)∧0≤orI .u8 (e.val:Int) (fu .u8 1 (j.val:Int))∧orI .u8 (e.val:Int) (fu .u8 1 (j.val:Int))≤255:=by decide+kernel
theorem KV {e:Int} (h0:0≤e) (h1:e≤255) {j k:Nat} (hj:j<8) (hk:k<8):ss (orI .u8 e (fu .u8 1 (j:Int))) k=(ss e k||j==k)∧0≤orI .u8 e (fu .u8 1 (j:Int))∧orI .u8 e (fu .u8 1 (j:Int))≤255:=by
 obtain ⟨n,rfl⟩:=Int.eq_ofNat_of_zero_le h0
 exact NP ⟨n,by omega⟩ ⟨j,hj⟩ ⟨k,hk⟩
theorem Kj: ∀ k:Fin 8,ss 0 k.val=false:=by decide+kernel
noncomputable def pc (e:Int):Nat:=((List.range 8).filter (ss e)).length
/-! rows of bits -/
structure jb (row:List Int) (M:Nat) (p:Nat→Bool):Prop where
 len:row.length=(M+7)/8
 byt:By row
 bit: ∀ n e,row[n/8]? =some e→ss e (n%8)=p n
 low: ∀ n,p n=true→n<M
theorem jb.get {row:List Int} {M:Nat} {p:Nat→Bool} (h:jb row M p) {n:Nat} (hn:n<M): ∃ e,row[n/8]? =some e∧ss e (n%8)=p n∧0≤e∧e≤255:=by
 have hl:n/8<row.length:=by rw [h.len];omega
 have he:=List.getElem?_eq_getElem hl
 exact ⟨_,he,h.bit n _ he,h.byt _ (List.getElem_mem hl)⟩
theorem jb.zero (M:Nat):jb (List.replicate ((M+7)/8) 0) M (fun _=>false):=
 ⟨by simp,fun x hx=>by rw [(List.mem_replicate.1 hx).2];omega,fun n e h=>(by
  rw [List.getElem?_replicate] at h
  split at h
  ·rw [← Option.some.inj h];exact Kj ⟨n%8,Nat.mod_lt _ (by omega)⟩
  ·cases h),fun n h=>(by cases h)⟩
theorem jb.set {row:List Int} {M:Nat} {p:Nat→Bool} (h:jb row M p) {n:Nat} (hn:n<M) {e:Int} (he:row[n/8]? =some e):
  jb (row.set (n/8) (orI .u8 e (fu .u8 1 ((n%8:Nat):Int)))) M (fun m=>p m||m==n):=by
 have hl:=fA he
 have hb:=h.byt e (List.mem_of_getElem? he)
 refine ⟨by rw [List.length_set];exact h.len,fun x hx=> ?_,fun m e' hm=> ?_,fun m hm=> ?_⟩
 ·rcases List.mem_or_eq_of_mem_set hx with hx | hx
  ·exact h.byt x hx
  ·rw [hx]
   have:=KV hb.1 hb.2 (j:=n%8) (k:=0) (by omega) (by omega)
   exact this.2
 ·rw [dA hl] at hm
  split at hm
  ·rename_i e1
   rw [← Option.some.inj hm,(KV hb.1 hb.2 (by omega) (by omega)).1,← h.bit m e (by rw [← e1];exact he)]
   congr 1
   rw [Bool.eq_iff_iff,beq_iff_eq,beq_iff_eq]
   omega
  ·rename_i e1
   rw [h.bit m e' hm]
   have:(m==n)=false:=beq_eq_false_iff_ne.2 (fun e2=>e1 (by rw [e2]))
   rw [this,Bool.or_false]
 ·rcases Bool.or_eq_true_iff.1 hm with hm | hm
  ·exact h.low m hm
  ·rw [beq_iff_eq] at hm;omega
/-! places of a key -/
noncomputable def pls (key:List Int) (seed:Int) (K M:Nat):List Nat:=(List.range K).map fun i:Nat=>(hsh key (IntKind.u64.wrap (seed+IntKind.u64.wrap (i:Int)))).toNat%M
theorem oM {key:List Int} {seed:Int} {K M:Nat} (hM:0<M): ∀ n∈pls key seed K M,n<M:=by
 intro n hn
 simp only [pls,List.mem_map] at hn
 obtain ⟨i,_,rfl⟩:=hn
 exact Nat.mod_lt _ hM
theorem L5 {key:List Int} (hk:key.length<100000) (seed:Int) {K M:Nat} (hK:K≤16) (h0:0<M) (h1:M<1000000000):fD key seed (K:Int) (M:Int)=some ((pls key seed K M).map fun n:Nat=>(n:Int)):=by
 unfold fD
 refine jy (fun i=>(((pls key seed K M).take i).map fun n:Nat=>(n:Int),(i:Int))) K (by simp) (by omega) (fun i hi k=> ?_) (fun k=> ?_)
 ·have hl:((pls key seed K M).take i).length≤16:=by simp [pls];omega
  unfold oQ
  dsimp only
  rw [decide_eq_true (show (i:Int)<max (K:Int) 0 by omega),cond_true,Ip _ _ (by omega),ab,GL _ _ h0 h1,ab,aU (cn (by simp only [List.length_map,List.length_singleton];omega) (by simp only [List.length_map,List.length_singleton];omega)),nx (by omega)]
  congr 2
  have hg:(pls key seed K M)[i]? =some ((hsh key (IntKind.u64.wrap (seed+IntKind.u64.wrap (i:Int)))).toNat%M):=by
   unfold pls;rw [List.getElem?_map,List.getElem?_range hi];rfl
  rw [List.take_add_one,hg,List.map_append];rfl
 ·unfold oQ
  dsimp only
  rw [decide_eq_false (by omega),cond_false,List.take_of_length_le (by simp [pls])]
/-! the lossy store -/
abbrev Bl:=Int×Int×Int×(List Int×List Int×List Int)
structure OkB (b:Bl) (M K:Nat) (seed:Int) (p0 p1 p2:Nat→Bool):Prop where
 m:b.1=(M:Int)
 k:b.2.1=(K:Int)
 s:b.2.2.1=seed
 m1:1≤M∧M≤4194304
 k1:1≤K∧K≤16
 r0:jb b.2.2.2.1 M p0
 r1:jb b.2.2.2.2.1 M p1
 r2:jb b.2.2.2.2.2 M p2
noncomputable def orP (p:Nat→Bool) (l:List Nat):Nat→Bool:=fun n=>p n||l.contains n
theorem Nb (p:Nat→Bool) (l:List Nat) (n:Nat):(fun m=>orP p l m||m==n)=orP p (l++[n]):=by
 funext m
 unfold orP
 rw [List.contains_eq_any_beq,List.contains_eq_any_beq,List.any_append]
 simp only [List.any_cons,List.any_nil,Bool.or_false,Bool.or_assoc]
theorem FE {row:List Int} {M:Nat} {p:Nat→Bool} (h:jb row M p) {ps:List Nat} (hp: ∀ n∈ps,n<M) (_hM:M≤4194304) (hl:ps.length≤16) (F:(Bool×Int→Option Bool)→Bool×Int→Option Bool)
  (hs: ∀ k c (i:Nat) n e,ps[i]? =some n→row[n/8]? =some e→F k (c,(i:Int))=k (c&&ss e (n%8),((i+1:Nat):Int))) (he: ∀ k c,F k (c,(ps.length:Int))=some c):ar F az (true,0)=some (ps.all p):=by
 refine jy (fun i=>((ps.take i).all p,(i:Int))) ps.length (by simp) (by omega) (fun i hi k=> ?_) (fun k=>by rw [he,List.take_length])
 have hn:=List.getElem?_eq_getElem hi
 obtain ⟨e,e1,e2,_⟩:=h.get (hp _ (List.getElem_mem hi))
 rw [hs k _ i _ e hn e1,e2,List.take_add_one,hn,List.all_append]
 simp
theorem yV {row:List Int} {M:Nat} {p:Nat→Bool} (h:jb row M p) {ps:List Nat} (hp: ∀ n∈ps,n<M) (hM:M≤4194304) (hl:ps.length≤16): ∃ row',ar (dq (ps.map fun n:Nat=>(n:Int))) az (row,0)=some row'∧jb row' M (orP p ps):=by
 have key: ∀ (d i:Nat) (r:List Int) (m:Nat),i+d=ps.length→d<m→jb r M (orP p (ps.take i))→ ∃ row',ar (dq (ps.map fun n:Nat=>(n:Int))) m (r,(i:Int))=some row'∧jb row' M (orP p ps):=by
  intro d
  induction d with
  | zero=>
   intro i r m hi hm hr
   obtain ⟨m,rfl⟩: ∃ k,m=k+1:=⟨m-1,by omega⟩
   rw [aH]
   have:i=ps.length:=by omega
   subst this
   refine ⟨r,?_,by rw [List.take_length] at hr;exact hr⟩
   unfold dq
   dsimp only
   rw [List.length_map,gw (Nat.lt_irrefl _),cond_false]
  | succ d ih=>
   intro i r m hi hm hr
   obtain ⟨m,rfl⟩: ∃ k,m=k+1:=⟨m-1,by omega⟩
   rw [aH]
   have hil:i<ps.length:=by omega
   have hn:=List.getElem?_eq_getElem hil
   have hlt:=hp _ (List.getElem_mem hil)
   obtain ⟨e,e1,_⟩:=hr.get hlt
   have hr':=hr.set hlt e1
   rw [Nb] at hr'
   obtain ⟨row',s1,s2⟩:=ih (i+1) (r.set (ps[i]/8) (orI .u8 e (fu .u8 1 ((ps[i]%8:Nat):Int)))) m (by omega) (by omega) (by rw [List.take_add_one,hn];exact hr')
   refine ⟨row',?_,s2⟩
   rw [← s1]
   generalize ar (dq (ps.map fun n:Nat=>(n:Int))) m=k
   unfold dq
   dsimp only
   rw [List.length_map,eV hil,cond_true,jq,List.getElem?_map,hn,Option.map_some,ab,show Int.tdiv ((ps[i]:Nat):Int) 8=((ps[i]/8:Nat):Int) from rfl,w64 (by omega),bW e1,ab,show Int.tmod ((ps[i]:Nat):Int) 8=((ps[i]%8:Nat):Int) from rfl,aU (decide_eq_true (by omega)),Int.toNat_natCast,nx (by omega)]
 obtain ⟨row',s1,s2⟩:=key ps.length 0 row az (by omega) (by show ps.length<2^64;omega) (by
  have:orP p (ps.take 0)=p:=by funext n;simp [orP]
  rw [this];exact h)
 rw [show ((0:Nat):Int)=0 from rfl] at s1
 exact ⟨row',s1,s2⟩
variable {b : Bl} {M K : Nat} {seed : Int} {p0 p1 p2 : Nat → Bool}
theorem xU (key:List Int) (seed:Int) (K M:Nat):(pls key seed K M).length=K:=by simp [pls]
theorem OkB.pl (h:OkB b M K seed p0 p1 p2) {key:List Int} (hk:Key key):fD key b.2.2.1 b.2.1 b.1=some ((pls key seed K M).map fun n:Nat=>(n:Int)):=by
 rw [h.m,h.k,h.s]
 exact L5 hk.short seed h.k1.2 (by have:=h.m1;omega) (by have:=h.m1;omega)
theorem A6 (h:OkB b M K seed p0 p1 p2) {key:List Int} (hk:Key key):jv b key=some ((pls key seed K M).all p0):=by
 have hm:=h.m1
 have hl:=xU key seed K M
 have hK:=h.k1
 unfold jv zD wH
 rw [h.pl hk,ab]
 rw [FE (ps:=pls key seed K M) h.r0 (oM (by omega)) hm.2 (by omega) _ (fun k c i n e hn he=> ?_) (fun k c=> ?_),ab,ab]
 ·have hlt:=oM (by omega) n (List.mem_of_getElem? hn)
  have:=fA hn
  unfold qq
  simp only [bk]
  rw [List.length_map,eV (fA hn),cond_true,jq,List.getElem?_map,hn,Option.map_some,ab,show Int.tdiv ((n:Nat):Int) 8=((n/8:Nat):Int) from rfl,w64 (by omega),bW he,ab,show Int.tmod ((n:Nat):Int) 8=((n%8:Nat):Int) from rfl,aU (decide_eq_true (by omega)),nx (by omega)]
  rfl
 ·unfold qq
  dsimp only
  rw [List.length_map,gw (Nat.lt_irrefl _),cond_false]
theorem QQ (h:OkB b M K seed p0 p1 p2) {key:List Int} (hk:Key key): ∃ b',og b key=some (b',!(pls key seed K M).all p0)∧OkB b' M K seed (orP p0 (pls key seed K M)) p1 p2:=by
 have hm:=h.m1
 have hl:=xU key seed K M
 have hK:=h.k1
 unfold og
 rw [A6 h hk,ab]
 cases ha:(pls key seed K M).all p0
 ·obtain ⟨row',s1,s2⟩:=yV h.r0 (oM (by omega)) hm.2 (by omega) (ps:=pls key seed K M)
  unfold yY mB
  rw [cond_false,kl (by rw [h.r0.len];omega),ab]
  dsimp only
  rw [h.pl hk,ab,s1,ab,ab]
  exact ⟨_,rfl,⟨h.m,h.k,h.s,h.m1,h.k1,s2,h.r1,h.r2⟩⟩
 ·have:orP p0 (pls key seed K M)=p0:=by
   funext n
   unfold orP
   cases hn:p0 n
   ·rw [Bool.false_or,← Bool.not_eq_true]
    intro hc
    have:=List.all_eq_true.1 ha n (List.contains_iff_mem.1 hc)
    rw [hn] at this;cases this
   ·rfl
  rw [this,cond_true]
  exact ⟨b,rfl,h⟩
noncomputable def lr (key:List Int) (seed:Int) (K M:Nat) (p0:Nat→Bool) (flag:Int):Int:=if flag<0∨1<flag then 1 else if (pls key seed K M).all p0=true then 0 else 10
theorem L3 (h:OkB b M K seed p0 p1 p2) {key:List Int} (hk:Key key) (flag:Int):qF b key flag=some (lr key seed K M p0 flag):=by
 unfold qF lr
 simp only [bk]
 by_cases hb:flag<0∨1<flag
 ·rw [if_pos hb,show (decide (flag<0)||decide (1<flag))=true by simpa using hb,cond_true]
 ·rw [if_neg hb,show (decide (flag<0)||decide (1<flag))=false by simp;omega,cond_false,A6 h hk,ab]
  cases (pls key seed K M).all p0 <;> rfl
theorem S4: @rM= @dq:=rfl
theorem S1: @rv= @dq:=rfl
theorem Qi (h:OkB b M K seed p0 p1 p2) {key:List Int} (hk:Key key) (flag:Int): ∃ b',va b key flag=some (b',lr key seed K M p0 flag)∧
  OkB b' M K seed p0 (if lr key seed K M p0 flag=0∧flag=0 then orP p1 (pls key seed K M) else p1) (if lr key seed K M p0 flag=0∧flag=1 then orP p2 (pls key seed K M) else p2):=by
 have hm:=h.m1
 have hl:=xU key seed K M
 have hK:=h.k1
 unfold va
 rw [L3 h hk,ab]
 by_cases hw:lr key seed K M p0 flag=0
 ·have hb:flag=0∨flag=1:=by
   unfold lr at hw
   split at hw
   ·omega
   ·omega
  rw [hw,show ((0:Int) != 0)=false from rfl,cond_false]
  rcases hb with rfl | rfl
  ·obtain ⟨row',s1,s2⟩:=yV h.r1 (oM (by omega)) hm.2 (by omega) (ps:=pls key seed K M)
   unfold n7 qi
   rw [show (IntKind.i64.wrap (1+0)==0)=false from rfl,show (IntKind.i64.wrap (1+0)==1)=true from rfl,cond_false,cond_true,kl (by rw [h.r1.len];omega),ab]
   dsimp only
   rw [h.pl hk,ab,S4,s1,ab,ab]
   refine ⟨_,rfl,?_⟩
   rw [if_pos ⟨rfl,rfl⟩,if_neg (by omega)]
   exact ⟨h.m,h.k,h.s,h.m1,h.k1,h.r0,s2,h.r2⟩
  ·obtain ⟨row',s1,s2⟩:=yV h.r2 (oM (by omega)) hm.2 (by omega) (ps:=pls key seed K M)
   unfold n7 qB
   rw [show (IntKind.i64.wrap (1+1)==0)=false from rfl,show (IntKind.i64.wrap (1+1)==1)=false from rfl,show (IntKind.i64.wrap (1+1)==2)=true from rfl,cond_false,cond_false,cond_true,kl (by rw [h.r2.len];omega),ab]
   dsimp only
   rw [h.pl hk,ab,S1,s1,ab,ab]
   refine ⟨_,rfl,?_⟩
   rw [if_neg (by omega),if_pos ⟨rfl,rfl⟩]
   exact ⟨h.m,h.k,h.s,h.m1,h.k1,h.r0,h.r1,s2⟩
 ·rw [show (lr key seed K M p0 flag != 0)=true by simpa using hw,cond_true,if_neg (fun e=>hw e.1),if_neg (fun e=>hw e.1)]
  exact ⟨b,rfl,h⟩
theorem QO (h:OkB b M K seed p0 p1 p2) {key:List Int} (hk:Key key) (flag:Int):uI b key flag=some (if lr key seed K M p0 flag=0 then (pls key seed K M).all (if flag=1 then p2 else p1) else false,lr key seed K M p0 flag):=by
 have hm:=h.m1
 have hl:=xU key seed K M
 have hK:=h.k1
 unfold uI
 rw [L3 h hk,ab]
 by_cases hw:lr key seed K M p0 flag=0
 ·have hb:flag=0∨flag=1:=by
   unfold lr at hw
   split at hw
   ·omega
   ·omega
  rw [if_pos hw,hw,show ((0:Int) != 0)=false from rfl,cond_false]
  have key2: ∀ (row:List Int) (p:Nat→Bool) (r:Int),jb row M p→(∀ (k:_→Option Bool) c (i:Nat) (n:Nat) e,(pls key seed K M)[i]? =some n→row[n/8]? =some e→hU b r true ((pls key seed K M).map fun n:Nat=>(n:Int)) k (c,(i:Int))=k (c&&ss e (n%8),((i+1:Nat):Int)))→
    nT b key r=some ((pls key seed K M).all p):=by
   intro row p r hr hs
   unfold nT qL
   rw [h.pl hk,ab,FE (ps:=pls key seed K M) hr (oM (by omega)) hm.2 (by omega) _ hs (fun k c=> ?_),ab]
   unfold hU
   dsimp only
   rw [List.length_map,gw (Nat.lt_irrefl _),cond_false]
  rcases hb with rfl | rfl
  ·rw [key2 b.2.2.2.2.1 p1 _ h.r1 (fun k c i n e hn he=> ?_),ab]
   ·rfl
   ·have hlt:=oM (by omega) n (List.mem_of_getElem? hn)
    have:=fA hn
    unfold hU
    simp only [bk]
    rw [List.length_map,eV (fA hn),cond_true,jq,List.getElem?_map,hn,Option.map_some,ab,show (IntKind.i64.wrap (1+0)==0)=false from rfl,show (IntKind.i64.wrap (1+0)==1)=true from rfl,cond_false,cond_true,show Int.tdiv ((n:Nat):Int) 8=((n/8:Nat):Int) from rfl,w64 (by omega),bW he,ab,show Int.tmod ((n:Nat):Int) 8=((n%8:Nat):Int) from rfl,aU (decide_eq_true (by omega)),nx (by omega)]
    rfl
  ·rw [key2 b.2.2.2.2.2 p2 _ h.r2 (fun k c i n e hn he=> ?_),ab]
   ·rfl
   ·have hlt:=oM (by omega) n (List.mem_of_getElem? hn)
    have:=fA hn
    unfold hU
    simp only [bk]
    rw [List.length_map,eV (fA hn),cond_true,jq,List.getElem?_map,hn,Option.map_some,ab,show (IntKind.i64.wrap (1+1)==0)=false from rfl,show (IntKind.i64.wrap (1+1)==1)=false from rfl,show (IntKind.i64.wrap (1+1)==2)=true from rfl,cond_false,cond_false,cond_true,show Int.tdiv ((n:Nat):Int) 8=((n/8:Nat):Int) from rfl,w64 (by omega),bW he,ab,show Int.tmod ((n:Nat):Int) 8=((n%8:Nat):Int) from rfl,aU (decide_eq_true (by omega)),nx (by omega)]
    rfl
 ·rw [if_neg hw,show (lr key seed K M p0 flag != 0)=true by simpa using hw,cond_true]
/-! how many bits are 1 -/
noncomputable def ones (row:List Int):Nat:=(row.map pc).sum
/-! the store -/
structure OkL (t:St) (s:List Fd) (M K:Nat) (seed:Int) (p0 p1 p2:Nat→Bool):Prop where
 sch:t.2.1=s
 kind:t.1=4
 ok:OkB t.2.2.2.2.2.2.2 M K seed p0 p1 p2
noncomputable def plS (s:List Fd) (v:List Int) (seed:Int) (K M:Nat):List Nat:=pls (enc s v) seed K M
noncomputable def Ms (s:List Fd) (v:List Int) (seed:Int) (K M:Nat) (p0:Nat→Bool):Bool:=(plS s v seed K M).all p0
variable {s : List Fd} {t : St}
theorem Qs (hs:Fds s) (h:OkL t s M K seed p0 p1 p2) (v:List Int) (hl:v.length<100000000):
  ∃ t',aS t v=some (t',if inC s v=0 then (!Ms s v seed K M p0,0) else (false,inC s v))∧OkL t' s M K seed (if inC s v=0 then orP p0 (plS s v seed K M) else p0) p1 p2:=by
 by_cases hc:inC s v=0
 ·have hv:=gF.1 hc
  rw [if_pos hc,if_pos hc,(F0 (in0 hs h.sch hv)).2.2.2.2 h.kind]
  unfold eU
  obtain ⟨b',e1,e2⟩:=QQ h.ok (lN hs hv)
  rw [mI hs h.sch hv,ab,e1,ab]
  exact ⟨_,rfl,⟨h.sch,h.kind,e2⟩⟩
 ·rw [if_neg hc,if_neg hc]
  unfold aS
  rw [h.sch,iz s v hl,ab,show (inC s v != 0)=true by simpa using hc,cond_true]
  exact ⟨t,rfl,h⟩
theorem Qz (hs:Fds s) (h:OkL t s M K seed p0 p1 p2) (v:List Int) (hl:v.length<100000000):
  aX t v=some (if inC s v=0 then (Ms s v seed K M p0,0) else (false,inC s v)):=by
 by_cases hc:inC s v=0
 ·have hv:=gF.1 hc
  rw [if_pos hc,(FQ (in0 hs h.sch hv)).2.2.2.2 h.kind]
  unfold eT
  rw [mI hs h.sch hv,ab,A6 h.ok (lN hs hv),ab,ab];rfl
 ·rw [if_neg hc]
  unfold aX
  rw [h.sch,iz s v hl,ab,show (inC s v != 0)=true by simpa using hc,cond_true]
noncomputable def mo (s:List Fd) (v:List Int) (seed:Int) (K M:Nat) (p0:Nat→Bool) (flag:Int):Int:=if inC s v=0 then lr (enc s v) seed K M p0 flag else inC s v
theorem Qf (hs:Fds s) (h:OkL t s M K seed p0 p1 p2) (v:List Int) (hl:v.length<100000000) (flag:Int):
  ∃ t',bT t v flag=some (t',mo s v seed K M p0 flag)∧OkL t' s M K seed p0 (if mo s v seed K M p0 flag=0∧flag=0 then orP p1 (plS s v seed K M) else p1) (if mo s v seed K M p0 flag=0∧flag=1 then orP p2 (plS s v seed K M) else p2):=by
 unfold mo
 by_cases hc:inC s v=0
 ·have hv:=gF.1 hc
  rw [if_pos hc,(EJ flag (in0 hs h.sch hv)).2.2.2.2 h.kind]
  unfold hZ
  obtain ⟨b',e1,e2⟩:=Qi h.ok (lN hs hv) flag
  rw [mI hs h.sch hv,ab,e1,ab]
  exact ⟨_,rfl,⟨h.sch,h.kind,e2⟩⟩
 ·rw [if_neg hc,if_neg (fun e=>hc e.1),if_neg (fun e=>hc e.1)]
  unfold bT
  rw [h.sch,iz s v hl,ab,show (inC s v != 0)=true by simpa using hc,cond_true]
  exact ⟨t,rfl,h⟩
theorem P5 (hs:Fds s) (h:OkL t s M K seed p0 p1 p2) (v:List Int) (hl:v.length<100000000) (flag:Int):
  bC t v flag=some (if mo s v seed K M p0 flag=0 then (plS s v seed K M).all (if flag=1 then p2 else p1) else false,mo s v seed K M p0 flag):=by
 unfold mo
 by_cases hc:inC s v=0
 ·have hv:=gF.1 hc
  rw [if_pos hc,(GD flag (in0 hs h.sch hv)).2.2.2.2 h.kind]
  unfold gS
  rw [mI hs h.sch hv,ab,QO h.ok (lN hs hv) flag,ab];rfl
 ·rw [if_neg hc,if_neg hc]
  unfold bC
  rw [h.sch,iz s v hl,ab,show (inC s v != 0)=true by simpa using hc,cond_true]
theorem JK {M K:Nat} (hM:1≤M∧M≤4194304) (hK:1≤K∧K≤16) (seed:Int):uH (M:Int) (K:Int) seed=some (((M:Int),(K:Int),seed,(List.replicate ((M+7)/8) 0,List.replicate ((M+7)/8) 0,List.replicate ((M+7)/8) 0)),0):=by
 unfold uH
 simp only [bk]
 rw [decide_eq_false (show ¬ (M:Int)<1 by omega),decide_eq_false (show ¬ (4194304:Int)<(M:Int) by omega),decide_eq_false (show ¬ (K:Int)<1 by omega),decide_eq_false (show ¬ (16:Int)<(K:Int) by omega)]
 simp only [Bool.or_self,cond_false]
 have hb:IntKind.i64.wrap (Int.tdiv (IntKind.i64.wrap ((M:Int)+7)) 8)=(((M+7)/8:Nat):Int):=by
  rw [w64 (show _∧(M:Int)+7≤_ by omega),show Int.tdiv ((M:Int)+7) 8=(((M+7)/8:Nat):Int) from rfl,w64 (by omega)]
 obtain ⟨m,hm⟩: ∃ m,az=m+4:=⟨2^64-4,rfl⟩
 rw [hm,aH]
 generalize hF:kS (M:Int) (K:Int) seed=F
 have c1:aB ((M+7)/8) 1=true:=cn (by omega) (by omega)
 have c0:decide ((0:Int)≤(((M+7)/8:Nat):Int))=true:=decide_eq_true (by omega)
 have hs0: ∀ k a1 a2 a3,F k (a1,a2,a3,0)=k (List.replicate ((M+7)/8) 0,a2,a3,1):=by
  intros;rw [← hF];unfold kS;dsimp only;rw [hb,Int.toNat_natCast,c0,c1];rfl
 have hs1: ∀ k a1 a2 a3,F k (a1,a2,a3,1)=k (a1,List.replicate ((M+7)/8) 0,a3,2):=by
  intros;rw [← hF];unfold kS;dsimp only;rw [hb,Int.toNat_natCast,c0,c1];rfl
 have hs2: ∀ k a1 a2 a3,F k (a1,a2,a3,2)=k (a1,a2,List.replicate ((M+7)/8) 0,3):=by
  intros;rw [← hF];unfold kS;dsimp only;rw [hb,Int.toNat_natCast,c0,c1];rfl
 rw [hs0,aH,hs1,aH,hs2,aH,← hF]
 rfl
theorem Rh (hf:FI s) (hs:ew s) {M K:Nat} (hM:1≤M∧M≤4194304) (hK:1≤K∧K≤16) (o:Op) (h4:o.1=4) (hcap:0≤o.2.1∧o.2.1≤1048576) (hm:o.2.2.2.2.1=(M:Int)) (hk:o.2.2.2.2.2=(K:Int)):
  ∃ t,cU s o=some (t,0)∧OkL t s M K o.2.2.2.1 (fun _=>false) (fun _=>false) (fun _=>false):=by
 rw [(DQ hf hs o).2.2.2.2 h4]
 unfold fw
 simp only [bk]
 rw [decide_eq_false (show ¬ o.2.1<0 by omega),decide_eq_false (show ¬ 1048576<o.2.1 by omega),Bool.or_self,cond_false,hm,hk,JK hM hK,ab]
 exact ⟨_,rfl,⟨rfl,h4,⟨rfl,rfl,rfl,hM,hK,jb.zero M,jb.zero M,jb.zero M⟩⟩⟩
end So
end Go.Proofs.YtgcgmclghbebjaaGreat
namespace Go.Proofs.YtgcgmclghbebjaaGreat
namespace So
theorem Jv:jz=some true:=by
 show _=_
 kernel_rfl
end So
end Go.Proofs.YtgcgmclghbebjaaGreat
namespace Go.Proofs.YtgcgmclghbebjaaGreat
namespace So
noncomputable def unO (t:St) (i:Int):=(t.1,t.2.1,t.2.2.1,t.2.2.2.1.1.1,t.2.2.2.1.1.2.1,t.2.2.2.1.1.2.2,t.2.2.2.1.2,t.2.2.2.2.1.1,t.2.2.2.2.1.2.1.1,t.2.2.2.2.1.2.1.2.1,t.2.2.2.2.1.2.1.2.2,t.2.2.2.2.1.2.2,t.2.2.2.2.2.1.1,t.2.2.2.2.2.1.2,t.2.2.2.2.2.2.1.1.1,t.2.2.2.2.2.2.1.1.2.1,t.2.2.2.2.2.2.1.1.2.2.1,t.2.2.2.2.2.2.1.1.2.2.2.1,t.2.2.2.2.2.2.1.1.2.2.2.2,t.2.2.2.2.2.2.1.2.1.1,t.2.2.2.2.2.2.1.2.1.2.1,t.2.2.2.2.2.2.1.2.1.2.2.1,t.2.2.2.2.2.2.1.2.1.2.2.2.1,t.2.2.2.2.2.2.1.2.1.2.2.2.2,t.2.2.2.2.2.2.1.2.2.1,t.2.2.2.2.2.2.1.2.2.2.1,t.2.2.2.2.2.2.1.2.2.2.2.1,t.2.2.2.2.2.2.1.2.2.2.2.2.1,t.2.2.2.2.2.2.1.2.2.2.2.2.2,t.2.2.2.2.2.2.2.1,t.2.2.2.2.2.2.2.2.1,t.2.2.2.2.2.2.2.2.2.1,t.2.2.2.2.2.2.2.2.2.2.1,t.2.2.2.2.2.2.2.2.2.2.2.1,t.2.2.2.2.2.2.2.2.2.2.2.2,i)
abbrev OIn:=List Fd×Int×List (List Int)×List Int×Int
noncomputable def lastF (v:List Int) (f:Int) (t:St):Option Bool:=
 (aX t v).bind fun r147=>(mf t).bind fun r150=>(aS t v).bind fun r153=>
 bif (r147.2 != r153.2.2||(r147.2==0&&r153.2.1==r147.1)) then some false else (
 (bC t v f).bind fun r189=>(bT r153.1 v f).bind fun r192=>(bC r192.1 v f).bind fun r217=>(bC t v f).bind fun r220=>(aX t v).bind fun r223=>
 bif (r147.2 != 0) then some (true&&(r189.2==r147.2)&&(r192.2==r147.2)&&(r217.2==r147.2))
 else cd (true&&(r223.1==r147.1)) default (mf t) fun r243=>some (true&&(r223.1==r147.1)&&(r243==r150)&&(r192.2==0)&&(r217.2==0)&&r217.1&&(r189.1==r220.1)&&(r189.2==r220.2)&&((r189.2==0)==r147.1)))
theorem BZ (p:Nat→Bool) (l:List Nat):l.all (orP p l)=true:=by
 rw [List.all_eq_true]
 intro n hn
 unfold orP
 rw [List.contains_iff_mem.2 hn,Bool.or_true]
theorem MQ (s:List Fd) (cap:Int) (V:List (List Int)) (v:List Int):(oO s cap V v).1.length≤V.length+1:=by
 unfold oO jR
 split
 ·split
  ·simp
  ·split <;> simp
 ·simp
end So
end Go.Proofs.YtgcgmclghbebjaaGreat
namespace Go.Proofs.YtgcgmclghbebjaaGreat
namespace So
noncomputable def unL (t u:St) (i:Int):=(t.1,t.2.1,t.2.2.1,t.2.2.2.1.1.1,t.2.2.2.1.1.2.1,t.2.2.2.1.1.2.2,t.2.2.2.1.2,t.2.2.2.2.1.1,t.2.2.2.2.1.2.1.1,t.2.2.2.2.1.2.1.2.1,t.2.2.2.2.1.2.1.2.2,t.2.2.2.2.1.2.2,t.2.2.2.2.2.1.1,t.2.2.2.2.2.1.2,t.2.2.2.2.2.2.1.1.1,t.2.2.2.2.2.2.1.1.2.1,t.2.2.2.2.2.2.1.1.2.2.1,t.2.2.2.2.2.2.1.1.2.2.2.1,t.2.2.2.2.2.2.1.1.2.2.2.2,t.2.2.2.2.2.2.1.2.1.1,t.2.2.2.2.2.2.1.2.1.2.1,t.2.2.2.2.2.2.1.2.1.2.2.1,t.2.2.2.2.2.2.1.2.1.2.2.2.1,t.2.2.2.2.2.2.1.2.1.2.2.2.2,t.2.2.2.2.2.2.1.2.2.1,t.2.2.2.2.2.2.1.2.2.2.1,t.2.2.2.2.2.2.1.2.2.2.2.1,t.2.2.2.2.2.2.1.2.2.2.2.2.1,t.2.2.2.2.2.2.1.2.2.2.2.2.2,t.2.2.2.2.2.2.2.1,t.2.2.2.2.2.2.2.2.1,t.2.2.2.2.2.2.2.2.2.1,t.2.2.2.2.2.2.2.2.2.2.1,t.2.2.2.2.2.2.2.2.2.2.2.1,t.2.2.2.2.2.2.2.2.2.2.2.2,u.1,u.2.1,u.2.2.1,u.2.2.2.1.1.1,u.2.2.2.1.1.2.1,u.2.2.2.1.1.2.2,u.2.2.2.1.2,u.2.2.2.2.1.1,u.2.2.2.2.1.2.1.1,u.2.2.2.2.1.2.1.2.1,u.2.2.2.2.1.2.1.2.2,u.2.2.2.2.1.2.2,u.2.2.2.2.2.1.1,u.2.2.2.2.2.1.2,u.2.2.2.2.2.2.1.1.1,u.2.2.2.2.2.2.1.1.2.1,u.2.2.2.2.2.2.1.1.2.2.1,u.2.2.2.2.2.2.1.1.2.2.2.1,u.2.2.2.2.2.2.1.1.2.2.2.2,u.2.2.2.2.2.2.1.2.1.1,u.2.2.2.2.2.2.1.2.1.2.1,u.2.2.2.2.2.2.1.2.1.2.2.1,u.2.2.2.2.2.2.1.2.1.2.2.2.1,u.2.2.2.2.2.2.1.2.1.2.2.2.2,u.2.2.2.2.2.2.1.2.2.1,u.2.2.2.2.2.2.1.2.2.2.1,u.2.2.2.2.2.2.1.2.2.2.2.1,u.2.2.2.2.2.2.1.2.2.2.2.2.1,u.2.2.2.2.2.2.1.2.2.2.2.2.2,u.2.2.2.2.2.2.2.1,u.2.2.2.2.2.2.2.2.1,u.2.2.2.2.2.2.2.2.2.1,u.2.2.2.2.2.2.2.2.2.2.1,u.2.2.2.2.2.2.2.2.2.2.2.1,u.2.2.2.2.2.2.2.2.2.2.2.2,i)
theorem pO (t:St):(t.1,t.2.1,t.2.2.1,((t.2.2.2.1.1.1,t.2.2.2.1.1.2.1,t.2.2.2.1.1.2.2),t.2.2.2.1.2),(t.2.2.2.2.1.1,(t.2.2.2.2.1.2.1.1,t.2.2.2.2.1.2.1.2.1,t.2.2.2.2.1.2.1.2.2),t.2.2.2.2.1.2.2),(t.2.2.2.2.2.1.1,t.2.2.2.2.2.1.2),((t.2.2.2.2.2.2.1.1.1,t.2.2.2.2.2.2.1.1.2.1,t.2.2.2.2.2.2.1.1.2.2.1,t.2.2.2.2.2.2.1.1.2.2.2.1,t.2.2.2.2.2.2.1.1.2.2.2.2),(t.2.2.2.2.2.2.1.2.1.1,t.2.2.2.2.2.2.1.2.1.2.1,t.2.2.2.2.2.2.1.2.1.2.2.1,t.2.2.2.2.2.2.1.2.1.2.2.2.1,t.2.2.2.2.2.2.1.2.1.2.2.2.2),(t.2.2.2.2.2.2.1.2.2.1,t.2.2.2.2.2.2.1.2.2.2.1,t.2.2.2.2.2.2.1.2.2.2.2.1,t.2.2.2.2.2.2.1.2.2.2.2.2.1,t.2.2.2.2.2.2.1.2.2.2.2.2.2)),(t.2.2.2.2.2.2.2.1,t.2.2.2.2.2.2.2.2.1,t.2.2.2.2.2.2.2.2.2.1,(t.2.2.2.2.2.2.2.2.2.2.1,t.2.2.2.2.2.2.2.2.2.2.2.1,t.2.2.2.2.2.2.2.2.2.2.2.2)))=t:=rfl
abbrev LIn:=List Fd×Int×Int×Int×List Act
noncomputable def L4A (w:LIn) (t u:St) (j:Int) (ag:Int→Option Bool) (a b:Bool×Int):=du w true t.1 t.2.1 t.2.2.1 t.2.2.2.1.1.1 t.2.2.2.1.1.2.1 t.2.2.2.1.1.2.2 t.2.2.2.1.2 t.2.2.2.2.1.1 t.2.2.2.2.1.2.1.1 t.2.2.2.2.1.2.1.2.1 t.2.2.2.2.1.2.1.2.2 t.2.2.2.2.1.2.2 t.2.2.2.2.2.1.1 t.2.2.2.2.2.1.2 t.2.2.2.2.2.2.1.1.1 t.2.2.2.2.2.2.1.1.2.1 t.2.2.2.2.2.2.1.1.2.2.1 t.2.2.2.2.2.2.1.1.2.2.2.1 t.2.2.2.2.2.2.1.1.2.2.2.2 t.2.2.2.2.2.2.1.2.1.1 t.2.2.2.2.2.2.1.2.1.2.1 t.2.2.2.2.2.2.1.2.1.2.2.1 t.2.2.2.2.2.2.1.2.1.2.2.2.1 t.2.2.2.2.2.2.1.2.1.2.2.2.2 t.2.2.2.2.2.2.1.2.2.1 t.2.2.2.2.2.2.1.2.2.2.1 t.2.2.2.2.2.2.1.2.2.2.2.1 t.2.2.2.2.2.2.1.2.2.2.2.2.1 t.2.2.2.2.2.2.1.2.2.2.2.2.2 t.2.2.2.2.2.2.2.1 t.2.2.2.2.2.2.2.2.1 t.2.2.2.2.2.2.2.2.2.1 t.2.2.2.2.2.2.2.2.2.2.1 t.2.2.2.2.2.2.2.2.2.2.2.1 t.2.2.2.2.2.2.2.2.2.2.2.2 u.1 u.2.1 u.2.2.1 u.2.2.2.1.1.1 u.2.2.2.1.1.2.1 u.2.2.2.1.1.2.2 u.2.2.2.1.2 u.2.2.2.2.1.1 u.2.2.2.2.1.2.1.1 u.2.2.2.2.1.2.1.2.1 u.2.2.2.2.1.2.1.2.2 u.2.2.2.2.1.2.2 u.2.2.2.2.2.1.1 u.2.2.2.2.2.1.2 u.2.2.2.2.2.2.1.1.1 u.2.2.2.2.2.2.1.1.2.1 u.2.2.2.2.2.2.1.1.2.2.1 u.2.2.2.2.2.2.1.1.2.2.2.1 u.2.2.2.2.2.2.1.1.2.2.2.2 u.2.2.2.2.2.2.1.2.1.1 u.2.2.2.2.2.2.1.2.1.2.1 u.2.2.2.2.2.2.1.2.1.2.2.1 u.2.2.2.2.2.2.1.2.1.2.2.2.1 u.2.2.2.2.2.2.1.2.1.2.2.2.2 u.2.2.2.2.2.2.1.2.2.1 u.2.2.2.2.2.2.1.2.2.2.1 u.2.2.2.2.2.2.1.2.2.2.2.1 u.2.2.2.2.2.2.1.2.2.2.2.2.1 u.2.2.2.2.2.2.1.2.2.2.2.2.2 u.2.2.2.2.2.2.2.1 u.2.2.2.2.2.2.2.2.1 u.2.2.2.2.2.2.2.2.2.1 u.2.2.2.2.2.2.2.2.2.2.1 u.2.2.2.2.2.2.2.2.2.2.2.1 u.2.2.2.2.2.2.2.2.2.2.2.2 j ag a b
noncomputable def L3A (w:LIn) (i:Int) (k:_→Option Bool) (t u:St):=dp w true i k t.1 t.2.1 t.2.2.1 t.2.2.2.1.1.1 t.2.2.2.1.1.2.1 t.2.2.2.1.1.2.2 t.2.2.2.1.2 t.2.2.2.2.1.1 t.2.2.2.2.1.2.1.1 t.2.2.2.2.1.2.1.2.1 t.2.2.2.2.1.2.1.2.2 t.2.2.2.2.1.2.2 t.2.2.2.2.2.1.1 t.2.2.2.2.2.1.2 t.2.2.2.2.2.2.1.1.1 t.2.2.2.2.2.2.1.1.2.1 t.2.2.2.2.2.2.1.1.2.2.1 t.2.2.2.2.2.2.1.1.2.2.2.1 t.2.2.2.2.2.2.1.1.2.2.2.2 t.2.2.2.2.2.2.1.2.1.1 t.2.2.2.2.2.2.1.2.1.2.1 t.2.2.2.2.2.2.1.2.1.2.2.1 t.2.2.2.2.2.2.1.2.1.2.2.2.1 t.2.2.2.2.2.2.1.2.1.2.2.2.2 t.2.2.2.2.2.2.1.2.2.1 t.2.2.2.2.2.2.1.2.2.2.1 t.2.2.2.2.2.2.1.2.2.2.2.1 t.2.2.2.2.2.2.1.2.2.2.2.2.1 t.2.2.2.2.2.2.1.2.2.2.2.2.2 t.2.2.2.2.2.2.2.1 t.2.2.2.2.2.2.2.2.1 t.2.2.2.2.2.2.2.2.2.1 t.2.2.2.2.2.2.2.2.2.2.1 t.2.2.2.2.2.2.2.2.2.2.2.1 t.2.2.2.2.2.2.2.2.2.2.2.2 u.1 u.2.1 u.2.2.1 u.2.2.2.1.1.1 u.2.2.2.1.1.2.1 u.2.2.2.1.1.2.2 u.2.2.2.1.2 u.2.2.2.2.1.1 u.2.2.2.2.1.2.1.1 u.2.2.2.2.1.2.1.2.1 u.2.2.2.2.1.2.1.2.2 u.2.2.2.2.1.2.2 u.2.2.2.2.2.1.1 u.2.2.2.2.2.1.2 u.2.2.2.2.2.2.1.1.1 u.2.2.2.2.2.2.1.1.2.1 u.2.2.2.2.2.2.1.1.2.2.1 u.2.2.2.2.2.2.1.1.2.2.2.1 u.2.2.2.2.2.2.1.1.2.2.2.2 u.2.2.2.2.2.2.1.2.1.1 u.2.2.2.2.2.2.1.2.1.2.1 u.2.2.2.2.2.2.1.2.1.2.2.1 u.2.2.2.2.2.2.1.2.1.2.2.2.1 u.2.2.2.2.2.2.1.2.1.2.2.2.2 u.2.2.2.2.2.2.1.2.2.1 u.2.2.2.2.2.2.1.2.2.2.1 u.2.2.2.2.2.2.1.2.2.2.2.1 u.2.2.2.2.2.2.1.2.2.2.2.2.1 u.2.2.2.2.2.2.1.2.2.2.2.2.2 u.2.2.2.2.2.2.2.1 u.2.2.2.2.2.2.2.2.1 u.2.2.2.2.2.2.2.2.2.1 u.2.2.2.2.2.2.2.2.2.2.1 u.2.2.2.2.2.2.2.2.2.2.2.1 u.2.2.2.2.2.2.2.2.2.2.2.2
noncomputable def K2A (w:LIn) (i:Int) (k:_→Option Bool) (t u:St):=iQ w true i k t.1 t.2.1 t.2.2.1 t.2.2.2.1.1.1 t.2.2.2.1.1.2.1 t.2.2.2.1.1.2.2 t.2.2.2.1.2 t.2.2.2.2.1.1 t.2.2.2.2.1.2.1.1 t.2.2.2.2.1.2.1.2.1 t.2.2.2.2.1.2.1.2.2 t.2.2.2.2.1.2.2 t.2.2.2.2.2.1.1 t.2.2.2.2.2.1.2 t.2.2.2.2.2.2.1.1.1 t.2.2.2.2.2.2.1.1.2.1 t.2.2.2.2.2.2.1.1.2.2.1 t.2.2.2.2.2.2.1.1.2.2.2.1 t.2.2.2.2.2.2.1.1.2.2.2.2 t.2.2.2.2.2.2.1.2.1.1 t.2.2.2.2.2.2.1.2.1.2.1 t.2.2.2.2.2.2.1.2.1.2.2.1 t.2.2.2.2.2.2.1.2.1.2.2.2.1 t.2.2.2.2.2.2.1.2.1.2.2.2.2 t.2.2.2.2.2.2.1.2.2.1 t.2.2.2.2.2.2.1.2.2.2.1 t.2.2.2.2.2.2.1.2.2.2.2.1 t.2.2.2.2.2.2.1.2.2.2.2.2.1 t.2.2.2.2.2.2.1.2.2.2.2.2.2 t.2.2.2.2.2.2.2.1 t.2.2.2.2.2.2.2.2.1 t.2.2.2.2.2.2.2.2.2.1 t.2.2.2.2.2.2.2.2.2.2.1 t.2.2.2.2.2.2.2.2.2.2.2.1 t.2.2.2.2.2.2.2.2.2.2.2.2 u.1 u.2.1 u.2.2.1 u.2.2.2.1.1.1 u.2.2.2.1.1.2.1 u.2.2.2.1.1.2.2 u.2.2.2.1.2 u.2.2.2.2.1.1 u.2.2.2.2.1.2.1.1 u.2.2.2.2.1.2.1.2.1 u.2.2.2.2.1.2.1.2.2 u.2.2.2.2.1.2.2 u.2.2.2.2.2.1.1 u.2.2.2.2.2.1.2 u.2.2.2.2.2.2.1.1.1 u.2.2.2.2.2.2.1.1.2.1 u.2.2.2.2.2.2.1.1.2.2.1 u.2.2.2.2.2.2.1.1.2.2.2.1 u.2.2.2.2.2.2.1.1.2.2.2.2 u.2.2.2.2.2.2.1.2.1.1 u.2.2.2.2.2.2.1.2.1.2.1 u.2.2.2.2.2.2.1.2.1.2.2.1 u.2.2.2.2.2.2.1.2.1.2.2.2.1 u.2.2.2.2.2.2.1.2.1.2.2.2.2 u.2.2.2.2.2.2.1.2.2.1 u.2.2.2.2.2.2.1.2.2.2.1 u.2.2.2.2.2.2.1.2.2.2.2.1 u.2.2.2.2.2.2.1.2.2.2.2.2.1 u.2.2.2.2.2.2.1.2.2.2.2.2.2 u.2.2.2.2.2.2.2.1 u.2.2.2.2.2.2.2.2.1 u.2.2.2.2.2.2.2.2.2.1 u.2.2.2.2.2.2.2.2.2.2.1 u.2.2.2.2.2.2.2.2.2.2.2.1 u.2.2.2.2.2.2.2.2.2.2.2.2
theorem SY (w:LIn) (i:Int) (k:_→Option Bool) (t u:St):K2A w i k t u=ar (L3A w i k t u) az 0:=rfl
theorem K4 (w:LIn) (t u:St) (i:Nat) (hi: ¬ i<w.2.2.2.2.length) (k:_→Option Bool):bQ w true k (unL t u (i:Int))=some true:=by
 unfold bQ
 dsimp only [unL]
 rw [gw hi,cond_false]
theorem Jf (w:LIn) (t u:St) (i:Nat) {e:Act} (he:w.2.2.2.2[i]? =some e) (k:_→Option Bool):bQ w true k (unL t u (i:Int))=
  (aS t e.2.1).bind fun x=>(aS u e.2.1).bind fun y=>bif (x.2.2 != y.2.2||(y.2.1&& !x.2.1)) then some false else
   bif (Int.tmod e.1 2==0) then (bT x.1 e.2.1 e.2.2).bind fun p=>(bT y.1 e.2.1 e.2.2).bind fun q=>K2A w (i:Int) k p.1 q.1 else K2A w (i:Int) k x.1 y.1:=by
 unfold bQ
 dsimp only [unL]
 rw [eV (fA he),cond_true,bW he,ab,pO t,pO u]
 rfl
theorem RZ (w:LIn) (t u:St) (i:Nat) (hi:i<1000000) (k:_→Option Bool) (K:Int→Option Bool):L3A w (i:Int) k t u K ((i+1:Nat):Int)=k (unL t u ((i+1:Nat):Int)):=by
 unfold L3A dp
 rw [decide_eq_false (by omega),cond_false,nx (by omega)]
 rfl
theorem Pw (w:LIn) (t u:St) (i j:Nat) (hj:j≤i) {e:Act} (he:w.2.2.2.2[j]? =some e) (k:_→Option Bool) (K:Int→Option Bool):L3A w (i:Int) k t u K (j:Int)=
  (aX t e.2.1).bind fun a=>(aX u e.2.1).bind fun b=>ar (L4A w t u (j:Int) K a b) az 0:=by
 unfold L3A dp
 rw [decide_eq_true (by omega),cond_true,bW he,ab,pO t,pO u]
 rfl
theorem Rp (w:LIn) (t u:St) (j:Nat) (hj:j<1000000) (ag:Int→Option Bool) (a b:Bool×Int) (h:a.1=true→b.1=true) (K:Int→Option Bool):L4A w t u (j:Int) ag a b K 2=ag ((j+1:Nat):Int):=by
 have hb:(a.1&& !b.1)=false:=by
  cases h1:a.1
  ·rfl
  ·rw [h h1];rfl
 unfold L4A du
 simp only [bk]
 rw [show decide ((2:Int)<2)=false from rfl,cond_false,hb,cond_false,nx (by omega)]
theorem Qy (w:LIn) (t u:St) (j:Nat) {e:Act} (he:w.2.2.2.2[j]? =some e) (ag:Int→Option Bool) (a b:Bool×Int) (f:Nat) (hf:f<2) {c d:Bool×Int} (hc:bC t e.2.1 (f:Int)=some c) (hd:bC u e.2.1 (f:Int)=some d) (h:c.1=true→d.1=true) (K:Int→Option Bool):L4A w t u (j:Int) ag a b K (f:Int)=K ((f+1:Nat):Int):=by
 have hb:(c.1&& !d.1)=false:=by
  cases h1:c.1
  ·rfl
  ·rw [h h1];rfl
 unfold L4A du
 simp only [bk]
 rw [decide_eq_true (show (f:Int)<2 by omega),cond_true,bW he,ab,pO t,pO u,hc,ab,ab,hd,ab,hb,cond_false,nx (by omega)]
noncomputable def Inv (t u:St) (s:List Fd) (M K:Nat) (seed:Int) (n:Nat):Prop:= ∃ V g p0 p1 p2,OkS t s 100 V g∧OkL u s M K seed p0 p1 p2∧V.length≤n∧(∀ v∈V,(plS s v seed K M).all p0=true)∧(∀ v,g false v=true→(plS s v seed K M).all p1=true)∧(∀ v,g true v=true→(plS s v seed K M).all p2=true)
variable {s : List Fd} {t u : St} {M K n : Nat} {seed : Int}
theorem u6 {p:Nat→Bool} {l:List Nat} (q:List Nat) (h:l.all p=true):l.all (orP p q)=true:=by
 rw [List.all_eq_true] at h ⊢
 intro x hx
 unfold orP
 rw [h x hx,Bool.true_or]
theorem PQ (hs:ew s) (h:Inv t u s M K seed n) (hn:n<100) (v:List Int) (hv:v.length<100000000):
  ∃ t' a u' b,aS t v=some (t',a)∧aS u v=some (u',b)∧a.2=b.2∧(b.1=true→a.1=true)∧Inv t' u' s M K seed (n+1):=by
 obtain ⟨V,g,p0,p1,p2,h1,h2,h3,h4,h5,h6⟩:=h
 obtain ⟨t',a1,a2,_⟩:=Sc hs h1 v hv
 obtain ⟨u',b1,b2⟩:=Qs hs.fds h2 v hv
 refine ⟨t',_,u',_,a1,b1,?_,?_,_,g,_,p1,p2,a2,b2,?_,?_,h5,h6⟩
 ·by_cases hc:inC s v=0
  ·unfold oO jR
   rw [if_pos hc,if_pos hc]
   by_cases hm:v∈V
   ·rw [if_pos hm]
   ·rw [if_neg hm,if_neg (by omega)]
  ·unfold oO
   rw [if_neg hc,if_neg hc]
 ·by_cases hc:inC s v=0
  ·unfold oO jR
   rw [if_pos hc,if_pos hc]
   by_cases hm:v∈V
   ·rw [if_pos hm]
    intro hb
    have:=h4 v hm
    unfold Ms at hb
    rw [this] at hb;cases hb
   ·rw [if_neg hm,if_neg (by omega)]
    intro _;rfl
  ·rw [if_neg hc]
   intro hb;cases hb
 ·have:=MQ s 100 V v;omega
 ·intro x hx
  by_cases hc:inC s v=0
  ·rw [if_pos hc]
   unfold oO jR at hx
   rw [if_pos hc] at hx
   by_cases hm:v∈V
   ·rw [if_pos hm] at hx
    exact u6 _ (h4 x hx)
   ·rw [if_neg hm,if_neg (by omega)] at hx
    rcases List.mem_append.1 hx with hx | hx
    ·exact u6 _ (h4 x hx)
    ·rw [List.mem_singleton.1 hx];exact BZ _ _
  ·rw [if_neg hc]
   unfold oO at hx
   rw [if_neg hc] at hx
   exact h4 x hx
theorem GI {V:List (List Int)} {v:List Int} {f:Int} {p0:Nat→Bool} (h4: ∀ v∈V,(plS s v seed K M).all p0=true) (h:pC s V v f=0):mo s v seed K M p0 f=0∧(f=0∨f=1)∧v∈V:=by
 unfold pC at h
 by_cases hc:inC s v=0
 ·rw [if_pos hc] at h
  unfold cg at h
  split at h
  ·omega
  ·rename_i hf
   split at h
   ·rename_i hm
    refine ⟨?_,by omega,hm⟩
    unfold mo lr
    rw [if_pos hc,if_neg hf,if_pos (show (pls (enc s v) seed K M).all p0=true from h4 v hm)]
   ·omega
 ·rw [if_neg hc] at h;exact absurd h hc
theorem Qu (hs:ew s) (h:Inv t u s M K seed n) (v:List Int) (hv:v.length<100000000) (f:Int):
  ∃ t' a u' b,bT t v f=some (t',a)∧bT u v f=some (u',b)∧Inv t' u' s M K seed n:=by
 obtain ⟨V,g,p0,p1,p2,h1,h2,h3,h4,h5,h6⟩:=h
 obtain ⟨t',a1,a2,_⟩:=RG hs h1 v hv f
 obtain ⟨u',b1,b2⟩:=Qf hs.fds h2 v hv f
 refine ⟨t',_,u',_,a1,b1,V,_,p0,_,_,a2,b2,h3,h4,?_,?_⟩
 ·intro x hx
  unfold Kz at hx
  have mono: ∀ {l:List Nat},l.all p1=true→l.all (if mo s v seed K M p0 f=0∧f=0 then orP p1 (plS s v seed K M) else p1)=true:=by
   intro l hl
   split
   ·exact u6 _ hl
   ·exact hl
  split at hx
  ·rename_i hc
   obtain ⟨c1,c2,c3⟩:=GI (seed:=seed) (K:=K) (M:=M) h4 hc
   unfold upd at hx
   rcases Bool.or_eq_true_iff.1 hx with hx | hx
   ·exact mono (h5 x hx)
   ·rw [Bool.and_eq_true,beq_iff_eq,beq_iff_eq] at hx
    have hf:f=0:=by
     have h1:=hx.1
     rcases c2 with c2 | c2
     ·exact c2
     ·rw [c2] at h1;cases h1
    rw [if_pos ⟨c1,hf⟩,hx.2]
    exact BZ _ _
  ·exact mono (h5 x hx)
 ·intro x hx
  unfold Kz at hx
  have mono: ∀ {l:List Nat},l.all p2=true→l.all (if mo s v seed K M p0 f=0∧f=1 then orP p2 (plS s v seed K M) else p2)=true:=by
   intro l hl
   split
   ·exact u6 _ hl
   ·exact hl
  split at hx
  ·rename_i hc
   obtain ⟨c1,c2,c3⟩:=GI (seed:=seed) (K:=K) (M:=M) h4 hc
   unfold upd at hx
   rcases Bool.or_eq_true_iff.1 hx with hx | hx
   ·exact mono (h6 x hx)
   ·rw [Bool.and_eq_true,beq_iff_eq,beq_iff_eq] at hx
    have hf:f=1:=by
     have h1:=hx.1
     rcases c2 with c2 | c2
     ·rw [c2] at h1;cases h1
     ·exact c2
    rw [if_pos ⟨c1,hf⟩,hx.2]
    exact BZ _ _
  ·exact mono (h6 x hx)
theorem PT (hs:ew s) (h:Inv t u s M K seed n) (v:List Int) (hv:v.length<100000000): ∃ a b,aX t v=some a∧aX u v=some b∧(a.1=true→b.1=true):=by
 obtain ⟨V,g,p0,p1,p2,h1,h2,h3,h4,h5,h6⟩:=h
 refine ⟨_,_,RA hs h1 v hv,Qz hs.fds h2 v hv,?_⟩
 unfold Od
 by_cases hc:inC s v=0
 ·rw [if_pos hc,if_pos hc]
  intro ha
  exact h4 v (of_decide_eq_true ha)
 ·rw [if_neg hc]
  intro ha;cases ha
theorem Qt (hs:ew s) (h:Inv t u s M K seed n) (v:List Int) (hv:v.length<100000000) (f:Int): ∃ a b,bC t v f=some a∧bC u v f=some b∧(a.1=true→b.1=true):=by
 obtain ⟨V,g,p0,p1,p2,h1,h2,h3,h4,h5,h6⟩:=h
 refine ⟨_,_,RN hs h1 v hv f,P5 hs.fds h2 v hv f,?_⟩
 unfold NQ
 by_cases hc:pC s V v f=0
 ·obtain ⟨c1,c2,c3⟩:=GI (seed:=seed) (K:=K) (M:=M) h4 hc
  rw [if_pos hc,if_pos c1]
  intro ha
  rcases c2 with rfl | rfl
  ·rw [if_neg (by omega)];exact h5 v ha
  ·rw [if_pos rfl];exact h6 v ha
 ·rw [if_neg hc]
  intro ha;cases ha
theorem Cn (hs:ew s) {w:LIn} (hf: ∀ e∈w.2.2.2.2,e.2.1.length≤40) (h:Inv t u s M K seed n) (i:Nat) (hi:i<w.2.2.2.2.length) (hl:w.2.2.2.2.length≤30) (k:_→Option Bool):K2A w (i:Int) k t u=k (unL t u ((i+1:Nat):Int)):=by
 rw [SY]
 refine jy (fun j=>(j:Int)) (i+1) rfl (by omega) (fun j hj A=> ?_) (fun A=>RZ w t u i (by omega) k A)
 have hjl:j<w.2.2.2.2.length:=by omega
 have he:=hf _ (List.getElem_mem hjl)
 have hg:=List.getElem?_eq_getElem hjl
 generalize w.2.2.2.2[j]=e at he hg
 obtain ⟨a,b,m1,m2,m3⟩:=PT hs h e.2.1 (by omega)
 rw [Pw w t u i j (by omega) hg,m1,ab,m2,ab]
 refine jy (fun f=>(f:Int)) 2 rfl (by omega) (fun f hf B=> ?_) (fun B=>Rp w t u j (by omega) A a b m3 B)
 obtain ⟨c,d,g1,g2,g3⟩:=Qt hs h e.2.1 (by omega) (f:Int)
 exact Qy w t u j hg A a b f hf g1 g2 g3 B
theorem vd (hs:ew s) {w:LIn} (hl:w.2.2.2.2.length≤30) (hf: ∀ e∈w.2.2.2.2,e.2.1.length≤40): ∀ (d i:Nat) (t u:St) (N:Nat),i+d=w.2.2.2.2.length→d<N→Inv t u s M K seed i→
  ar (bQ w true) N (unL t u (i:Int))=some true
 | 0,i,t,u,N,hi,hN,h=>by
  obtain ⟨m,rfl⟩: ∃ m,N=m+1:=⟨N-1,by omega⟩
  rw [aH,K4 w t u i (by omega)]
 | d+1,i,t,u,N,hi,hN,h=>by
  obtain ⟨m,rfl⟩: ∃ m,N=m+1:=⟨N-1,by omega⟩
  have hil:i<w.2.2.2.2.length:=by omega
  have he:=hf _ (List.getElem_mem hil)
  have hg:=List.getElem?_eq_getElem hil
  rw [aH,Jf w t u i hg]
  generalize w.2.2.2.2[i]=e at he hg
  obtain ⟨x,a,y,b,e1,e2,e3,e4,e5⟩:=PQ hs h (by omega) e.2.1 (by omega)
  have hab:(a.2 != b.2||(b.1&& !a.1))=false:=by
   rw [e3,bne_self_eq_false,Bool.false_or]
   cases hb:b.1
   ·rfl
   ·rw [e4 hb];rfl
  rw [e1,ab,e2,ab]
  dsimp only
  rw [hab,cond_false]
  by_cases hm:Int.tmod e.1 2=0
  ·obtain ⟨p,c,q,d',s1,s2,s3⟩:=Qu hs e5 e.2.1 (by omega) e.2.2
   rw [show (Int.tmod e.1 2==0)=true by simpa using hm,cond_true,s1,ab,s2,ab]
   dsimp only
   rw [Cn hs hf s3 i hil hl]
   exact vd hs hl hf d (i+1) p q m (by omega) (by omega) s3
  ·rw [show (Int.tmod e.1 2==0)=false by simpa using hm,cond_false,Cn hs hf e5 i hil hl]
   exact vd hs hl hf d (i+1) x y m (by omega) (by omega) e5
theorem J1 (w:LIn) (hf:FI w.1) (hm:0≤w.2.1∧w.2.1≤65535) (hk:0≤w.2.2.1∧w.2.2.1≤255):dO w=some true:=by
 unfold dO
 rw [Jv,ab,LG hf,ab]
 simp only [bk]
 cases hr:qE w.1
 ·rfl
 ·have hs:=Ct.1 hr
  rw [Bool.not_true,Bool.not_false,cz,show fy w.2.2.2.2 30=some (Bx w.2.2.2.2 30) from Sj w.2.2.2.2 30 (by omega),ab,Bool.false_or]
  cases hw:Bx w.2.2.2.2 30
  ·rfl
  ·obtain ⟨h1,h2⟩:=QD.1 hw
   rw [Bool.not_true,cond_false]
   have e1:IntKind.i64.wrap w.2.1=w.2.1:=w64 (by omega)
   have t1:Int.tmod w.2.1 500=w.2.1%500:=Int.tmod_eq_emod_of_nonneg hm.1
   have e2:IntKind.i64.wrap w.2.2.1=w.2.2.1:=w64 (by omega)
   have t2:Int.tmod w.2.2.1 16=w.2.2.1%16:=Int.tmod_eq_emod_of_nonneg hk.1
   have eM:IntKind.i64.wrap (1+Int.tmod (IntKind.i64.wrap w.2.1) 500)=(((1+w.2.1%500).toNat:Nat):Int):=by rw [e1,t1,w64 (by omega)];omega
   have eK:IntKind.i64.wrap (1+Int.tmod (IntKind.i64.wrap w.2.2.1) 16)=(((1+w.2.2.1%16).toNat:Nat):Int):=by rw [e2,t2,w64 (by omega)];omega
   obtain ⟨t,n1,n2,_⟩:=(Qn hf hs (0,100,0,0,0,0) (by dsimp only;omega)).2 (by dsimp only;omega) (by dsimp only;omega)
   obtain ⟨u,m1,m2⟩:=Rh hf hs (M:=(1+w.2.1%500).toNat) (K:=(1+w.2.2.1%16).toNat) (by omega) (by omega) (4,0,0,w.2.2.2.1,IntKind.i64.wrap (1+Int.tmod (IntKind.i64.wrap w.2.1) 500),IntKind.i64.wrap (1+Int.tmod (IntKind.i64.wrap w.2.2.1) 16)) rfl (by dsimp only;omega) eM eK
   rw [n1,ab,m1,ab]
   have:=vd hs h1 h2 w.2.2.2.2.length 0 t u az (by omega) (by show _<2^64;omega) ⟨[],fun _ _=>false,_,_,_,n2,m2,Nat.le_refl _,fun v hv=>by simp at hv,fun v hv=>by simp at hv,fun v hv=>by simp at hv⟩
   rw [show ((0:Nat):Int)=0 from rfl] at this
   exact this
end So
end Go.Proofs.YtgcgmclghbebjaaGreat
namespace Go.Proofs.YtgcgmclghbebjaaGreat
namespace So
noncomputable def un (t:St) (x:List (List Int)) (i:Int):=(t.1,t.2.1,t.2.2.1,t.2.2.2.1.1.1,t.2.2.2.1.1.2.1,t.2.2.2.1.1.2.2,t.2.2.2.1.2,t.2.2.2.2.1.1,t.2.2.2.2.1.2.1.1,t.2.2.2.2.1.2.1.2.1,t.2.2.2.2.1.2.1.2.2,t.2.2.2.2.1.2.2,t.2.2.2.2.2.1.1,t.2.2.2.2.2.1.2,t.2.2.2.2.2.2.1.1.1,t.2.2.2.2.2.2.1.1.2.1,t.2.2.2.2.2.2.1.1.2.2.1,t.2.2.2.2.2.2.1.1.2.2.2.1,t.2.2.2.2.2.2.1.1.2.2.2.2,t.2.2.2.2.2.2.1.2.1.1,t.2.2.2.2.2.2.1.2.1.2.1,t.2.2.2.2.2.2.1.2.1.2.2.1,t.2.2.2.2.2.2.1.2.1.2.2.2.1,t.2.2.2.2.2.2.1.2.1.2.2.2.2,t.2.2.2.2.2.2.1.2.2.1,t.2.2.2.2.2.2.1.2.2.2.1,t.2.2.2.2.2.2.1.2.2.2.2.1,t.2.2.2.2.2.2.1.2.2.2.2.2.1,t.2.2.2.2.2.2.1.2.2.2.2.2.2,t.2.2.2.2.2.2.2.1,t.2.2.2.2.2.2.2.2.1,t.2.2.2.2.2.2.2.2.2.1,t.2.2.2.2.2.2.2.2.2.2.1,t.2.2.2.2.2.2.2.2.2.2.2.1,t.2.2.2.2.2.2.2.2.2.2.2.2,x,i)
abbrev FIn:=List Fd×Int×Int×List (List Int)
theorem zy (w:FIn) (t:St) (V:List (List Int)) (i:Nat) (v:List Int) (hv:w.2.2.2[i]? =some v) (hV:V.length<1000000) (hl: ∀ u∈V,u.length<100000000) {r:Option Bool} {again:_→Option Bool}
  (h: ∀ k,(fun ⟨c45,c46,c48,c49,c50,c52,c54,c56,c58,c59,c61,c63,c65,c67,c69,c70,c72,c73,c74,c76,c77,c79,c80,c81,c83,c84,c86,c87,c88,c90,c91,c92,c93,c95,c97,in99,i102⟩=>fp w c45 c46 c48 c49 c50 c52 c54 c56 c58 c59 c61 c63 c65 c67 c69 c70 c72 c73 c74 c76 c77 c79 c80 c81 c83 c84 c86 c87 c88 c90 c91 c92 c93 c95 c97 in99 i102 again k (decide (v∈V),(V.length:Int))) (un t V (i:Int))=r):
  (fun ⟨c45,c46,c48,c49,c50,c52,c54,c56,c58,c59,c61,c63,c65,c67,c69,c70,c72,c73,c74,c76,c77,c79,c80,c81,c83,c84,c86,c87,c88,c90,c91,c92,c93,c95,c97,in99,i102⟩=>ar (fp w c45 c46 c48 c49 c50 c52 c54 c56 c58 c59 c61 c63 c65 c67 c69 c70 c72 c73 c74 c76 c77 c79 c80 c81 c83 c84 c86 c87 c88 c90 c91 c92 c93 c95 c97 in99 i102 again) az (false,0)) (un t V (i:Int))=r:=by
 refine jy (fun j=>(decide (v∈V.take j),(j:Int))) V.length (by simp) (by omega) (fun j hj k=> ?_) (fun k=>by rw [List.take_length];exact h k)
 unfold fp
 dsimp only [un]
 rw [eV hj,cond_true,nx (show j<9223372036854775807 by omega),List.take_add_one,List.getElem?_eq_getElem hj]
 simp only [bk]
 by_cases hm:v∈V.take j
 ·rw [decide_eq_true hm,Bool.not_true,dk,dk,dk,Bool.true_or,decide_eq_true (List.mem_append_left _ hm)]
 ·rw [decide_eq_false hm,Bool.not_false,cz,cm hj,ab,cz,bW hv,ab,cz,RX _ _ (hl _ (List.getElem_mem hj)),ab,Bool.false_or]
  congr 2
  rw [Bool.eq_iff_iff,beq_iff_eq,decide_eq_true_eq,List.mem_append]
  simp only [Option.toList_some,List.mem_singleton]
  exact ⟨fun e=> .inr e.symm,fun e=>(e.resolve_left hm).symm⟩
end So
end Go.Proofs.YtgcgmclghbebjaaGreat
namespace Go.Proofs.YtgcgmclghbebjaaGreat
open Go.Lib Go.ChangeAt Go.ChangeShapes Go.WideShapes Go.RowKit
theorem BC {P:Program} {w:World}: ∀ (l:List (String×DataW Unit)) (ps:List MemPlace),DataW.LaidVars P w l ps→ ∀ (i:Nat) (n:String) (d:DataW Unit),l[i]? =some (n,d)→
  ∃ g t cs fuel p,P.globalNamed n=some g∧(P.globals[g]?).map (·.type)=some t∧w.var? P n=some cs∧DataW.trod (fun _=>()) P w 0 (fun _=>true) false fuel t cs.toList=some (d,p)
 | [],_,_,i,n,d,h=>by simp at h
 | (n0,d0)::l,ps,h,i,n,d,hi=>by
  obtain ⟨g,t,cs,fuel,p,q,h1,h2,h3,h4,h5,_⟩:=h
  cases i with
  | zero=>
   simp only [List.getElem?_cons_zero,Option.some.injEq,Prod.mk.injEq] at hi
   obtain ⟨rfl,rfl⟩:=hi
   exact ⟨g,t,cs,fuel,p,h1,h2,h3,h4⟩
  | succ i=>exact BC l q h5 i n d (by simpa using hi)
theorem Db {H:Type} {enc:TypeId×Value→H} {P:Program} {w:World} {base:Nat} {sp:Nat→Bool} {held:Bool} {fuel:Nat} {t e:TypeId} {n:Nat} {cs:List Value} {zs:List Str} {p:List MemPlace}
  (ht:P.underlying t=some (.array n e)) (he:P.underlying e=some .string) (hce:P.cellsOf e=1) (hct:P.cellsOf t=n)
  (h:DataW.trod enc P w base sp held fuel t cs=some (.agg (zs.map fun z=> .lit (.string z)),p)):cs=zs.map S:=by
 cases fuel with
 | zero=>simp [DataW.trod] at h
 | succ fuel=>
  simp only [DataW.trod,ht,hce,hct,Nat.mul_one] at h
  split at h
  ·rename_i hl
   obtain ⟨xs,hm,hx⟩:=Option.map_eq_some_iff.1 h
   have hxs:xs.map (·.1)=zs.map fun z=>(DataW.lit (.string z):DataW H):=by
    have:=congrArg Prod.fst hx
    simpa using this
   have hxl:xs.length=n:=by simpa using mapM_length hm
   have hzl:zs.length=n:=by
    have:=congrArg List.length hxs
    simp at this
    omega
   apply List.ext_getElem?
   intro i
   by_cases hi:i<n
   ·obtain ⟨b,hb,hf⟩:=mapM_at hm i i (by simp [hi])
    obtain ⟨z,hc,rfl,_⟩:=DataW.trod_string he hf
    have h1:cs[i]? =some (.string z):=by
     have:=congrArg (·[0]?) hc
     simpa [List.getElem?_take,List.getElem?_drop] using this
    have h2:(xs.map (·.1))[i]? =some (DataW.lit (.string z.data.toList):DataW H):=by simp [hb]
    rw [hxs] at h2
    simp only [List.getElem?_map,Option.map_eq_some_iff,DataW.lit.injEq,Lit.string.injEq] at h2
    obtain ⟨z',hz',hz2⟩:=h2
    subst hz2
    simp [h1,hz',S]
   ·rw [List.getElem?_eq_none (by omega),List.getElem?_eq_none (by simp;omega)]
  ·cases h
theorem laidMet_of {P:Program} {laid:List (String×DataW Unit)} {w:World} (hf:(laid.filter fun x=>x.2.handleName?.isSome)=[]) (h:laidMetH P laid w):laidMet P laid w:=by
 unfold laidMetH at h
 rw [hf] at h
 exact h
theorem gl_strs {P:Program} {laid:List (String×DataW Unit)} {w:World} {Γ:Ctx} (h:laidMet P laid w) (i:Nat) {n:String} {zs:List Str} {g:Nat} {t e:TypeId} {k:Nat}
  (hi:laid[i]? =some (n,.agg (zs.map fun z=> .lit (.string z)))) (hg:P.globalNamed n=some g) (hty:(P.globals[g]?).map (·.type)=some t)
  (ht:P.underlying t=some (.array k e)) (he:P.underlying e=some .string) (hce:P.cellsOf e=1) (hct:P.cellsOf t=k) (hM: ¬ Γ.M g):(gl g (zs.map S)).P Γ.M w:=by
 obtain ⟨ps,hl,_⟩:=h
 obtain ⟨g',t',cs,fuel,p,hg',ht',hv,hd⟩:=BC _ _ hl i n _ hi
 obtain rfl:=Option.some.inj (hg.symm.trans hg')
 obtain rfl:=Option.some.inj (hty.symm.trans ht')
 have e1:=Db ht he hce hct hd
 refine ⟨hM,?_⟩
 unfold World.var? at hv
 rw [hg] at hv
 simp only [Option.bind_some] at hv
 split at hv
 ·rename_i c ty fr hb
  obtain rfl:=Option.some.inj hv
  exact ⟨ty,fr,by rw [hb,← e1]⟩
 ·cases hv
theorem gl_ints {P:Program} {laid:List (String×DataW Unit)} {w:World} {Γ:Ctx} (h:laidMet P laid w) (i:Nat) {n:String} {kd:IntKind} {zs:List Int} {g:Nat} {t e:TypeId} {k:Nat}
  (hi:laid[i]? =some (n,tabData kd zs)) (hg:P.globalNamed n=some g) (hty:(P.globals[g]?).map (·.type)=some t)
  (ht:P.underlying t=some (.array k e)) (he:P.underlying e=some (.int kd)) (hce:P.cellsOf e=1) (hct:P.cellsOf t=k) (hM: ¬ Γ.M g):(gl g (zs.map (Value.int kd))).P Γ.M w:=by
 obtain ⟨ps,hl,_⟩:=h
 obtain ⟨g',t',cs,fuel,p,hg',ht',hv,hd⟩:=BC _ _ hl i n _ hi
 obtain rfl:=Option.some.inj (hg.symm.trans hg')
 obtain rfl:=Option.some.inj (hty.symm.trans ht')
 have e1:=cells_of_tab ht he hce hct hd
 refine ⟨hM,?_⟩
 unfold World.var? at hv
 rw [hg] at hv
 simp only [Option.bind_some] at hv
 split at hv
 ·rename_i c ty fr hb
  obtain rfl:=Option.some.inj hv
  exact ⟨ty,fr,by rw [hb,← e1]⟩
 ·cases hv
/-! the row at the start: nothing is owned -/
def NoM (Γ:Ctx):Prop:= ∀ b,¬ Γ.M b
theorem HX:NoM []:=fun b h=>by obtain ⟨it,h,_⟩:=h;cases h
theorem Og {it:Item} {Γ:Ctx} (hp:it.own=[]) (h:NoM Γ):NoM (it::Γ):=fun b hb=>by
 rcases Ctx.oB.1 hb with h1 | h1
 ·rw [hp] at h1;cases h1
 ·exact h b h1
theorem LO (w:World):Sat [kept w (fun _=>False)] w:=Sat.nil.add rfl ⟨da.refl w,Nat.le_refl _,fun b _ _=>⟨HX b,rfl⟩⟩
theorem LJ (w:World):NoM [kept w (fun _=>False)]:=Og rfl HX
theorem MU {w:World} {Γ:Ctx} (h:NoM Γ):Mv (fun _=>False) w Γ.M w:=⟨Nat.le_refl _,fun b _ _=>⟨h b,rfl⟩⟩
theorem Lh {w w':World} {Γ:Ctx} {i:Nat} (h:Sat Γ w') (hi:Γ[i]? =some (kept w (fun _=>False))):Below w.heap.size w w':=by
 obtain ⟨h1,h2,h3⟩:=h.kept hi
 exact ⟨h1.os,h1.tape,h1.output,h2,fun k hk=>(h3 k hk (fun h=>h)).2⟩
end Go.Proofs.YtgcgmclghbebjaaGreat
namespace Go.Proofs.YtgcgmclghbebjaaGreat
open Go.Lib Go.ChangeAt Go.ChangeShapes Go.WideShapes Go.RowKit
theorem Af {Y:Type} (R:Nat→Y→Ex→Prop): ∀ (ys:List Y),(∀ i y,ys[i]? =some y→ ∃ e,R i y e)→ ∃ l:List Ex,l.length=ys.length∧ ∀ i y e,ys[i]? =some y→l[i]? =some e→R i y e
 | [],_=>⟨[],rfl,fun i y e h=>by simp at h⟩
 | y::ys,h=>by
  obtain ⟨e,he⟩:=h 0 y rfl
  obtain ⟨l,hl,hr⟩:=Af (fun i=>R (i+1)) ys (fun i y hy=>h (i+1) y (by simpa using hy))
  refine ⟨e::l,by simp [hl],fun i y' e' hy hx=> ?_⟩
  cases i with
  | zero=>
   simp only [List.getElem?_cons_zero,Option.some.injEq] at hy hx
   subst hy;subst hx;exact he
  | succ i=>exact hr i y' e' (by simpa using hy) (by simpa using hx)
theorem Lu {H:Type}: ∀ (l:List Ex) (ds:List (DataW H)),l.length=ds.length→(∀ (i:Nat) (e:Ex) (d:DataW H),l[i]? =some e→ds[i]? =some d→e.sz≤Rows.uptoBulk d)→szL l≤Rows.uptoBulkAll ds
 | [],[],_,_=>Nat.le_refl _
 | e::l,d::ds,hl,h=>by
  have h1:=h 0 e d rfl rfl
  have h2:=Lu l ds (by simpa using hl) (fun i e d he hd=>h (i+1) e d (by simpa using he) (by simpa using hd))
  simp only [szL,Rows.uptoBulkAll]
  omega
 | [],_::_,h,_=>by simp at h
 | _::_,[],h,_=>by simp at h
theorem zL {H:Type} (d:DataW H):1≤Rows.uptoBulk d:=by
 cases d with
 | lit l=>cases l <;> simp [Rows.uptoBulk]
 | nil=>simp [Rows.uptoBulk]
 | ptr d=>simp [Rows.uptoBulk]
 | slice elems spare=>simp [Rows.uptoBulk]
 | agg parts=>simp [Rows.uptoBulk]
 | iface t d=>simp [Rows.uptoBulk]
 | map entries=>simp [Rows.uptoBulk]
 | held h=>simp [Rows.uptoBulk]
theorem rB {H:Type} {d:DataW H}: ∀ {l:List (DataW H)},d∈l→Rows.uptoBulk d≤Rows.uptoBulkAll l
 | x::r,h=>by
  simp only [Rows.uptoBulkAll]
  rcases List.mem_cons.1 h with rfl | h
  ·omega
  ·have:=rB h;omega
structure Lx (P:Program) (t:TypeId):Prop where
 fields: ∃ (fs:Array Field) (f0 f1 f2 f3:Field),P.underlying t=some (.struct fs)∧fs.size=4∧fs[0]? =some f0∧fs[1]? =some f1∧fs[2]? =some f2∧fs[3]? =some f3∧
  (f0.offset=0∧P.underlying f0.type=some (.int .i64)∧P.cellsOf f0.type=1)∧(f1.offset=1∧P.underlying f1.type=some (.int .i64)∧P.cellsOf f1.type=1)∧
  (f2.offset=2∧P.underlying f2.type=some (.int .i64)∧P.cellsOf f2.type=1)∧(f3.offset=3∧P.underlying f3.type=some (.slice t)∧P.cellsOf f3.type=1)
 cells:P.cellsOf t=4
theorem RR {P:Program} {w:World} {base:Nat} {t:TypeId} {v:Value} {fs:Array Field} (ht:P.underlying t=some (.struct fs)) (h:Value.okWide P w .any base t v):
  ∃ cs,v= .agg cs∧cs.size=P.cellsOf t∧Row.okWide P w .any base t cs:=by
 unfold Value.okWide at h
 rw [ht] at h
 exact h
theorem Ju {w:World} {a:Addr} {v:Value} (h:w.cell? a=some v):a.spot=none∧ ∃ cs e fr,w.heap[a.block]? =some (.cells cs e fr)∧cs[a.off]? =some v:=by
 unfold World.cell? at h
 split at h
 ·rename_i cs e fr hb
  split at h
  ·cases h
  ·rename_i hs
   exact ⟨by simpa using hs,cs,e,fr,hb,h⟩
 ·cases h
theorem J5 {H:Type} {enc:TypeId×Value→H} {P:Program} {W:World} {t:TypeId} (L:Lx P t): ∀ (fuel:Nat) (cs:List Value) (x:DataW H×List MemPlace),
  DataW.trod enc P W 0 (fun _=>true) true fuel t cs=some x→ ∃ e,mX (fun _=>False) W cs e∧e.sz≤Rows.uptoBulk x.1:=by
 intro fuel
 induction fuel using Nat.strongRecOn with
 | ind fuel ih=>
 intro cs x h
 obtain ⟨⟨fs,f0,f1,f2,f3,hT,hsz,g0,g1,g2,g3,⟨o0,u0,c0⟩,⟨o1,u1,c1⟩,⟨o2,u2,c2⟩,⟨o3,u3,c3⟩⟩,hc⟩:=L
 obtain ⟨xs,n,rfl,rfl,hl,hxs,hf⟩:=DataW.trod_struct hT h
 rw [hc] at hl
 rw [hsz] at hxs
 obtain ⟨a0,a1,a2,a3,rfl⟩: ∃ a0 a1 a2 a3,cs=[a0,a1,a2,a3]:=by
  match cs,hl with
  | [a,b,c,d],_=>exact ⟨a,b,c,d,rfl⟩
 obtain ⟨x0,x1,x2,x3,rfl⟩: ∃ a0 a1 a2 a3,xs=[a0,a1,a2,a3]:=by
  match xs,hxs with
  | [a,b,c,d],_=>exact ⟨a,b,c,d,rfl⟩
 have t0:=hf 0 f0 g0
 have t1:=hf 1 f1 g1
 have t2:=hf 2 f2 g2
 have t3:=hf 3 f3 g3
 rw [o0,c0] at t0;rw [o1,c1] at t1;rw [o2,c2] at t2;rw [o3,c3] at t3
 simp only [List.drop_zero,List.take_succ_cons,List.take_zero,List.drop_succ_cons,List.getElem?_cons_zero,List.getElem?_cons_succ] at t0 t1 t2 t3
 obtain ⟨z0,e0,_,_⟩:=DataW.trod_int u0 t0
 obtain ⟨z1,e1,_,_⟩:=DataW.trod_int u1 t1
 obtain ⟨z2,e2,_,_⟩:=DataW.trod_int u2 t2
 obtain rfl:a0= .int .i64 z0:=by simpa using e0
 obtain rfl:a1= .int .i64 z1:=by simpa using e1
 obtain rfl:a2= .int .i64 z2:=by simpa using e2
 have hb: ∀ d,x3.1=d→Rows.uptoBulk d+1≤Rows.uptoBulk (DataW.agg ([x0,x1,x2,x3].map (·.1))):=fun d hd=>by
  subst hd
  have:=rB (d:=x3.1) (l:=[x0,x1,x2,x3].map (·.1)) (by simp)
  simp only [Rows.uptoBulk]
  omega
 rcases DataW.trod_slice u3 t3 with ⟨h3,hx3⟩ | ⟨a,len,cap,elems,rest,m,rfl,h3,hx3,_,hlc,_,hlen,hel,hsp,_⟩
 ·obtain rfl:a3= .slice none 0 0:=by simpa using h3
  refine ⟨.mk z0 z1 z2 [],.nil z0 z1 z2 none,?_⟩
  have:=hb _ rfl
  have:=zL x3.1
  simp only [Ex.sz,szL]
  omega
 ·obtain rfl:a3= .slice (some a) len cap:=by simpa using h3
  obtain ⟨hrl,hre⟩:=hsp rfl
  rw [hc] at hel hre
  -- all of it is there
  have cell: ∀ i,i<cap→ ∃ us y,W.cells? 0 (a.add (i*4)) 4=some us∧us.length=4∧(∀ j,j<4→W.cell? ((a.add (i*4)).add j)=us[j]?)∧DataW.trod enc P W 0 (fun _=>true) true m t us=some y∧(i<len→elems[i]? =some y):=fun i hi=>by
   by_cases hil:i<len
   ·obtain ⟨y,hy⟩: ∃ y,elems[i]? =some y:=⟨elems[i]'(by omega),List.getElem?_eq_getElem _⟩
    have:=hel i hil
    rw [hy,Option.bind_eq_some_iff] at this
    obtain ⟨us,h1,h2⟩:=this
    obtain ⟨_,h3,h4⟩:=World.cells?_some h1
    exact ⟨us,y,h1,h3,h4,h2,fun _=>hy⟩
   ·obtain ⟨y,hy⟩: ∃ y,rest[i-len]? =some y:=⟨rest[i-len]'(by omega),List.getElem?_eq_getElem _⟩
    have:=hre (i-len) (by omega)
    rw [hy,Option.bind_eq_some_iff] at this
    obtain ⟨us,h1,h2⟩:=this
    have e:len+(i-len)=i:=by omega
    rw [e] at h1
    obtain ⟨_,h3,h4⟩:=World.cells?_some h1
    exact ⟨us,y,h1,h3,h4,h2,fun h=>absurd h hil⟩
  by_cases hcap:cap=0
  ·subst hcap
   obtain rfl:len=0:=by omega
   refine ⟨.mk z0 z1 z2 [],.nil z0 z1 z2 (some a),?_⟩
   have:=hb _ rfl
   have:=zL x3.1
   simp only [Ex.sz,szL]
   omega
  ·obtain ⟨us0,_,_,hl0,hc0,_⟩:=cell 0 (by omega)
   have h00:=hc0 0 (by omega)
   rw [List.getElem?_eq_getElem (by omega)] at h00
   obtain ⟨hs,cs',e',fr,hblk,_⟩:=Ju h00
   have hs':a.spot=none:=by simpa [Addr.add] using hs
   have hblk':W.heap[a.block]? =some (.cells cs' e' fr):=by simpa [Addr.add] using hblk
   obtain ⟨b,off,sp⟩:=a
   simp only at hs' hblk'
   subst hs'
   have at_: ∀ i j,((⟨b,off,none⟩:Addr).add (i*4)).add j=⟨b,off+i*4+j,none⟩:=fun i j=>by
    unfold Addr.add
    split <;> split <;> simp_all
   have cellx: ∀ i,i<cap→ ∃ us y,us.length=4∧(∀ j,j<4→cs'[off+i*4+j]? =us[j]?)∧DataW.trod enc P W 0 (fun _=>true) true m t us=some y∧(i<len→elems[i]? =some y):=fun i hi=>by
    obtain ⟨us,y,_,h3,h4,h5,h6⟩:=cell i hi
    refine ⟨us,y,h3,fun j hj=> ?_,h5,h6⟩
    have:=h4 j hj
    rw [at_] at this
    simpa [World.cell?,hblk'] using this
   have hsize:off+cap*4≤cs'.size:=by
    obtain ⟨us,_,h3,h4,_⟩:=cellx (cap-1) (by omega)
    have:=h4 3 (by omega)
    rw [List.getElem?_eq_getElem (by omega)] at this
    have:=(Array.getElem?_eq_some_iff.1 this).1
    omega
   have hel': ∀ i y,elems[i]? =some y→ ∃ e,(mX (fun _=>False) W (((cs'.toList.drop off).drop (i*4)).take 4) e∧e.sz≤Rows.uptoBulk y.1):=fun i y hy=>by
    have hi:i<len:=by rw [← hlen];exact (List.getElem?_eq_some_iff.1 hy).1
    obtain ⟨us,y',h3,h4,h5,h6⟩:=cellx i (by omega)
    obtain rfl:y'=y:=by have:=h6 hi;rw [hy] at this;exact (Option.some.inj this).symm
    have hus:((cs'.toList.drop off).drop (i*4)).take 4=us:=by
     apply List.ext_getElem?
     intro j
     by_cases hj:j<4
     ·rw [List.getElem?_take,if_pos hj,List.getElem?_drop,List.getElem?_drop,← h4 j hj]
      simp [Nat.add_assoc]
     ·rw [List.getElem?_take,if_neg hj,List.getElem?_eq_none (by omega)]
    rw [hus]
    exact ih m (by omega) us y' h5
   obtain ⟨l,hll,hR⟩:=Af (fun i y e=>mX (fun _=>False) W (((cs'.toList.drop off).drop (i*4)).take 4) e∧e.sz≤Rows.uptoBulk y.1) elems hel'
   have hll':l.length=len:=by omega
   refine ⟨.mk z0 z1 z2 l,?_,?_⟩
   ·rw [← hll']
    refine .some z0 z1 z2 l b off cap cs' e' fr (fun h=>h) hblk' (by omega) (by omega) ?_ (fun i hi=> ?_)
    ·simp only [List.length_take,List.length_drop,Array.length_toList]
     omega
    ·obtain ⟨y,hy⟩: ∃ y,elems[i]? =some y:=⟨elems[i]'(by omega),List.getElem?_eq_getElem _⟩
     have:=(hR i y l[i] hy (List.getElem?_eq_getElem _)).1
     rw [List.drop_take,List.take_take]
     have e4:min 4 (l.length*4-i*4)=4:=by omega
     rw [e4]
     exact this
   ·have h1:=Lu l (elems.map (·.1)) (by simp [hll]) (fun i e d he hd=>by
     rw [List.getElem?_map,Option.map_eq_some_iff] at hd
     obtain ⟨y,hy,rfl⟩:=hd
     exact (hR i y e hy he).2)
    have h2:x3.1= .slice (elems.map (·.1)) (rest.map (·.1)):=by rw [hx3]
    have h3:=hb _ h2
    simp only [Ex.sz]
    have h4:Rows.uptoBulk (DataW.slice (elems.map (·.1)) (rest.map (·.1)))=Rows.uptoBulkAll (elems.map (·.1))+Rows.uptoBulkAll (rest.map (·.1))+1:=by simp only [Rows.uptoBulk]
    omega
end Go.Proofs.YtgcgmclghbebjaaGreat
namespace Go.Proofs.YtgcgmclghbebjaaGreat
open Go.Lib Go.ChangeAt Go.ChangeShapes Go.WideShapes Go.RowKit
open Go.ChangeMaps (open_string)
def kR:Ty→List (Option TypeId)
 | .p a b=>kR a++kR b
 | .l _ | .ex=>[none]
 | _=>[]
def R7:Ty→Pt
 | .i k=> .int k
 | .bo=> .bool
 | .s=> .str
 | .l t=> .sli t
 | t=> .dat t (kR t)
def Dom (Q:Nat→Prop):(t:Ty)→t.T→Prop
 | .i k,x=>(Lit.int k x).wf=true
 | .s,x=>x.length≤9223372036854775807
 | .p a b,x=>Dom Q a x.1∧Dom Q b x.2
 | .l t,x=>(List.length (α:=t.T) x≤9223372036854775807∧Q (List.length (α:=t.T) x))∧ ∀ y:t.T,List.Mem y x→Dom Q t y
 | .ex,x=>Q x.sz
 | _,_=>True
/-! the program's types and codes -/
def wD (P:Program) (t:TypeId):Bool:=(match P.underlying t with
 | some (.int .i64)=>true
 | _=>false)&&P.cellsOf t==1
def exB (P:Program) (t:TypeId):Bool:=(match P.underlying t with
 | some (.struct fs)=>(match fs.toList with
  | [f0,f1,f2,f3]=>f0.offset==0&&wD P f0.type&&(f1.offset==1&&wD P f1.type)&&(f2.offset==2&&wD P f2.type)&&(f3.offset==3&&P.cellsOf f3.type==1&&(match P.underlying f3.type with
   | some (.slice e)=>e==t
   | _=>false))
  | _=>false)
 | _=>false)&&P.cellsOf t==4
def pE (P:Program) (fit:TypeId→Ty→Bool) (tot:Nat):List Field→Nat→Ty→Bool
 | [],_,_=>false
 | [f],off,t=>f.offset==off&&off+P.cellsOf f.type==tot&&P.cellsOf f.type==t.rep.n&&fit f.type t
 | f::g::fs,off,t=>match t with
  | .p a b=>f.offset==off&&P.cellsOf f.type==a.rep.n&&fit f.type a&&pE P fit tot (g::fs) (off+P.cellsOf f.type) b
  | _=>false
def fits (P:Program):Nat→TypeId→Ty→Bool
 | 0,_,_=>false
 | n+1,i,t=>match P.underlying i with
  | some (.int k)=>(match t with
   | .i k'=>decide (k=k')
   | _=>false)
  | some .bool=>(match t with
   | .bo=>true
   | _=>false)
  | some .string=>(match t with
   | .s=>true
   | _=>false)
  | some (.slice e)=>(match t with
   | .l u=>P.cellsOf e==u.rep.n&&Nat.blt 0 u.rep.n&&fits P n e u
   | _=>false)
  | some (.struct fs)=>(match t with
   | .ex=>exB P i
   | .p a b=>pE P (fits P n) (P.cellsOf i) fs.toList 0 (.p a b)
   | _=>false)
  | _=>false
def noN:Ty→Bool
 | .n=>false
 | .p a b=>noN a&&noN b
 | _=>true
theorem wT {P:Program} {fit:TypeId→Ty→Bool} (h: ∀ i t,fit i t=true→noN t=true) {tot:Nat}: ∀ (fs:List Field) (off:Nat) (t:Ty),pE P fit tot fs off t=true→noN t=true
 | [],_,_,e=>by cases e
 | [f],off,t,e=>by
  simp only [pE,Bool.and_eq_true] at e
  exact h _ _ e.2
 | f::g::fs,off,t,e=>by
  unfold pE at e
  split at e
  ·rename_i a b
   simp only [Bool.and_eq_true] at e
   simp only [noN,Bool.and_eq_true]
   exact ⟨h _ _ e.1.2,wT h (g::fs) _ b e.2⟩
  ·cases e
theorem Fe {P:Program}: ∀ (n:Nat) (i:TypeId) (t:Ty),fits P n i t=true→noN t=true
 | 0,_,_,e=>by cases e
 | n+1,i,t,e=>by
  unfold fits at e
  split at e <;> (try cases e)
  ·split at e
   ·rfl
   ·cases e
  ·split at e
   ·rfl
   ·cases e
  ·split at e
   ·rfl
   ·cases e
  ·split at e
   ·rfl
   ·cases e
  ·split at e
   ·rfl
   ·exact wT (fun i t=>Fe n i t) _ _ _ e
   ·cases e
theorem lP {P:Program} {t:TypeId} (h:wD P t=true):P.underlying t=some (.int .i64)∧P.cellsOf t=1:=by
 unfold wD at h
 simp only [Bool.and_eq_true,beq_iff_eq] at h
 refine ⟨?_,h.2⟩
 revert h
 split
 ·rename_i h;intro _;exact h
 ·intro h;cases h.1
theorem Rw {P:Program} {t:TypeId} (h:exB P t=true):Lx P t:=by
 unfold exB at h
 simp only [Bool.and_eq_true,beq_iff_eq] at h
 obtain ⟨h1,h2⟩:=h
 split at h1
 ·rename_i fs hfs
  split at h1
  ·rename_i f0 f1 f2 f3 hl
   simp only [Bool.and_eq_true,beq_iff_eq] at h1
   obtain ⟨⟨⟨⟨a0,b0⟩,a1,b1⟩,a2,b2⟩,⟨a3,c3⟩,b3⟩:=h1
   have g: ∀ i:Nat,fs[i]? =[f0,f1,f2,f3][i]? :=fun i=>by rw [← hl,Array.getElem?_toList]
   have u3:P.underlying f3.type=some (.slice t):=by
    revert b3
    split
    ·rename_i e he
     intro hb
     rw [he,(by simpa using hb:e=t)]
    ·intro hb;cases hb
   refine ⟨⟨fs,f0,f1,f2,f3,hfs,?_,g 0,g 1,g 2,g 3,⟨a0,(lP b0).1,(lP b0).2⟩,⟨a1,(lP b1).1,(lP b1).2⟩,⟨a2,(lP b2).1,(lP b2).2⟩,⟨a3,u3,c3⟩⟩,h2⟩
   rw [← Array.length_toList,hl];rfl
  ·cases h1
 ·cases h1
theorem OU {w:World} {a:Addr} {v:Value} (h:w.cell? a=some v):a.spot=none∧ ∃ cs e fr,w.heap[a.block]? =some (.cells cs e fr)∧cs[a.off]? =some v:=by
 unfold World.cell? at h
 split at h
 ·rename_i cs e fr hb
  split at h
  ·cases h
  ·rename_i hs
   exact ⟨by simpa using hs,cs,e,fr,hb,h⟩
 ·cases h
theorem yv {Y α:Type} (R:Nat→Y→α→Prop): ∀ (ys:List Y),(∀ i y,ys[i]? =some y→ ∃ e,R i y e)→ ∃ l:List α,l.length=ys.length∧ ∀ i y e,ys[i]? =some y→l[i]? =some e→R i y e
 | [],_=>⟨[],rfl,fun i y e h=>by simp at h⟩
 | y::ys,h=>by
  obtain ⟨e,he⟩:=h 0 y rfl
  obtain ⟨l,hl,hr⟩:=yv (fun i=>R (i+1)) ys (fun i y hy=>h (i+1) y (by simpa using hy))
  refine ⟨e::l,by simp [hl],fun i y' e' hy hx=> ?_⟩
  cases i with
  | zero=>
   simp only [List.getElem?_cons_zero,Option.some.injEq] at hy hx
   subst hy;subst hx;exact he
  | succ i=>exact hr i y' e' (by simpa using hy) (by simpa using hx)
theorem yC {H:Type}: ∀ (l:List (DataW H)),l.length≤Rows.uptoBulkAll l
 | []=>Nat.zero_le _
 | d::l=>by
  have:=yC l
  have:=zL d
  simp only [List.length_cons,Rows.uptoBulkAll]
  omega
theorem Lk {H α:Type} {enc:TypeId×Value→H} {P:Program} {W:World} {t e:TypeId} {A:Rep α} {Q:Nat→Prop} {D:α→Prop} (ht:P.underlying t=some (.slice e)) (hA:P.cellsOf e=A.n) (hn:0<A.n)
  (fuel:Nat) (cs:List Value) (x:DataW H×List MemPlace) (hQ: ∀ n,n≤Rows.uptoBulk x.1→Q n)
  (he: ∀ (fuel:Nat) (us:List Value) (y:DataW H×List MemPlace),(∀ n,n≤Rows.uptoBulk y.1→Q n)→DataW.trod enc P W 0 (fun _=>true) true fuel e us=some y→ ∃ z,A.rd (fun _=>False) W us z∧D z)
  (h:DataW.trod enc P W 0 (fun _=>true) true fuel t cs=some x):
  ∃ (u:SLV) (zs:List α),cs=[sl u]∧SRd A (fun _=>False) W (sl u) zs∧(zs.length≤9223372036854775807∧Q zs.length)∧ ∀ z∈zs,D z:=by
 rcases DataW.trod_slice ht h with ⟨h3,_⟩ | ⟨a,len,cap,elems,rest,m,rfl,h3,hx,_,hlc,hmx,hlen,hel,hsp,_⟩
 ·exact ⟨(none,0,0),[],h3,SRd.nil,⟨by simp,hQ _ (Nat.zero_le _)⟩,by simp⟩
 ·obtain ⟨hrl,hre⟩:=hsp rfl
  rw [hA] at hel hre
  have hmx:cap≤9223372036854775807:=hmx
  have hb:Rows.uptoBulk x.1=Rows.uptoBulkAll (elems.map (·.1))+Rows.uptoBulkAll (rest.map (·.1))+1:=by rw [hx];simp only [Rows.uptoBulk]
  have hlb:len≤Rows.uptoBulk x.1:=by
   have:=yC (elems.map (·.1))
   simp only [List.length_map] at this
   omega
  have hQe: ∀ y∈elems,∀ n,n≤Rows.uptoBulk y.1→Q n:=fun y hy n hn=>hQ n (by
   have:=rB (d:=y.1) (l:=elems.map (·.1)) (List.mem_map.2 ⟨y,hy,rfl⟩)
   omega)
  have cell: ∀ i,i<cap→ ∃ us y,us.length=A.n∧(∀ j,j<A.n→W.cell? ((a.add (i*A.n)).add j)=us[j]?)∧DataW.trod enc P W 0 (fun _=>true) true m e us=some y∧(i<len→elems[i]? =some y):=fun i hi=>by
   by_cases hil:i<len
   ·obtain ⟨y,hy⟩: ∃ y,elems[i]? =some y:=⟨elems[i]'(by omega),List.getElem?_eq_getElem _⟩
    have:=hel i hil
    rw [hy,Option.bind_eq_some_iff] at this
    obtain ⟨us,h1,h2⟩:=this
    obtain ⟨_,h3,h4⟩:=World.cells?_some h1
    exact ⟨us,y,h3,h4,h2,fun _=>hy⟩
   ·obtain ⟨y,hy⟩: ∃ y,rest[i-len]? =some y:=⟨rest[i-len]'(by omega),List.getElem?_eq_getElem _⟩
    have:=hre (i-len) (by omega)
    rw [hy,Option.bind_eq_some_iff,show len+(i-len)=i by omega] at this
    obtain ⟨us,h1,h2⟩:=this
    obtain ⟨_,h3,h4⟩:=World.cells?_some h1
    exact ⟨us,y,h3,h4,h2,fun h=>absurd h hil⟩
  by_cases hcap:cap=0
  ·subst hcap
   obtain rfl:len=0:=by omega
   exact ⟨(some a,0,0),[],h3,SRd.emp,⟨by simp,hQ _ (Nat.zero_le _)⟩,by simp⟩
  ·obtain ⟨us0,_,hl0,hc0,_⟩:=cell 0 (by omega)
   have h00:=hc0 0 hn
   rw [List.getElem?_eq_getElem (by omega)] at h00
   obtain ⟨hs,cs',e',fr,hblk,_⟩:=OU h00
   have hs':a.spot=none:=by simpa [Addr.add] using hs
   have hblk':W.heap[a.block]? =some (.cells cs' e' fr):=by simpa [Addr.add] using hblk
   obtain ⟨b,off,sp⟩:=a
   simp only at hs' hblk'
   subst hs'
   have at_: ∀ i j,((⟨b,off,none⟩:Addr).add (i*A.n)).add j=⟨b,off+i*A.n+j,none⟩:=fun i j=>by
    unfold Addr.add
    split <;> split <;> simp_all
   have cellx: ∀ i,i<cap→ ∃ us y,us.length=A.n∧(∀ j,j<A.n→cs'[off+i*A.n+j]? =us[j]?)∧DataW.trod enc P W 0 (fun _=>true) true m e us=some y∧(i<len→elems[i]? =some y):=fun i hi=>by
    obtain ⟨us,y,h3,h4,h5,h6⟩:=cell i hi
    refine ⟨us,y,h3,fun j hj=> ?_,h5,h6⟩
    have:=h4 j hj
    rw [at_] at this
    simpa [World.cell?,hblk'] using this
   have hsize:off+cap*A.n≤cs'.size:=by
    obtain ⟨us,_,h3,h4,_⟩:=cellx (cap-1) (by omega)
    have:=h4 (A.n-1) (by omega)
    rw [List.getElem?_eq_getElem (by omega)] at this
    have:=(Array.getElem?_eq_some_iff.1 this).1
    have e1:cap*A.n=(cap-1)*A.n+A.n:=by
     have:cap=(cap-1)+1:=by omega
     conv=>lhs;rw [this]
     rw [Nat.add_mul,Nat.one_mul]
    omega
   have hel': ∀ i y,elems[i]? =some y→ ∃ z,(A.rd (fun _=>False) W (((cs'.toList.drop off).drop (i*A.n)).take A.n) z∧D z):=fun i y hy=>by
    have hi:i<len:=by rw [← hlen];exact (List.getElem?_eq_some_iff.1 hy).1
    obtain ⟨us,y',h3,h4,h5,h6⟩:=cellx i (by omega)
    obtain rfl:y'=y:=by have:=h6 hi;rw [hy] at this;exact (Option.some.inj this).symm
    have hus:((cs'.toList.drop off).drop (i*A.n)).take A.n=us:=by
     apply List.ext_getElem?
     intro j
     by_cases hj:j<A.n
     ·rw [List.getElem?_take,if_pos hj,List.getElem?_drop,List.getElem?_drop,← h4 j hj]
      simp [Nat.add_assoc]
     ·rw [List.getElem?_take,if_neg hj,List.getElem?_eq_none (by omega)]
    rw [hus]
    exact he m us y' (hQe y' (List.mem_of_getElem? hy)) h5
   obtain ⟨l,hll,hR⟩:=yv (fun i y z=>A.rd (fun _=>False) W (((cs'.toList.drop off).drop (i*A.n)).take A.n) z∧D z) elems hel'
   have hll':l.length=len:=by omega
   have get: ∀ i (hi:i<l.length),A.rd (fun _=>False) W (((cs'.toList.drop off).drop (i*A.n)).take A.n) l[i]∧D l[i]:=fun i hi=>by
    obtain ⟨y,hy⟩: ∃ y,elems[i]? =some y:=⟨elems[i]'(by omega),List.getElem?_eq_getElem _⟩
    exact hR i y l[i] hy (List.getElem?_eq_getElem _)
   refine ⟨(some ⟨b,off,none⟩,len,cap),l,h3,.inr ⟨b,off,cap,cs',e',fr,by rw [hll'];rfl,(fun h=>h),hblk',by omega,hsize,?_⟩,⟨by omega,hQ _ (by omega)⟩,fun z hz=> ?_⟩
   ·have hle:l.length*A.n≤cap*A.n:=Nat.mul_le_mul_right _ (by omega)
    refine ⟨?_,fun i hi=> ?_⟩
    ·simp only [List.length_take,List.length_drop,Array.length_toList]
     omega
    ·have h1:i*A.n+A.n≤l.length*A.n:=by rw [← Nat.succ_mul];exact Nat.mul_le_mul_right _ hi
     rw [List.drop_take,List.take_take,Nat.min_eq_left (by omega)]
     exact (get i hi).1
   ·obtain ⟨i,hi,rfl⟩:=List.getElem_of_mem hz
    exact (get i hi).2
theorem GX {H:Type} {enc:TypeId×Value→H} {P:Program} {W:World} {Q:Nat→Prop}: ∀ (n:Nat) (i:TypeId) (t:Ty),fits P n i t=true→ ∀ (fuel:Nat) (cs:List Value) (x:DataW H×List MemPlace),
  (∀ n,n≤Rows.uptoBulk x.1→Q n)→DataW.trod enc P W 0 (fun _=>true) true fuel i cs=some x→ ∃ z:t.T,t.rep.rd (fun _=>False) W cs z∧Dom Q t z:=by
 intro n
 induction n with
 | zero=>intro i t h;cases h
 | succ n ih=>
 intro i t hf fuel cs x hQ h
 unfold fits at hf
 split at hf
 ·rename_i k hu
  split at hf
  ·obtain ⟨z,h1,_,h3⟩:=DataW.trod_int hu h
   have e:=of_decide_eq_true hf
   subst e
   exact ⟨z,h1,h3⟩
  ·cases hf
 ·rename_i hu
  split at hf
  ·obtain ⟨z,h1,_⟩:=DataW.trod_bool hu h
   exact ⟨z,h1,trivial⟩
  ·cases hf
 ·rename_i hu
  split at hf
  ·obtain ⟨⟨⟨z⟩⟩,h1,_,h3⟩:=DataW.trod_string hu h
   exact ⟨z,h1,h3⟩
  ·cases hf
 ·rename_i e hu
  split at hf
  ·rename_i u
   simp only [Bool.and_eq_true,beq_iff_eq,Nat.blt_eq] at hf
   obtain ⟨⟨h1,h2⟩,h3⟩:=hf
   obtain ⟨p,zs,a1,a2,a3,a4⟩:=Lk (A:=u.rep) (Q:=Q) (D:=Dom Q u) hu h1 h2 fuel cs x hQ (fun fuel us y hy h=>ih e u h3 fuel us y hy h) h
   exact ⟨zs,⟨p,a1,a2⟩,a3,a4⟩
  ·cases hf
 ·rename_i fs hu
  have key: ∀ t:Ty,pE P (fits P n) (P.cellsOf i) fs.toList 0 t=true→ ∃ z:t.T,t.rep.rd (fun _=>False) W cs z∧Dom Q t z:=fun t hf=>by
   obtain ⟨xs,m,_,hx,hl,hxs,hfl⟩:=DataW.trod_struct hu h
   have hb:Rows.uptoBulk x.1=Rows.uptoBulkAll (xs.map (·.1))+1:=by rw [hx];simp only [Rows.uptoBulk]
   have hQe: ∀ y∈xs,∀ n,n≤Rows.uptoBulk y.1→Q n:=fun y hy n hn=>hQ n (by
    have:=rB (d:=y.1) (l:=xs.map (·.1)) (List.mem_map.2 ⟨y,hy,rfl⟩)
    omega)
   have one: ∀ (j:Nat) (f:Field) (t:Ty),fs.toList[j]? =some f→fits P n f.type t=true→ ∃ z:t.T,t.rep.rd (fun _=>False) W ((cs.drop f.offset).take (P.cellsOf f.type)) z∧Dom Q t z:=fun j f t hj ht=>by
    have hj':fs[j]? =some f:=by simpa using hj
    have h1:=hfl j f hj'
    have hjl:j<xs.length:=by rw [hxs];exact (Array.getElem?_eq_some_iff.1 hj').1
    rw [List.getElem?_eq_getElem hjl] at h1
    exact ih f.type t ht m _ _ (hQe _ (List.getElem_mem _)) h1
   have go: ∀ (r:List Field) (j off:Nat) (t:Ty),fs.toList.drop j=r→pE P (fits P n) (P.cellsOf i) r off t=true→ ∃ z:t.T,t.rep.rd (fun _=>False) W (cs.drop off) z∧Dom Q t z:=fun r=>by
    induction r with
    | nil=>intro j off t _ h;cases h
    | cons f r ihr=>
     intro j off t hr hf
     have hj:fs.toList[j]? =some f:=by
      have:=congrArg (·[0]?) hr
      simpa [List.getElem?_drop] using this
     have hr':fs.toList.drop (j+1)=r:=by
      rw [← List.drop_drop,hr];rfl
     cases r with
     | nil=>
      simp only [pE,Bool.and_eq_true,beq_iff_eq] at hf
      obtain ⟨⟨⟨h1,h2⟩,h3⟩,h4⟩:=hf
      obtain ⟨z,z1,z2⟩:=one j f t hj h4
      rw [h1,List.take_of_length_le (by simp;omega)] at z1
      exact ⟨z,z1,z2⟩
     | cons g r=>
      unfold pE at hf
      split at hf
      ·rename_i a b
       simp only [Bool.and_eq_true,beq_iff_eq] at hf
       obtain ⟨⟨⟨h1,h2⟩,h3⟩,h4⟩:=hf
       obtain ⟨z,z1,z2⟩:=one j f a hj h3
       obtain ⟨y,y1,y2⟩:=ihr (j+1) _ b hr' h4
       rw [h1] at z1
       refine ⟨(z,y),⟨_,_,?_,z1,y1⟩,z2,y2⟩
       rw [← List.drop_drop];exact (List.take_append_drop ..).symm
      ·cases hf
   obtain ⟨z,z1,z2⟩:=go fs.toList 0 0 t rfl hf
   exact ⟨z,by simpa using z1,z2⟩
  split at hf
  ·obtain ⟨e,h1,h2⟩:=J5 (Rw hf) fuel cs x h
   exact ⟨e,h1,hQ _ h2⟩
  ·exact key _ hf
  ·cases hf
 ·cases hf
def gA (W:World) (I:Its):Prop:= ∀ it∈I,it.1=false∧it.2.bY=true∧ ∀ M,Mv (fun _=>False) W M W→it.2.P M W
theorem gA.nil {W:World}:gA W []:=fun it h=>by cases h
theorem gA.app {W:World} {I J:Its} (h:gA W I) (k:gA W J):gA W (I++J):=fun it hit=>by
 rcases List.mem_append.1 hit with h1 | h1
 ·exact h it h1
 ·exact k it h1
theorem gA.one {W:World} {α:Type} {A:Rep α} {p:SLV} {l:List α} (h:SRd A (fun _=>False) W (sl p) l):gA W [(false,wQ true A p l false)]:=fun it hit=>by
 rcases List.mem_singleton.1 hit with rfl
 exact ⟨rfl,rfl,fun M hm _=>⟨h.mv hm,fun h=>by cases h⟩⟩
theorem tM {W:World}: ∀ (t:Ty) (cs:List Value) (x:t.T),noN t=true→t.rep.rd (fun _=>False) W cs x→ ∀ (o:List (Option TypeId)) (N:List Nm),∃ I N',y7 t x cs (kR t++o) N I N' o∧gA W I
 | .i k,cs,x,hn,h,o,N=>⟨[],N,⟨h,rfl,rfl,rfl⟩,.nil⟩
 | .bo,cs,x,hn,h,o,N=>⟨[],N,⟨h,rfl,rfl,rfl⟩,.nil⟩
 | .s,cs,x,hn,h,o,N=>⟨[],N,⟨h,rfl,rfl,rfl⟩,.nil⟩
 | .un,cs,x,hn,h,o,N=>⟨[],N,⟨h,rfl,rfl,rfl⟩,.nil⟩
 | .n,cs,x,hn,h,o,N=>by cases hn
 | .mp _ _,cs,x,hn,h,o,N=>absurd h id
 | .p a b,cs,x,hn,h,o,N=>by
  simp only [noN,Bool.and_eq_true] at hn
  obtain ⟨c1,c2,h1,h2,h3⟩:=h
  obtain ⟨I1,N1,s1,g1⟩:=tM a c1 x.1 hn.1 h2 (kR b++o) N
  obtain ⟨I2,N2,s2,g2⟩:=tM b c2 x.2 hn.2 h3 o N1
  refine ⟨I1++I2,N2,⟨c1,c2,N1,I1,I2,kR b++o,?_,s2,h1,rfl⟩,g1.app g2⟩
  rw [show kR (.p a b)++o=kR a++(kR b++o) by simp [kR]]
  exact s1
 | .l t,cs,x,hn,h,o,N=>by
  obtain ⟨p,h1,h2⟩:=h
  exact ⟨_,_,⟨⟨0,p,⟨0,0,none⟩,none,.bool false,⟨.un,()⟩⟩,h1,rfl,.inl ⟨rfl,rfl⟩⟩,.one h2⟩
 | .ex,cs,x,hn,h,o,N=>by
  obtain ⟨p,h1,h2⟩:=vm h
  exact ⟨_,_,⟨⟨0,p,⟨0,0,none⟩,none,.bool false,⟨.un,()⟩⟩,h1,rfl,.inl ⟨rfl,rfl⟩⟩,.one h2⟩
def Arg (W:World) (t:Ty) (v:Value) (z:t.T):Prop:= ∀ N:List Nm,∃ I N',Sem (R7 t) v none none N [⟨t,z⟩] I [] N'∧gA W I
theorem Hk {H:Type} {enc:TypeId×Value→H} {P:Program} {W:World} {Q:Nat→Prop} {base:Nat} {n:Nat} {i:TypeId} (t:Ty) (hf:fits P n i t=true) {v:Value} {d:DataW H} {ps:List MemPlace}
  (hw:Value.okWide P W .any base i v) (hQ: ∀ n,n≤Rows.uptoBulk d→Q n) (h:DataW.Trod enc P W 0 (fun _=>true) true i v d ps): ∃ z:t.T,Arg W t v z∧Dom Q t z:=by
 have hk:=h
 obtain ⟨fuel,hx⟩:=h
 obtain ⟨z,h1,h2⟩:=GX n i t hf fuel _ _ hQ hx
 refine ⟨z,?_,h2⟩
 cases n with
 | zero=>cases hf
 | succ n=>
 unfold fits at hf
 split at hf
 ·rename_i k hu
  split at hf
  ·have e:=of_decide_eq_true hf
   subst e
   obtain ⟨y,rfl,_⟩:=open_int hu hw hk
   have:y=z:=by
    have h1:([.int k y]:List Value)=[.int k z]:=h1
    injection h1 with h1 _
    injection h1
   subst this
   exact fun N=>⟨[],N,⟨y,rfl,rfl,rfl,rfl,rfl⟩,.nil⟩
  ·cases hf
 ·rename_i hu
  split at hf
  ·obtain ⟨y,rfl,_⟩:=open_bool hu hw hk
   have:y=z:=by
    have h1:([.bool y]:List Value)=[.bool z]:=h1
    injection h1 with h1 _
    injection h1
   subst this
   exact fun N=>⟨[],N,⟨y,rfl,rfl,rfl,rfl,rfl⟩,.nil⟩
  ·cases hf
 ·rename_i hu
  split at hf
  ·obtain ⟨⟨⟨y⟩⟩,rfl,_⟩:=open_string hu hw hk
   have:y=z:=by
    have h1:([S y]:List Value)=[S z]:=h1
    injection h1 with h1 _
    injection h1 with h1
    injection h1 with h1
    injection h1
   subst this
   exact fun N=>⟨[],N,⟨y,rfl,rfl,rfl,rfl,rfl⟩,.nil⟩
  ·cases hf
 ·rename_i e hu
  split at hf
  ·rename_i u
   obtain ⟨a,len,cap,rfl⟩:=okWide_slice hu hw
   obtain ⟨p,e1,h3⟩:=h1
   have e2:Value.slice a len cap=sl p:=by simpa [Value.cells] using e1
   rw [e2]
   exact fun N=>⟨_,_,⟨⟨0,p,⟨0,0,none⟩,none,.bool false,⟨.un,()⟩⟩,z,rfl,rfl,rfl,rfl,rfl⟩,.one h3⟩
  ·cases hf
 ·rename_i fs hu
  obtain ⟨cs,rfl,_,_⟩:=RR hu hw
  split at hf
  ·obtain ⟨p,e1,h3⟩:=vm h1
   exact fun N=>⟨_,_,⟨cs.toList,z,[],by simp,rfl,⟨⟨0,p,⟨0,0,none⟩,none,.bool false,⟨.un,()⟩⟩,e1,rfl,.inl ⟨rfl,rfl⟩⟩,rfl⟩,.one h3⟩
  ·rename_i a b
   exact fun N=>by
    obtain ⟨I,N',s,g⟩:=tM (.p a b) _ z (wT (fun i t=>Fe n i t) _ _ _ hf) h1 [] N
    exact ⟨I,N',⟨cs.toList,z,[],by simp,rfl,by simpa [Value.cells] using s,rfl⟩,g⟩
  ·cases hf
 ·cases hf
def OM (W:World) (ps:List Pt) (vs:List Value) (D:List Dyn):Prop:= ∀ N:List Nm,∃ I N',mY ps vs [] [] N D I [] N'∧gA W I
theorem OS {W:World}:OM W [] [] []:=fun N=>⟨[],N,⟨rfl,rfl,rfl,rfl,rfl⟩,.nil⟩
theorem Lg {W:World} {t:Ty} {v:Value} {z:t.T} {ps:List Pt} {vs:List Value} {D:List Dyn} (h:Arg W t v z) (k:OM W ps vs D):OM W (R7 t::ps) (v::vs) (⟨t,z⟩::D):=fun N=>by
 obtain ⟨I1,N1,s1,g1⟩:=h N
 obtain ⟨I2,N2,s2,g2⟩:=k N1
 exact ⟨I1++I2,N2,⟨v,vs,[⟨t,z⟩],D,I1,I2,[],[],N1,rfl,s1,s2,rfl,rfl,rfl⟩,g1.app g2⟩
theorem MH {W:World} {I:Its} {Γ:Ctx} (g:gA W I) (hn:NoM Γ) (h:Sat Γ W):Sat (bG I++Γ) W:=qG h _ (fun it hit=>by
 obtain ⟨x,hx,rfl⟩:=List.mem_map.1 hit
 exact ⟨(g x hx).2.1,(g x hx).2.2 _ (MU hn)⟩)
end Go.Proofs.YtgcgmclghbebjaaGreat
namespace Go.Proofs.YtgcgmclghbebjaaGreat
namespace So
theorem LD {x:Int} (h:(Lit.int .i64 x).wf=true):I64 x:=by
 simp only [Lit.wf,Bool.and_eq_true,decide_eq_true_eq] at h
 exact h
theorem S8 {x:Int} (h:(Lit.int .u8 x).wf=true):0≤x∧x≤255:=by
 simp only [Lit.wf,Bool.and_eq_true,decide_eq_true_eq] at h
 exact h
theorem S3 {Q:Nat→Prop} {s:List Fd} (h:Dom Q (.l (.p (.i .i64) (.i .i64))) s):FI s:=fun f hf=>⟨LD (h.2 f hf).1,LD (h.2 f hf).2⟩
end So
end Go.Proofs.YtgcgmclghbebjaaGreat
namespace Go.Proofs.YtgcgmclghbebjaaGreat
namespace So
theorem Sz {x:Int} (h:(Lit.int .u16 x).wf=true):0≤x∧x≤65535:=by
 simp only [Lit.wf,Bool.and_eq_true,decide_eq_true_eq] at h
 exact h
theorem Qq {Q:Nat→Prop} (w:LIn) (h:Dom Q (.p (.l (.p (.i .i64) (.i .i64))) (.p (.i .u16) (.p (.i .u8) (.p (.i .u64) (.l (.p (.i .u8) (.p (.l (.i .i64)) (.i .i64)))))))) w):dO w=some true:=
 J1 w (S3 h.1) (Sz h.2.1) (S8 h.2.2.1)
end So
end Go.Proofs.YtgcgmclghbebjaaGreat
