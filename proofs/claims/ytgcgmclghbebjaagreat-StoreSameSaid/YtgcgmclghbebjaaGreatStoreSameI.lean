/-
  Own texts for the statement StoreSame, cut down to what it needs: SoH, SoI, SoFew, SoShown, SoSame, SoFull, KFr, KFx, KArg, SoFullT, SoSameT. (cut and joined by a program)
-/
import Derived.Test.YtgcgmclghbebjaaGreatStoreSameA
import Derived.Test.YtgcgmclghbebjaaGreatStoreSameB
import Derived.Test.YtgcgmclghbebjaaGreatStoreSameC
import Derived.Test.YtgcgmclghbebjaaGreatStoreSameD
import Derived.Test.YtgcgmclghbebjaaGreatStoreSameE
import Derived.Test.YtgcgmclghbebjaaGreatStoreSameF
import Derived.Test.YtgcgmclghbebjaaGreatStoreSameG
import Derived.Test.YtgcgmclghbebjaaGreatStoreSameH
import Derived.Lib.LaidTab
import Derived.Below
import Derived.WalkKit
import Derived.ProofKit
import Derived.Test.YtgcgmclghbebjaaGreatRows
import Derived.Carry
import Derived.ChangeSlices
import Derived.OpenShut
namespace Go.Proofs.YtgcgmclghbebjaaGreat
namespace So
/-! sets of words -/
noncomputable def DS (d:Df.D) (W:Nat) (L:List (List Int)):Prop:= ∃ A,Df.Good d W L.length A∧ ∀ w,w.length=W→(Df.qV d w↔w∈L)
theorem EO {W:Nat} (h:1≤W∧W≤64):DS ((W:Int),[],-1,0,[]) W []:=
 ⟨[],Df.M7 h,fun w _=>⟨fun h=>absurd rfl h.1,fun h=>by simp at h⟩⟩
theorem zM {d:Df.D} {W:Nat} {L:List (List Int)} (h:DS d W L) {w:List Int} (hw:w.length=W):gw d w=some (decide (w∈L)):=by
 obtain ⟨A,G,ht⟩:=h
 have:=G.w1
 obtain ⟨r,h1,h2⟩:=Df.LJ G (w:=w) (by omega)
 rw [h1]
 congr 1
 rw [Bool.eq_iff_iff,h2,decide_eq_true_eq,ht w hw]
 exact ⟨fun h=>h.2,fun h=>⟨hw,h⟩⟩
theorem Se {d:Df.D} {W:Nat} {L:List (List Int)} (h:DS d W L) {w:List Int} (hw:w.length=W) (hb:By w) (hm:w∈L) (hl:L.length<2097152):cQ d w=some (d,false,0):=by
 obtain ⟨A,G,ht⟩:=h
 have:=G.w1
 rcases Df.LK G hl (w:=w) (fun b hb'=>by have:=hb b hb';omega) (by omega) with ⟨h1,_⟩ | ⟨_,_,h2⟩ | ⟨_,h2,_⟩
 ·exact absurd hw h1
 ·exact h2
 ·exact absurd ((ht w hw).2 hm) h2
theorem Lr {d:Df.D} {W:Nat} {L:List (List Int)} (h:DS d W L) {w:List Int} (hw:w.length=W) (hb:By w) (hm:w∉L) (hl:L.length<2097152): ∃ d',cQ d w=some (d',true,0)∧DS d' W (L++[w]):=by
 obtain ⟨A,G,ht⟩:=h
 have:=G.w1
 rcases Df.LK G hl (w:=w) (fun b hb'=>by have:=hb b hb';omega) (by omega) with ⟨h1,_⟩ | ⟨_,h1,_⟩ | ⟨_,_,d',A',h2,h3,h4⟩
 ·exact absurd hw h1
 ·exact absurd ((ht w hw).1 h1) hm
 ·refine ⟨d',h2,A',by simpa using h3,fun v hv=> ?_⟩
  rw [h4 v hv,ht v hv,List.mem_append,List.mem_singleton]
  exact Or.comm
theorem HC {d:Df.D} {W:Nat} {L:List (List Int)} (h:DS d W L):pN d=some (L.length:Int):=by
 obtain ⟨A,G,_⟩:=h
 unfold pN;rw [G.many]
/-! the store of words -/
abbrev Wo:=Df.D×Df.D×Df.D
noncomputable def FlD (s:List Fd) (d:Df.D) (V:List (List Int)) (p:List Int→Bool):Prop:= ∃ F:List (List Int),DS d (di s) (F.map (enc s))∧F.Nodup∧(∀ v,v∈F↔p v=true)∧ ∀ v∈F,v∈V
structure OkW (s:List Fd) (cap:Int) (t:Wo) (V:List (List Int)) (g:Gf):Prop where
 cap1:cap≤1048576
 few:(V.length:Int)≤cap
 ins: ∀ v∈V,In s v
 nd:V.Nodup
 d0:DS t.1 (di s) (V.map (enc s))
 d1:FlD s t.2.1 V (g false)
 d2:FlD s t.2.2 V (g true)
theorem HR {s:List Fd} (hs:Fds s):1≤di s∧di s≤64:=by
 have:=m6 hs;have:=hs.few
 unfold di;omega
theorem FlD.add {s:List Fd} {d:Df.D} {V:List (List Int)} {p:List Int→Bool} (h:FlD s d V p) (v:List Int):FlD s d (V++[v]) p:=by
 obtain ⟨F,h1,h2,h3,h4⟩:=h
 exact ⟨F,h1,h2,h3,fun u hu=>List.mem_append_left _ (h4 u hu)⟩
theorem FlD.has {s:List Fd} {d:Df.D} {V:List (List Int)} {p:List Int→Bool} (hV: ∀ v∈V,In s v) (h:FlD s d V p) {v:List Int} (hv:In s v):gw d (enc s v)=some (p v):=by
 obtain ⟨F,h1,h2,h3,h4⟩:=h
 rw [zM h1 (lW hv.len)]
 congr 1
 rw [Bool.eq_iff_iff,decide_eq_true_eq,lV (fun u hu=>hV u (h4 u hu)) hv,h3]
theorem FlD.set {s:List Fd} {d:Df.D} {V:List (List Int)} {p:List Int→Bool} (hV: ∀ v∈V,In s v) (hl:V.length<2097152) (h:FlD s d V p) {v:List Int} (hv:In s v) (hm:v∈V):
  ∃ d' b,cQ d (enc s v)=some (d',b,0)∧FlD s d' V (fun u=>p u||u==v):=by
 obtain ⟨F,h1,h2,h3,h4⟩:=h
 have hF:=O7 h2 h4
 by_cases hp:v∈F
 ·refine ⟨d,false,Se h1 (lW hv.len) (z5 s v) (List.mem_map.2 ⟨v,hp,rfl⟩) (by simp;omega),F,h1,h2,fun u=> ?_,h4⟩
  rw [Bool.or_eq_true,beq_iff_eq,h3]
  exact ⟨.inl,fun h=>h.elim id fun e=>e▸(h3 v).1 hp⟩
 ·obtain ⟨d',e1,e2⟩:=Lr h1 (lW hv.len) (z5 s v) (by rw [lV (fun u hu=>hV u (h4 u hu)) hv];exact hp) (by simp;omega)
  refine ⟨d',true,e1,F++[v],by simpa using e2,List.nodup_append.2 ⟨h2,by simp,fun a ha b hb=>by simp at hb;subst hb;exact fun e=>hp (e▸ha)⟩,fun u=> ?_,fun u hu=> ?_⟩
  ·rw [Bool.or_eq_true,beq_iff_eq,List.mem_append,List.mem_singleton,h3]
  ·rcases List.mem_append.1 hu with hu | hu
   ·exact h4 u hu
   ·simp at hu;subst hu;exact hm
/-! all lossless stores -/
abbrev St:=Int×List Fd×Int×Fl×Co×Tr×Wo×(Int×Int×Int×(List Int×List Int×List Int))
structure OkS (t:St) (s:List Fd) (cap:Int) (V:List (List Int)) (g:Gf):Prop where
 sch:t.2.1=s
 cap_:t.2.2.1=cap
 kind:(t.1=0∧OkF s t.2.2.2.1 V g∧t.2.2.2.1.1.1=cap)∨(t.1=1∧OkC s cap t.2.2.2.2.1 V g)∨(t.1=2∧OkT s cap t.2.2.2.2.2.1 V g)∨(t.1=3∧OkW s cap t.2.2.2.2.2.2.1 V g)
theorem vJ {t:St} {s:List Fd} (hs:Fds s) (ht:t.2.1=s) {v:List Int} (hv:In s v):bR t v=some (enc s v):=by
 unfold bR
 rw [ht,vt hs hv,ab]
theorem OD {t:St} {v:List Int} (hin:bQ t.2.1 v=some 0):
  (t.1=0→br t v=eT () t v)∧(t.1=1→br t v=eC () t v)∧(t.1=2→br t v=eB () t v)∧(t.1=3→br t v=eQ () t v)∧(t.1=4→br t v=gY () t v):=by
 have eta: ∀ x:Option (St×Bool×Int),(x.bind fun r=>some (r.1,r.2.1,r.2.2))=x:=fun x=>by cases x <;> rfl
 have k: ∀ n:Nat,aT t=some n→br t v=(bif (Nat.beq n 133) then eT () t v else bif (Nat.beq n 134) then eC () t v else bif (Nat.beq n 135) then eB () t v else bif (Nat.beq n 136) then eQ () t v else bif (Nat.beq n 137) then gY () t v else none):=by
  intro n hn
  unfold br
  rw [hin,ab,show ((0:Int) != 0)=false from rfl,cond_false,hn,ab,eta,eta,eta,eta,eta]
 refine ⟨fun h=> ?_,fun h=> ?_,fun h=> ?_,fun h=> ?_,fun h=> ?_⟩
 ·rw [k 133 (by unfold aT aC;rw [h];rfl)];rfl
 ·rw [k 134 (by unfold aT aC;rw [h];rfl)];rfl
 ·rw [k 135 (by unfold aT aC;rw [h];rfl)];rfl
 ·rw [k 136 (by unfold aT aC;rw [h];rfl)];rfl
 ·rw [k 137 (by unfold aT aC;rw [h];rfl)];rfl
theorem NG {t:St} {v:List Int} (hin:bQ t.2.1 v=some 0):
  (t.1=0→bV t v=(eP () t v).bind fun r=>some (r,0))∧(t.1=1→bV t v=(eD () t v).bind fun r=>some (r,0))∧(t.1=2→bV t v=(ey () t v).bind fun r=>some (r,0))∧(t.1=3→bV t v=(eR () t v).bind fun r=>some (r,0))∧(t.1=4→bV t v=(gV () t v).bind fun r=>some (r,0)):=by
 have k: ∀ n:Nat,aT t=some n→bV t v=(bif (Nat.beq n 133) then (eP () t v).bind fun r=>some (r,0) else bif (Nat.beq n 134) then (eD () t v).bind fun r=>some (r,0) else bif (Nat.beq n 135) then (ey () t v).bind fun r=>some (r,0) else bif (Nat.beq n 136) then (eR () t v).bind fun r=>some (r,0) else bif (Nat.beq n 137) then (gV () t v).bind fun r=>some (r,0) else none):=by
  intro n hn
  unfold bV
  rw [hin,ab,show ((0:Int) != 0)=false from rfl,cond_false,hn,ab]
 refine ⟨fun h=> ?_,fun h=> ?_,fun h=> ?_,fun h=> ?_,fun h=> ?_⟩
 ·rw [k 133 (by unfold aT aC;rw [h];rfl)];rfl
 ·rw [k 134 (by unfold aT aC;rw [h];rfl)];rfl
 ·rw [k 135 (by unfold aT aC;rw [h];rfl)];rfl
 ·rw [k 136 (by unfold aT aC;rw [h];rfl)];rfl
 ·rw [k 137 (by unfold aT aC;rw [h];rfl)];rfl
theorem MZ {t:St} {v:List Int} (f:Int) (hin:bQ t.2.1 v=some 0):
  (t.1=0→dv t v f=gO () t v f)∧(t.1=1→dv t v f=fS () t v f)∧(t.1=2→dv t v f=fF () t v f)∧(t.1=3→dv t v f=gI () t v f)∧(t.1=4→dv t v f=jx () t v f):=by
 have eta: ∀ x:Option (St×Int),(x.bind fun r=>some (r.1,r.2))=x:=fun x=>by cases x <;> rfl
 have k: ∀ n:Nat,aT t=some n→dv t v f=(bif (Nat.beq n 133) then gO () t v f else bif (Nat.beq n 134) then fS () t v f else bif (Nat.beq n 135) then fF () t v f else bif (Nat.beq n 136) then gI () t v f else bif (Nat.beq n 137) then jx () t v f else none):=by
  intro n hn
  unfold dv
  rw [hin,ab,show ((0:Int) != 0)=false from rfl,cond_false,hn,ab,eta,eta,eta,eta,eta]
 refine ⟨fun h=> ?_,fun h=> ?_,fun h=> ?_,fun h=> ?_,fun h=> ?_⟩
 ·rw [k 133 (by unfold aT aC;rw [h];rfl)];rfl
 ·rw [k 134 (by unfold aT aC;rw [h];rfl)];rfl
 ·rw [k 135 (by unfold aT aC;rw [h];rfl)];rfl
 ·rw [k 136 (by unfold aT aC;rw [h];rfl)];rfl
 ·rw [k 137 (by unfold aT aC;rw [h];rfl)];rfl
theorem OG {t:St} {v:List Int} (f:Int) (hin:bQ t.2.1 v=some 0):
  (t.1=0→dq t v f=gK () t v f)∧(t.1=1→dq t v f=fE () t v f)∧(t.1=2→dq t v f=fP () t v f)∧(t.1=3→dq t v f=gB () t v f)∧(t.1=4→dq t v f=jA () t v f):=by
 have eta: ∀ x:Option (Bool×Int),(x.bind fun r=>some (r.1,r.2))=x:=fun x=>by cases x <;> rfl
 have k: ∀ n:Nat,aT t=some n→dq t v f=(bif (Nat.beq n 133) then gK () t v f else bif (Nat.beq n 134) then fE () t v f else bif (Nat.beq n 135) then fP () t v f else bif (Nat.beq n 136) then gB () t v f else bif (Nat.beq n 137) then jA () t v f else none):=by
  intro n hn
  unfold dq
  rw [hin,ab,show ((0:Int) != 0)=false from rfl,cond_false,hn,ab,eta,eta,eta,eta,eta]
 refine ⟨fun h=> ?_,fun h=> ?_,fun h=> ?_,fun h=> ?_,fun h=> ?_⟩
 ·rw [k 133 (by unfold aT aC;rw [h];rfl)];rfl
 ·rw [k 134 (by unfold aT aC;rw [h];rfl)];rfl
 ·rw [k 135 (by unfold aT aC;rw [h];rfl)];rfl
 ·rw [k 136 (by unfold aT aC;rw [h];rfl)];rfl
 ·rw [k 137 (by unfold aT aC;rw [h];rfl)];rfl
theorem Lq {t:St}:
  (t.1=0→cX t=fL () t)∧(t.1=1→cX t=fm () t)∧(t.1=2→cX t=fp () t)∧(t.1=3→cX t=fQ () t)∧(t.1=4→cX t=jc () t):=by
 have eta: ∀ x:Option Int,(x.bind fun r=>some r)=x:=fun x=>by cases x <;> rfl
 have k: ∀ n:Nat,aT t=some n→cX t=(bif (Nat.beq n 133) then fL () t else bif (Nat.beq n 134) then fm () t else bif (Nat.beq n 135) then fp () t else bif (Nat.beq n 136) then fQ () t else bif (Nat.beq n 137) then jc () t else none):=by
  intro n hn
  unfold cX
  rw [hn,ab,eta,eta,eta,eta,eta]
 refine ⟨fun h=> ?_,fun h=> ?_,fun h=> ?_,fun h=> ?_,fun h=> ?_⟩
 ·rw [k 133 (by unfold aT aC;rw [h];rfl)];rfl
 ·rw [k 134 (by unfold aT aC;rw [h];rfl)];rfl
 ·rw [k 135 (by unfold aT aC;rw [h];rfl)];rfl
 ·rw [k 136 (by unfold aT aC;rw [h];rfl)];rfl
 ·rw [k 137 (by unfold aT aC;rw [h];rfl)];rfl
theorem in0 {t:St} {s:List Fd} (hs:Fds s) (ht:t.2.1=s) {v:List Int} (hv:In s v):bQ t.2.1 v=some 0:=by
 have:=hs.few;have:=hv.len
 rw [ht,kQ s v (by omega),j2.2 hv]
noncomputable def rM (s:List Fd) (cap:Int) (V:List (List Int)) (v:List Int):List (List Int)×Bool×Int:=if inC s v=0 then np cap V v else (V,false,inC s v)
noncomputable def Rs (s:List Fd) (V:List (List Int)) (v:List Int):Bool×Int:=if inC s v=0 then (decide (v∈V),0) else (false,inC s v)
noncomputable def xu (s:List Fd) (V:List (List Int)) (v:List Int) (flag:Int):Int:=if inC s v=0 then cp V v flag else inC s v
noncomputable def MB (s:List Fd) (V:List (List Int)) (g:Gf) (v:List Int) (flag:Int):Gf:=if xu s V v flag=0 then upd g (flag==1) v else g
noncomputable def Ri (s:List Fd) (V:List (List Int)) (g:Gf) (v:List Int) (flag:Int):Bool:=if xu s V v flag=0 then g (flag==1) v else false
theorem FG {s:List Fd} (hs:fy s) {t:St} {cap:Int} {V:List (List Int)} {g:Gf} (h:OkS t s cap V g) (v:List Int) (hl:v.length<100000000):
  ∃ t',br t v=some (t',(rM s cap V v).2)∧OkS t' s cap (rM s cap V v).1 g∧t'.1=t.1:=by
 unfold rM
 by_cases hc:inC s v=0
 ·rw [if_pos hc]
  have hv:=j2.1 hc
  have hin:=in0 hs.fds h.sch hv
  have hk:=vJ hs.fds h.sch hv
  obtain ⟨k0,k1,k2,k3,_⟩:=OD hin
  rcases h.kind with ⟨e,ok,hcap⟩ | ⟨e,ok⟩ | ⟨e,ok⟩ | ⟨e,ok⟩
  ·rw [k0 e]
   unfold eT
   obtain ⟨f,h1,h2,h3⟩:=J7 hs.fds ok hv
   rw [hcap] at h1 h2 h3
   rw [hk,ab,h1,ab]
   exact ⟨_,rfl,⟨h.sch,h.cap_,.inl ⟨e,h2,h3⟩⟩,rfl⟩
  ·rw [k1 e]
   unfold eC
   obtain ⟨f,h1,h2⟩:=Jk hs.fds ok hv
   rw [h.sch,h1,ab]
   exact ⟨_,rfl,⟨rfl,h.cap_,.inr (.inl ⟨e,h2⟩)⟩,rfl⟩
  ·rw [k2 e]
   unfold eB
   obtain ⟨f,h1,h2⟩:=Jq hs ok hv
   rw [h.sch,h1,ab]
   exact ⟨_,rfl,⟨rfl,h.cap_,.inr (.inr (.inl ⟨e,h2⟩))⟩,rfl⟩
  ·rw [k3 e]
   unfold eQ np
   have hm:=lV ok.ins hv
   rw [hk,ab,zM ok.d0 (lW hv.len),ab]
   by_cases hV:v∈V
   ·rw [decide_eq_true (hm.2 hV),if_pos hV]
    exact ⟨t,rfl,h,rfl⟩
   ·rw [decide_eq_false (fun h'=>hV (hm.1 h')),if_neg hV,cond_false,HC ok.d0,ab,h.cap_,List.length_map]
    by_cases hf:cap≤(V.length:Int)
    ·rw [decide_eq_true hf,if_pos hf]
     exact ⟨t,rfl,h,rfl⟩
    ·have h1:=ok.cap1;have h2:=ok.few
     rw [decide_eq_false hf,if_neg hf,cond_false]
     obtain ⟨d',e1,e2⟩:=Lr ok.d0 (lW hv.len) (z5 s v) (fun h'=>hV (hm.1 h')) (by simp;omega)
     rw [e1,ab]
     refine ⟨_,rfl,⟨h.sch,rfl,.inr (.inr (.inr ⟨e,⟨h1,by simp;omega,fun u hu=> ?_,?_,by simpa using e2,ok.d1.add v,ok.d2.add v⟩⟩))⟩,rfl⟩
     ·rcases List.mem_append.1 hu with hu | hu
      ·exact ok.ins u hu
      ·simp at hu;subst hu;exact hv
     ·exact List.nodup_append.2 ⟨ok.nd,by simp,fun a ha b hb=>by simp at hb;subst hb;exact fun e=>hV (e▸ha)⟩
 ·rw [if_neg hc]
  unfold br
  rw [h.sch,kQ s v hl,ab,show (inC s v != 0)=true by simpa using hc,cond_true]
  exact ⟨t,rfl,h,rfl⟩
theorem Ln {s:List Fd} (hs:fy s) {t:St} {cap:Int} {V:List (List Int)} {g:Gf} (h:OkS t s cap V g) (v:List Int) (hl:v.length<100000000):bV t v=some (Rs s V v):=by
 unfold Rs
 by_cases hc:inC s v=0
 ·rw [if_pos hc]
  have hv:=j2.1 hc
  have hin:=in0 hs.fds h.sch hv
  have hk:=vJ hs.fds h.sch hv
  obtain ⟨k0,k1,k2,k3,_⟩:=NG hin
  rcases h.kind with ⟨e,ok,hcap⟩ | ⟨e,ok⟩ | ⟨e,ok⟩ | ⟨e,ok⟩
  ·rw [k0 e]
   unfold eP
   rw [hk,ab,JC hs.fds ok hv,ab,ab]
  ·rw [k1 e]
   unfold eD
   rw [h.sch,Kd hs.fds ok hv,ab,ab]
  ·rw [k2 e]
   unfold ey
   rw [h.sch,JO hs ok hv,ab,ab]
  ·rw [k3 e]
   unfold eR
   rw [hk,ab,zM ok.d0 (lW hv.len),ab,ab]
   congr 2
   rw [decide_eq_decide];exact lV ok.ins hv
 ·rw [if_neg hc]
  unfold bV
  rw [h.sch,kQ s v hl,ab,show (inC s v != 0)=true by simpa using hc,cond_true]
theorem Hg {s:List Fd} {t:St} {cap:Int} {V:List (List Int)} {g:Gf} (h:OkS t s cap V g):cX t=some (V.length:Int):=by
 obtain ⟨k0,k1,k2,k3,_⟩:=Lq (t:=t)
 rcases h.kind with ⟨e,ok,hcap⟩ | ⟨e,ok⟩ | ⟨e,ok⟩ | ⟨e,ok⟩
 ·rw [k0 e]
  unfold fL wb gS
  rw [ab,ab,ok.len]
 ·rw [k1 e]
  unfold fm
  rw [yf ok,ab]
 ·rw [k2 e]
  unfold fp
  rw [GW ok,ab]
 ·rw [k3 e]
  unfold fQ
  rw [HC ok.d0,ab,List.length_map]
theorem Ax {s:List Fd} (hs:Fds s) {t:St} (ht:t.2.1=s) {cap:Int} {V:List (List Int)} {g:Gf} (ok:OkW s cap t.2.2.2.2.2.2.1 V g) {v:List Int} (hv:In s v) (flag:Int):jj t v flag=some (cp V v flag):=by
 unfold jj cp
 simp only [bF]
 rcases nF flag with hb | hb
 ·rw [if_pos hb,show (decide (flag<0)||decide (1<flag))=true by simpa using hb,cond_true]
 ·rw [if_neg (show ¬ (flag<0∨1<flag) by omega),show (decide (flag<0)||decide (1<flag))=false by rcases hb with rfl | rfl <;> rfl,cond_false,vJ hs ht hv,ab,zM ok.d0 (lW hv.len),ab]
  by_cases hm:v∈V
  ·rw [decide_eq_true ((lV ok.ins hv).2 hm),if_pos hm];rfl
  ·rw [decide_eq_false (fun h=>hm ((lV ok.ins hv).1 h)),if_neg hm];rfl
theorem FJ {s:List Fd} (hs:fy s) {t:St} {cap:Int} {V:List (List Int)} {g:Gf} (h:OkS t s cap V g) (v:List Int) (hl:v.length<100000000) (flag:Int):
  ∃ t',dv t v flag=some (t',xu s V v flag)∧OkS t' s cap V (MB s V g v flag)∧t'.1=t.1:=by
 unfold MB xu
 by_cases hc:inC s v=0
 ·rw [if_pos hc]
  have hv:=j2.1 hc
  have hin:=in0 hs.fds h.sch hv
  have hk:=vJ hs.fds h.sch hv
  obtain ⟨k0,k1,k2,k3,_⟩:=MZ flag hin
  rcases h.kind with ⟨e,ok,hcap⟩ | ⟨e,ok⟩ | ⟨e,ok⟩ | ⟨e,ok⟩
  ·rw [k0 e]
   unfold gO
   obtain ⟨f,h1,h2,h3⟩:=JL hs.fds ok hv flag
   rw [hk,ab,h1,ab]
   exact ⟨_,rfl,⟨h.sch,h.cap_,.inl ⟨e,h2,h3.trans hcap⟩⟩,rfl⟩
  ·rw [k1 e]
   unfold fS
   obtain ⟨f,h1,h2⟩:=Jd hs.fds ok hv flag
   rw [h.sch,h1,ab]
   exact ⟨_,rfl,⟨rfl,h.cap_,.inr (.inl ⟨e,h2⟩)⟩,rfl⟩
  ·rw [k2 e]
   unfold fF
   obtain ⟨f,h1,h2⟩:=Ip hs ok hv flag
   rw [h.sch,h1,ab]
   exact ⟨_,rfl,⟨rfl,h.cap_,.inr (.inr (.inl ⟨e,h2⟩))⟩,rfl⟩
  ·rw [k3 e]
   unfold gI
   have h1:=ok.cap1;have h2:=ok.few
   rw [Ax hs.fds h.sch ok hv,ab]
   by_cases hc0:cp V v flag=0
   ·rw [if_pos hc0,hc0,show ((0:Int) != 0)=false from rfl,cond_false]
    have hb:flag=0∨flag=1:=by
     rcases nF flag with hb | hb
     ·unfold cp at hc0;rw [if_pos hb] at hc0;omega
     ·exact hb
    have hm:v∈V:=Decidable.byContradiction fun hm=>by
     unfold cp at hc0;rw [if_neg (show ¬ (flag<0∨1<flag) by omega),if_neg hm] at hc0;omega
    rcases hb with rfl | rfl
    ·obtain ⟨d',b,e1,e2⟩:=ok.d1.set ok.ins (by omega) hv hm
     rw [show (IntKind.i64.wrap (1+0)==0)=false from rfl,show (IntKind.i64.wrap (1+0)==1)=true from rfl,cond_false,cond_true,hk,ab,e1,ab,cond_false,cond_true]
     refine ⟨_,rfl,⟨h.sch,h.cap_,.inr (.inr (.inr ⟨e,⟨h1,h2,ok.ins,ok.nd,ok.d0,?_,?_⟩⟩))⟩,rfl⟩
     ·show FlD s d' V (fun u=>g false u||(false==(0==1)&&u==v))
      simpa using e2
     ·show FlD s _ V (fun u=>g true u||(true==((0:Int)==1)&&u==v))
      simpa using ok.d2
    ·obtain ⟨d',b,e1,e2⟩:=ok.d2.set ok.ins (by omega) hv hm
     rw [show (IntKind.i64.wrap (1+1)==0)=false from rfl,show (IntKind.i64.wrap (1+1)==1)=false from rfl,show (IntKind.i64.wrap (1+1)==2)=true from rfl,cond_false,cond_false,cond_true,hk,ab,e1,ab,cond_false,cond_false,cond_true]
     refine ⟨_,rfl,⟨h.sch,h.cap_,.inr (.inr (.inr ⟨e,⟨h1,h2,ok.ins,ok.nd,ok.d0,?_,?_⟩⟩))⟩,rfl⟩
     ·show FlD s _ V (fun u=>g false u||(false==((1:Int)==1)&&u==v))
      simpa using ok.d1
     ·show FlD s d' V (fun u=>g true u||(true==((1:Int)==1)&&u==v))
      simpa using e2
   ·rw [if_neg hc0,show (cp V v flag != 0)=true by simpa using hc0,cond_true]
    exact ⟨t,rfl,h,rfl⟩
 ·rw [if_neg hc]
  unfold dv
  rw [h.sch,kQ s v hl,ab,show (inC s v != 0)=true by simpa using hc,cond_true,if_neg hc]
  exact ⟨t,rfl,h,rfl⟩
theorem L5 {s:List Fd} (hs:fy s) {t:St} {cap:Int} {V:List (List Int)} {g:Gf} (h:OkS t s cap V g) (v:List Int) (hl:v.length<100000000) (flag:Int):
  dq t v flag=some (Ri s V g v flag,xu s V v flag):=by
 unfold Ri xu
 by_cases hc:inC s v=0
 ·rw [if_pos hc]
  have hv:=j2.1 hc
  have hin:=in0 hs.fds h.sch hv
  have hk:=vJ hs.fds h.sch hv
  obtain ⟨k0,k1,k2,k3,_⟩:=OG flag hin
  rcases h.kind with ⟨e,ok,hcap⟩ | ⟨e,ok⟩ | ⟨e,ok⟩ | ⟨e,ok⟩
  ·rw [k0 e]
   unfold gK
   rw [hk,ab,IU hs.fds ok hv flag,ab];rfl
  ·rw [k1 e]
   unfold fE
   rw [h.sch,Io hs.fds ok hv flag,ab];rfl
  ·rw [k2 e]
   unfold fP
   rw [h.sch,JF hs ok hv flag,ab];rfl
  ·rw [k3 e]
   unfold gB
   rw [Ax hs.fds h.sch ok hv,ab]
   by_cases hc0:cp V v flag=0
   ·rw [if_pos hc0,hc0,show ((0:Int) != 0)=false from rfl,cond_false]
    have hb:flag=0∨flag=1:=by
     rcases nF flag with hb | hb
     ·unfold cp at hc0;rw [if_pos hb] at hc0;omega
     ·exact hb
    rcases hb with rfl | rfl
    ·rw [show (IntKind.i64.wrap (1+0)==0)=false from rfl,show (IntKind.i64.wrap (1+0)==1)=true from rfl,cond_false,cond_true,hk,ab,ok.d1.has ok.ins hv,ab];rfl
    ·rw [show (IntKind.i64.wrap (1+1)==0)=false from rfl,show (IntKind.i64.wrap (1+1)==1)=false from rfl,show (IntKind.i64.wrap (1+1)==2)=true from rfl,cond_false,cond_false,cond_true,hk,ab,ok.d2.has ok.ins hv,ab];rfl
   ·rw [if_neg hc0,show (cp V v flag != 0)=true by simpa using hc0,cond_true]
 ·rw [if_neg hc]
  unfold dq
  rw [h.sch,kQ s v hl,ab,show (inC s v != 0)=true by simpa using hc,cond_true,if_neg hc]
end So
end Go.Proofs.YtgcgmclghbebjaaGreat
namespace Go.Proofs.YtgcgmclghbebjaaGreat
namespace So
theorem EN {l:List Fd} (h:l.length<1000000000):cB l=some l:=by
 unfold cB
 rw [aW (cr (by omega) (by omega))]
abbrev Op:=Int×Int×Int×Int×Int×Int
noncomputable def R5:St:=(0,[],0,((0,[],[]),[]),([],(0,[],[]),[]),([],[]),((0,[],0,0,[]),(0,[],0,0,[]),(0,[],0,0,[])),(0,0,0,([],[],[])))
noncomputable def lx (s:List Fd) (o:Op):St:=(o.1,s,o.2.1,((0,[],[]),[]),([],(0,[],[]),[]),([],[]),((0,[],0,0,[]),(0,[],0,0,[]),(0,[],0,0,[])),(0,0,0,([],[],[])))
noncomputable def thenS (x:Option (St×Int)):Option (St×Int):=x.bind fun r=>bif (r.2 != 0) then some (R5,r.2) else some (r.1,0)
theorem NM {s:List Fd} (hf:FI s) (hs:fy s) (o:Op):
  (o.1=0→dG s o=thenS (dX () (lx s o) o))∧(o.1=1→dG s o=thenS (dF () (lx s o) o))∧(o.1=2→dG s o=thenS (dJ () (lx s o) o))∧
  (o.1=3→dG s o=thenS (dn () (lx s o) o))∧(o.1=4→dG s o=thenS (im () (lx s o) o)):=by
 have hl:=hs.few
 have k: ∀ n:Nat,(decide (((5:Nat):Int)≤o.1))=false→decide (o.1<0)=false→(aC).bind (fun r54=>idx r54 o.1)=some n→dG s o=
   (bif (Nat.beq n 133) then thenS (dX () (lx s o) o) else bif (Nat.beq n 134) then thenS (dF () (lx s o) o) else bif (Nat.beq n 135) then thenS (dJ () (lx s o) o) else bif (Nat.beq n 136) then thenS (dn () (lx s o) o) else bif (Nat.beq n 137) then thenS (im () (lx s o) o) else none):=by
  intro n h5 h0 hn
  unfold dG
  obtain ⟨l,hk,hi⟩:=dQ hn
  have hkl:l.length=5:=by
   unfold aC at hk;cases hk;rfl
  simp only [bF]
  rw [Nw hf,ab,Ce.2 hs,h0,hk,Bool.not_true,Bool.false_or,Bool.not_false,cg,ab,hkl,h5,Bool.false_or,cond_false,ab,hi,ab,EN (by omega),ab]
  rfl
 refine ⟨fun h=> ?_,fun h=> ?_,fun h=> ?_,fun h=> ?_,fun h=> ?_⟩
 ·rw [k 133 (by rw [h];rfl) (by rw [h];rfl) (by unfold aC;rw [h];rfl)];rfl
 ·rw [k 134 (by rw [h];rfl) (by rw [h];rfl) (by unfold aC;rw [h];rfl)];rfl
 ·rw [k 135 (by rw [h];rfl) (by rw [h];rfl) (by unfold aC;rw [h];rfl)];rfl
 ·rw [k 136 (by rw [h];rfl) (by rw [h];rfl) (by unfold aC;rw [h];rfl)];rfl
 ·rw [k 137 (by rw [h];rfl) (by rw [h];rfl) (by unfold aC;rw [h];rfl)];rfl
theorem GB {s:List Fd} (hs:Fds s) (t:St) (ht:t.2.1=s) (o:Op) (h0:0≤o.2.1) (h1:o.2.1≤1048576):
  dn () t o=some ((t.1,t.2.1,t.2.2.1,t.2.2.2.1,t.2.2.2.2.1,t.2.2.2.2.2.1,(((di s:Int),[],-1,0,[]),((di s:Int),[],-1,0,[]),((di s:Int),[],-1,0,[])),t.2.2.2.2.2.2.2),0):=by
 unfold dn
 simp only [bF]
 rw [decide_eq_false (show ¬ o.2.1<0 by omega),decide_eq_false (show ¬ 1048576<o.2.1 by omega),Bool.or_self,cond_false]
 have hB:iA t.2.1=some (di s:Int):=by rw [ht];exact Du hs
 have hN:=Df.QR (HR hs)
 obtain ⟨m,hm⟩: ∃ m,az=m+4:=⟨2^64-4,rfl⟩
 rw [hm,aK]
 generalize hF:dS () t=F
 have hs0: ∀ k a1 a2 a3 a4 a5 b1 b2 b3 b4 b5 c1 c2 c3 c4 c5,F k (a1,a2,a3,a4,a5,b1,b2,b3,b4,b5,c1,c2,c3,c4,c5,0)=k ((di s:Int),[],-1,0,[],b1,b2,b3,b4,b5,c1,c2,c3,c4,c5,1):=by
  intros;rw [← hF];unfold dS;dsimp only;rw [hB,ab,hN,ab];rfl
 have hs1: ∀ k a1 a2 a3 a4 a5 b1 b2 b3 b4 b5 c1 c2 c3 c4 c5,F k (a1,a2,a3,a4,a5,b1,b2,b3,b4,b5,c1,c2,c3,c4,c5,1)=k (a1,a2,a3,a4,a5,(di s:Int),[],-1,0,[],c1,c2,c3,c4,c5,2):=by
  intros;rw [← hF];unfold dS;dsimp only;rw [hB,ab,hN,ab];rfl
 have hs2: ∀ k a1 a2 a3 a4 a5 b1 b2 b3 b4 b5 c1 c2 c3 c4 c5,F k (a1,a2,a3,a4,a5,b1,b2,b3,b4,b5,c1,c2,c3,c4,c5,2)=k (a1,a2,a3,a4,a5,b1,b2,b3,b4,b5,(di s:Int),[],-1,0,[],3):=by
  intros;rw [← hF];unfold dS;dsimp only;rw [hB,ab,hN,ab];rfl
 rw [hs0,aK,hs1,aK,hs2,aK,← hF]
 rfl
theorem Ql {s:List Fd} (hf:FI s) (hs:fy s) (o:Op) (hk:0≤o.1∧o.1<4):
  ((o.2.1<0∨1048576<o.2.1)→dG s o=some (R5,1))∧(0≤o.2.1→o.2.1≤1048576→ ∃ t,dG s o=some (t,0)∧OkS t s o.2.1 [] (fun _ _=>false)∧t.1=o.1):=by
 obtain ⟨k0,k1,k2,k3,_⟩:=NM hf hs o
 have hko:o.1=0∨o.1=1∨o.1=2∨o.1=3:=by omega
 refine ⟨fun hb=> ?_,fun h0 h1=> ?_⟩
 ·rcases hko with h | h | h | h
  ·rw [k0 h];unfold dX;rw [zO,if_pos hb];rfl
  ·rw [k1 h];unfold dF
   rw [show (lx s o).2.1=s from rfl,zX hs.fds,if_pos hb];rfl
  ·rw [k2 h];unfold dJ
   rw [show (lx s o).2.1=s from rfl,zA hs.fds,if_pos hb];rfl
  ·rw [k3 h];unfold dn
   simp only [bF]
   rw [show (decide (o.2.1<0)||decide (1048576<o.2.1))=true by simpa using hb];rfl
 ·have hb: ¬ (o.2.1<0∨1048576<o.2.1):=by omega
  rcases hko with h | h | h | h
  ·rw [k0 h];unfold dX;rw [zO,if_neg hb]
   exact ⟨_,rfl,⟨rfl,rfl,.inl ⟨h,JX s h0 h1,rfl⟩⟩,rfl⟩
  ·rw [k1 h];unfold dF
   rw [show (lx s o).2.1=s from rfl,zX hs.fds,if_neg hb]
   exact ⟨_,rfl,⟨rfl,rfl,.inr (.inl ⟨h,IM s h0 h1⟩)⟩,rfl⟩
  ·rw [k2 h];unfold dJ
   rw [show (lx s o).2.1=s from rfl,zA hs.fds,if_neg hb]
   exact ⟨_,rfl,⟨rfl,rfl,.inr (.inr (.inl ⟨h,Iv s h0 h1⟩))⟩,rfl⟩
  ·rw [k3 h,GB hs.fds (lx s o) rfl o h0 h1]
   have hw:=HR hs.fds
   exact ⟨_,rfl,⟨rfl,rfl,.inr (.inr (.inr ⟨h,⟨h1,h0,fun v hv=>by simp at hv,List.nodup_nil,EO hw,⟨[],EO hw,List.nodup_nil,fun v=>by simp,fun v hv=>by simp at hv⟩,⟨[],EO hw,List.nodup_nil,fun v=>by simp,fun v hv=>by simp at hv⟩⟩⟩))⟩,rfl⟩
/-! as the document has it -/
theorem LH {s:List Fd} (hf:FI s):gb s=some (pQ s):=by
 unfold gb pQ
 simp only [bF]
 by_cases h:1≤s.length∧s.length≤17
 ·rw [decide_eq_false (show ¬ (s.length:Int)<1 by omega),decide_eq_false (show ¬ (17:Int)<s.length by omega),Bool.or_self,cond_false,decide_eq_true h.1,decide_eq_true h.2,Bool.true_and,Bool.true_and]
  have step: ∀ i (hi:i<s.length) (k:Int→Option Bool),dA s k (i:Int)=bif kN s[i] then k ((i+1:Nat):Int) else some false:=by
   intro i hi k
   have hI:=hf s[i] (List.getElem_mem hi)
   have hq:=Kr hI.1 hI.2
   unfold dA
   simp only [bF]
   rw [gi hi,cond_true,bZ hi,ab,ab,nx (show i<9223372036854775807 by omega)]
   unfold kN
   by_cases h1:s[i].2<s[i].1
   ·rw [decide_eq_true h1,Bool.not_true,dk]
    simp only [Bool.true_or,Bool.not_true,dk,cond_true]
    rw [decide_eq_false (show ¬ s[i].1≤s[i].2 by omega),Bool.and_false,Bool.false_and,cond_false]
   ·rw [decide_eq_false h1,Bool.not_false,cg,ab,Bool.false_or]
    by_cases h2:s[i].1< -1073741824
    ·rw [decide_eq_true h2,Bool.not_true,dk]
     simp only [Bool.true_or,Bool.not_true,dk,cond_true]
     rw [decide_eq_false (show ¬ -1073741824≤s[i].1 by omega)]
     simp
    ·rw [decide_eq_false h2,Bool.not_false,cg,ab,Bool.false_or]
     by_cases h3:1073741824<s[i].2
     ·rw [decide_eq_true h3,Bool.not_true,dk,dk,Bool.true_or,cond_true,decide_eq_false (show ¬ s[i].2≤1073741824 by omega)]
      simp
     ·rw [decide_eq_false h3,Bool.not_false,cg,ab,cg,ab,Bool.false_or,w64 (by omega),decide_eq_true (show -1073741824≤s[i].1 by omega),decide_eq_true (show s[i].2≤1073741824 by omega),decide_eq_true (show s[i].1≤s[i].2 by omega)]
      by_cases h4:65535<s[i].2-s[i].1
      ·rw [decide_eq_true h4,decide_eq_false (show ¬ s[i].2-s[i].1≤65535 by omega)];rfl
      ·rw [decide_eq_false h4,decide_eq_true (show s[i].2-s[i].1≤65535 by omega)];rfl
  refine (findF (F:=dA s) (fun i=>(i:Int)) (fun i=>if h:i<s.length then !kN s[i] else false) (r:=fun i=>if i<s.length then some false else some true) s.length (s:=0) rfl (by omega) (fun i hi hp k=> ?_) (fun i hi hp k=> ?_) (fun k=> ?_)).elim (fun ⟨i,h1,h2,h3,h4⟩=> ?_) (fun ⟨h1,h4⟩=> ?_)
  ·rw [dif_pos hi] at hp
   rw [step i hi,show kN s[i]=true by simpa using hp,cond_true]
  ·rw [dif_pos hi] at hp
   rw [step i hi,show kN s[i]=false by simpa using hp,cond_false,if_pos hi]
  ·unfold dA
   rw [iS (Nat.lt_irrefl _),cond_false,if_neg (Nat.lt_irrefl _)]
  ·rw [h4,if_pos h1]
   rw [dif_pos h1] at h2
   congr 1
   rw [eq_comm,← Bool.not_eq_true]
   intro h
   have:=List.all_eq_true.1 h _ (List.getElem_mem h1)
   rw [this] at h2;cases h2
  ·rw [h4,if_neg (Nat.lt_irrefl _)]
   congr 1
   rw [eq_comm,List.all_eq_true]
   intro x hx
   obtain ⟨i,hi,e⟩:=List.getElem_of_mem hx
   have:=h1 i hi
   rw [dif_pos hi,e] at this
   simpa using this
 ·have e:(decide ((s.length:Int)<1)||decide ((17:Int)<(s.length:Int)))=true:=by simp;omega
  have e':(decide (1≤s.length)&&decide (s.length≤17))=false:=by
   rw [← Bool.not_eq_true,Bool.and_eq_true,decide_eq_true_eq,decide_eq_true_eq];omega
  rw [e,e',cond_true,Bool.false_and]
theorem QG (a b:List Int) (hn:a.length<100000000):kD a b=some (a==b):=by
 unfold kD
 by_cases hl:a.length=b.length
 ·rw [show ((a.length:Int) != (b.length:Int))=false by simp;omega,cond_false]
  have step: ∀ i (hi:i<a.length) (k:Int→Option Bool),dR a b k (i:Int)=bif (a[i] != b[i]'(by omega)) then some false else k ((i+1:Nat):Int):=by
   intro i hi k
   unfold dR
   rw [gi hi,cond_true,bZ hi,bZ (show i<b.length by omega),ab,ab,nx (show i<9223372036854775807 by omega)]
  refine (findF (F:=dR a b) (fun i=>(i:Int)) (fun i=>if h:i<a.length then a[i] != b[i]'(by omega) else false) (r:=fun i=>if i<a.length then some false else some true) a.length (s:=0) rfl (by omega) (fun i hi hp k=> ?_) (fun i hi hp k=> ?_) (fun k=> ?_)).elim (fun ⟨i,h1,h2,h3,h4⟩=> ?_) (fun ⟨h1,h4⟩=> ?_)
  ·rw [dif_pos hi] at hp
   rw [step i hi,hp,cond_false]
  ·rw [dif_pos hi] at hp
   rw [step i hi,hp,cond_true,if_pos hi]
  ·unfold dR
   rw [iS (Nat.lt_irrefl _),cond_false,if_neg (Nat.lt_irrefl _)]
  ·rw [h4,if_pos h1]
   rw [dif_pos h1] at h2
   congr 1
   rw [eq_comm,beq_eq_false_iff_ne]
   rintro rfl
   simp at h2
  ·rw [h4,if_neg (Nat.lt_irrefl _)]
   congr 1
   rw [eq_comm,beq_iff_eq]
   refine List.ext_getElem hl fun i h2 h3=> ?_
   have:=h1 i h2
   rw [dif_pos h2] at this
   simpa using this
 ·rw [show ((a.length:Int) != (b.length:Int))=true by simp;omega,cond_true]
  congr 1
  rw [eq_comm,beq_eq_false_iff_ne]
  rintro rfl
  exact hl rfl
end So
end Go.Proofs.YtgcgmclghbebjaaGreat
namespace Go.Proofs.YtgcgmclghbebjaaGreat
namespace So
abbrev Act:=Int×List Int×Int
noncomputable def AZ (l:List Act) (n:Nat):Bool:=decide (l.length≤n)&&l.all fun e=>decide (e.2.1.length≤40)
theorem QO (l:List Act) (n:Nat) (hn:n<1000000):fj l (n:Int)=some (AZ l n):=by
 unfold fj AZ
 by_cases h:n<l.length
 ·rw [gi h,cond_true,decide_eq_false (by omega),Bool.false_and]
 ·rw [iS h,cond_false,decide_eq_true (by omega),Bool.true_and]
  have step: ∀ i (hi:i<l.length) (k:Int→Option Bool),dT l k (i:Int)=bif decide (l[i].2.1.length≤40) then k ((i+1:Nat):Int) else some false:=by
   intro i hi k
   unfold dT
   rw [gi hi,cond_true,bZ hi,ab,nx (by omega)]
   by_cases h40:l[i].2.1.length≤40
   ·rw [decide_eq_true h40,decide_eq_false (show ¬ (40:Int)<(l[i].2.1.length:Int) by omega)];rfl
   ·rw [decide_eq_false h40,decide_eq_true (show (40:Int)<(l[i].2.1.length:Int) by omega)];rfl
  refine (findF (F:=dT l) (fun i=>(i:Int)) (fun i=>if h:i<l.length then !decide (l[i].2.1.length≤40) else false) (r:=fun i=>if i<l.length then some false else some true) l.length (s:=0) rfl (by omega) (fun i hi hp k=> ?_) (fun i hi hp k=> ?_) (fun k=> ?_)).elim (fun ⟨i,h1,h2,h3,h4⟩=> ?_) (fun ⟨h1,h4⟩=> ?_)
  ·rw [dif_pos hi,Bool.not_eq_false'] at hp
   rw [step i hi,hp,cond_true]
  ·rw [dif_pos hi,Bool.not_eq_true'] at hp
   rw [step i hi,hp,cond_false,if_pos hi]
  ·unfold dT
   rw [iS (Nat.lt_irrefl _),cond_false,if_neg (Nat.lt_irrefl _)]
  ·rw [h4,if_pos h1]
   rw [dif_pos h1,Bool.not_eq_true'] at h2
   congr 1
   rw [eq_comm,← Bool.not_eq_true]
   intro h
   have:=List.all_eq_true.1 h _ (List.getElem_mem h1)
   rw [this] at h2;cases h2
  ·rw [h4,if_neg (Nat.lt_irrefl _)]
   congr 1
   rw [eq_comm,List.all_eq_true]
   intro x hx
   obtain ⟨i,hi,e⟩:=List.getElem_of_mem hx
   have:=h1 i hi
   rw [dif_pos hi,e,Bool.not_eq_false'] at this
   exact this
theorem Qk {l:List Act} {n:Nat}:AZ l n=true↔l.length≤n∧ ∀ e∈l,e.2.1.length≤40:=by
 unfold AZ
 rw [Bool.and_eq_true,decide_eq_true_eq,List.all_eq_true]
 simp only [decide_eq_true_eq]
end So
end Go.Proofs.YtgcgmclghbebjaaGreat
namespace Go.Proofs.YtgcgmclghbebjaaGreat
namespace So
theorem Jm:jq=some true:=by
 show _=_
 kernel_rfl
end So
end Go.Proofs.YtgcgmclghbebjaaGreat
namespace Go.Proofs.YtgcgmclghbebjaaGreat
namespace So
structure FB (l:List St) (s:List Fd) (cap:Int) (V:List (List Int)) (g:Gf):Prop where
 len:l.length=4
 ok: ∀ (k:Nat) t,l[k]? =some t→OkS t s cap V g
theorem M4 {s:List Fd} (hs:fy s) {cap:Int} {V:List (List Int)} {g:Gf} {l:List St} (h:FB l s cap V g) (e:Act) (he:e.2.1.length≤40) (ls:List Act) (r:Bool) (i:Int) (again:_→Option Bool):
  aq (dC s ls r l i again e) az 0=aq (bD s r i again e) az (l,0):=by
 refine ld (fun k=>(k:Int)) 4 rfl (by omega) (fun k hk K=> ?_) (fun K=> ?_)
 ·have hkl:k<l.length:=by rw [h.len];exact hk
  have h0l:0<l.length:=by rw [h.len];omega
  have gk:=List.getElem?_eq_getElem hkl
  have g0:=List.getElem?_eq_getElem h0l
  have ok:=h.ok _ _ gk
  have o0:=h.ok _ _ g0
  generalize l[k]=t at gk ok
  generalize l[0]=t0 at g0 o0
  obtain ⟨a,a1,a2,_⟩:=FG hs ok e.2.1 (by omega)
  obtain ⟨b,b1,b2,_⟩:=FJ hs a2 e.2.1 (by omega) e.2.2
  obtain ⟨c,c1,c2,_⟩:=FG hs o0 e.2.1 (by omega)
  obtain ⟨d,d1,d2,_⟩:=FJ hs c2 e.2.1 (by omega) e.2.2
  unfold dC
  simp only [bF]
  rw [decide_eq_true (show (k:Int)<4 by omega),cond_true,cP gk,ab,a1,ab]
  dsimp only
  rw [b1,ab]
  dsimp only
  rw [L5 hs b2 e.2.1 (by omega) 0,ab,Ln hs b2 e.2.1 (by omega),ab,o6 g0,ab,c1,ab]
  dsimp only
  rw [d1,ab]
  dsimp only
  rw [L5 hs d2 e.2.1 (by omega) 0,ab,Ln hs d2 e.2.1 (by omega),ab]
  simp only [bne_self_eq_false,Bool.or_self,Bool.not_false,cg]
  rw [Hg b2,ab,Hg d2,ab]
  simp only [bne_self_eq_false]
  rw [nx (by omega)]
  rfl
 ·unfold dC
  rw [decide_eq_false (show ¬ ((4:Nat):Int)<4 by omega),cond_false]
noncomputable def xk (s:List Fd) (cap:Int) (V:List (List Int)) (g:Gf) (e:Act):Gf:=if Int.tmod e.1 2=0 then MB s (rM s cap V e.2.1).1 g e.2.1 e.2.2 else g
theorem H2 {s:List Fd} (hs:fy s) {cap:Int} {V:List (List Int)} {g:Gf} (e:Act) (he:e.2.1.length≤40) (r:Bool) (i:Int) (again:_→Option Bool): ∀ (d k:Nat) (l:List St) (M:Nat),k+d=4→d<M→l.length=4→
  (∀ (j:Nat) t,j<k→l[j]? =some t→OkS t s cap (rM s cap V e.2.1).1 (xk s cap V g e))→(∀ (j:Nat) t,k≤j→l[j]? =some t→OkS t s cap V g)→
  ∃ l',aq (bD s r i again e) M (l,(k:Int))=again (l',IntKind.i64.wrap (i+1))∧FB l' s cap (rM s cap V e.2.1).1 (xk s cap V g e)
 | 0,k,l,M,hk,hM,hl,h1,_=>by
  obtain ⟨m,rfl⟩: ∃ m,M=m+1:=⟨M-1,by omega⟩
  rw [aK]
  refine ⟨l,?_,hl,fun j t hj=>h1 j t (by have:=j7 hj;omega) hj⟩
  unfold bD
  dsimp only
  rw [decide_eq_false (show ¬ (k:Int)<4 by omega),cond_false]
 | d+1,k,l,M,hk,hM,hl,h1,h2=>by
  obtain ⟨m,rfl⟩: ∃ m,M=m+1:=⟨M-1,by omega⟩
  rw [aK]
  have hkl:k<l.length:=by omega
  have gk:=List.getElem?_eq_getElem hkl
  have ok:=h2 k _ (Nat.le_refl _) gk
  generalize l[k]=t at gk ok
  obtain ⟨a,a1,a2,_⟩:=FG hs ok e.2.1 (by omega)
  obtain ⟨b,b1,b2,_⟩:=FJ hs a2 e.2.1 (by omega) e.2.2
  have key: ∀ x,OkS x s cap (rM s cap V e.2.1).1 (xk s cap V g e)→ ∃ l',aq (bD s r i again e) m (l.set k x,((k+1:Nat):Int))=again (l',IntKind.i64.wrap (i+1))∧FB l' s cap (rM s cap V e.2.1).1 (xk s cap V g e):=by
   intro x hx
   refine H2 hs e he r i again d (k+1) (l.set k x) m (by omega) (by omega) (by rw [List.length_set];exact hl) (fun j t hj ht=> ?_) (fun j t hj ht=> ?_)
   ·rw [dh hkl] at ht
    split at ht
    ·rw [← Option.some.inj ht];exact hx
    ·exact h1 j t (by omega) ht
   ·rw [dh hkl,if_neg (by omega)] at ht
    exact h2 j t (by omega) ht
  generalize hF:aq (bD s r i again e) m=K at key
  unfold bD
  dsimp only
  rw [decide_eq_true (show (k:Int)<4 by omega),cond_true,cP gk,ab,a1,ab]
  dsimp only
  by_cases hm:Int.tmod e.1 2=0
  ·rw [show (Int.tmod e.1 2==0)=true by simpa using hm,cond_true,b1,ab,ab,Int.toNat_natCast,nx (by omega)]
   exact key b (by unfold xk;rw [if_pos hm];exact b2)
  ·rw [show (Int.tmod e.1 2==0)=false by simpa using hm,cond_false,ab,Int.toNat_natCast,nx (by omega)]
   exact key a (by unfold xk;rw [if_neg hm];exact a2)
theorem oz {s:List Fd} (hs:fy s) {cap:Int} {ls:List Act} (hl:ls.length≤40) (hf: ∀ e∈ls,e.2.1.length≤40): ∀ (d i:Nat) (l:List St) (V:List (List Int)) (g:Gf) (M:Nat),i+d=ls.length→d<M→FB l s cap V g→
  aq (bp s ls true) M (l,(i:Int))=some true
 | 0,i,l,V,g,M,hi,hM,h=>by
  obtain ⟨m,rfl⟩: ∃ m,M=m+1:=⟨M-1,by omega⟩
  rw [aK]
  generalize aq (bp s ls true) m=K
  unfold bp
  dsimp only
  rw [iS (by omega),cond_false]
 | d+1,i,l,V,g,M,hi,hM,h=>by
  obtain ⟨m,rfl⟩: ∃ m,M=m+1:=⟨M-1,by omega⟩
  have hil:i<ls.length:=by omega
  have he:=hf _ (List.getElem_mem hil)
  rw [aK]
  obtain ⟨l',h1,h2⟩:=H2 hs ls[i] he true (i:Int) (aq (bp s ls true) m) 4 0 l az (by omega) (by show _<2^64;omega) h.len (fun j t hj=>by omega) (fun j t _ ht=>h.ok j t ht)
  have ih:=oz hs hl hf d (i+1) l' _ _ m (by omega) (by omega) h2
  rw [show ((0:Nat):Int)=0 from rfl] at h1
  generalize aq (bp s ls true) m=K at h1 ih ⊢
  unfold bp
  dsimp only
  rw [gi hil,cond_true,bZ hil,ab,M4 hs h _ he,h1,nx (by omega),ih]
theorem Ge {s:List Fd} (hF:FI s) (hs:fy s) {most:Int} (hm:0≤Int.tmod (IntKind.i64.wrap most) 31∧Int.tmod (IntKind.i64.wrap most) 31≤1000) (ls:List Act) (r:Bool): ∀ (d k:Nat) (l:List St) (M:Nat),k+d=4→d<M→l.length=k→(∀ (j:Nat) t,l[j]? =some t→OkS t s (Int.tmod (IntKind.i64.wrap most) 31) [] (fun _ _=>false))→
  ∃ l',aq (bT s most ls r) M (l,(k:Int))=aq (bp s ls r) az (l',0)∧FB l' s (Int.tmod (IntKind.i64.wrap most) 31) [] (fun _ _=>false)
 | 0,k,l,M,hk,hM,hl,h1=>by
  obtain ⟨m,rfl⟩: ∃ m,M=m+1:=⟨M-1,by omega⟩
  rw [aK]
  refine ⟨l,?_,by omega,h1⟩
  generalize aq (bT s most ls r) m=K
  unfold bT
  dsimp only
  rw [decide_eq_false (show ¬ (k:Int)<4 by omega),cond_false]
 | d+1,k,l,M,hk,hM,hl,h1=>by
  obtain ⟨m,rfl⟩: ∃ m,M=m+1:=⟨M-1,by omega⟩
  rw [aK]
  obtain ⟨t,n1,n2,_⟩:=(Ql hF hs ((k:Int),Int.tmod (IntKind.i64.wrap most) 31,0,0,0,0) (by dsimp only;omega)).2 (by dsimp only;omega) (by dsimp only;omega)
  obtain ⟨l',e1,e2⟩:=Ge hF hs hm ls r d (k+1) (l++[t]) m (by omega) (by omega) (by simp;omega) (fun j x hj=>by
   rcases Nat.lt_or_ge j l.length with h | h
   ·rw [List.getElem?_append_left h] at hj;exact h1 j x hj
   ·rw [List.getElem?_append_right h] at hj
    have:=j7 hj
    simp only [List.length_singleton] at this
    have e:j-l.length=0:=by omega
    rw [e] at hj
    rw [← Option.some.inj hj]
    exact n2)
  refine ⟨l',?_,e2⟩
  rw [← e1]
  generalize aq (bT s most ls r) m=K
  unfold bT
  dsimp only
  rw [decide_eq_true (show (k:Int)<4 by omega),cond_true,n1,ab]
  dsimp only
  rw [show ((0:Int) != 0)=false from rfl,cond_false,aW (cr (by simp only [List.length_singleton];omega) (by simp only [List.length_singleton];omega)),nx (by omega)]
theorem KR (s:List Fd) (most:Int) (l:List Act) (hf:FI s) (hm:0≤most∧most≤255):ew s most l=some true:=by
 unfold ew
 rw [Jm,ab,LH hf,ab]
 simp only [bF]
 cases hr:pQ s
 ·rfl
 ·have hs:=Ce.1 hr
  rw [Bool.not_true,Bool.not_false,cg,show fj l 40=some (AZ l 40) from QO l 40 (by omega),ab,Bool.false_or]
  cases hw:AZ l 40
  ·rfl
  ·obtain ⟨h1,h2⟩:=Qk.1 hw
   have e2:IntKind.i64.wrap most=most:=w64 (by omega)
   have t2:Int.tmod most 31=most%31:=Int.tmod_eq_emod_of_nonneg hm.1
   obtain ⟨l',e1,e3⟩:=Ge hf hs (most:=most) (by rw [e2,t2];omega) l true 4 0 [] az (by omega) (by show _<2^64;omega) rfl (fun j t h=>by simp at h)
   have:=oz hs h1 h2 l.length 0 l' [] (fun _ _=>false) az (by omega) (by show _<2^64;omega) e3
   rw [show ((0:Nat):Int)=0 from rfl] at this e1
   rw [Bool.not_true,cond_false,e1,this]
end So
end Go.Proofs.YtgcgmclghbebjaaGreat
namespace Go.Proofs.YtgcgmclghbebjaaGreat
namespace So
noncomputable def un (t:St) (x:List (List Int)) (i:Int):=(t.1,t.2.1,t.2.2.1,t.2.2.2.1.1.1,t.2.2.2.1.1.2.1,t.2.2.2.1.1.2.2,t.2.2.2.1.2,t.2.2.2.2.1.1,t.2.2.2.2.1.2.1.1,t.2.2.2.2.1.2.1.2.1,t.2.2.2.2.1.2.1.2.2,t.2.2.2.2.1.2.2,t.2.2.2.2.2.1.1,t.2.2.2.2.2.1.2,t.2.2.2.2.2.2.1.1.1,t.2.2.2.2.2.2.1.1.2.1,t.2.2.2.2.2.2.1.1.2.2.1,t.2.2.2.2.2.2.1.1.2.2.2.1,t.2.2.2.2.2.2.1.1.2.2.2.2,t.2.2.2.2.2.2.1.2.1.1,t.2.2.2.2.2.2.1.2.1.2.1,t.2.2.2.2.2.2.1.2.1.2.2.1,t.2.2.2.2.2.2.1.2.1.2.2.2.1,t.2.2.2.2.2.2.1.2.1.2.2.2.2,t.2.2.2.2.2.2.1.2.2.1,t.2.2.2.2.2.2.1.2.2.2.1,t.2.2.2.2.2.2.1.2.2.2.2.1,t.2.2.2.2.2.2.1.2.2.2.2.2.1,t.2.2.2.2.2.2.1.2.2.2.2.2.2,t.2.2.2.2.2.2.2.1,t.2.2.2.2.2.2.2.2.1,t.2.2.2.2.2.2.2.2.2.1,t.2.2.2.2.2.2.2.2.2.2.1,t.2.2.2.2.2.2.2.2.2.2.2.1,t.2.2.2.2.2.2.2.2.2.2.2.2,x,i)
abbrev FIn:=List Fd×Int×Int×List (List Int)
theorem yy (w:FIn) (t:St) (V:List (List Int)) (i:Nat) (v:List Int) (hv:w.2.2.2[i]? =some v) (hV:V.length<1000000) (hl: ∀ u∈V,u.length<100000000) {r:Option Bool} {again:_→Option Bool}
  (h: ∀ k,(fun ⟨c45,c46,c48,c49,c50,c52,c54,c56,c58,c59,c61,c63,c65,c67,c69,c70,c72,c73,c74,c76,c77,c79,c80,c81,c83,c84,c86,c87,c88,c90,c91,c92,c93,c95,c97,in99,i102⟩=>eZ w c45 c46 c48 c49 c50 c52 c54 c56 c58 c59 c61 c63 c65 c67 c69 c70 c72 c73 c74 c76 c77 c79 c80 c81 c83 c84 c86 c87 c88 c90 c91 c92 c93 c95 c97 in99 i102 again k (decide (v∈V),(V.length:Int))) (un t V (i:Int))=r):
  (fun ⟨c45,c46,c48,c49,c50,c52,c54,c56,c58,c59,c61,c63,c65,c67,c69,c70,c72,c73,c74,c76,c77,c79,c80,c81,c83,c84,c86,c87,c88,c90,c91,c92,c93,c95,c97,in99,i102⟩=>aq (eZ w c45 c46 c48 c49 c50 c52 c54 c56 c58 c59 c61 c63 c65 c67 c69 c70 c72 c73 c74 c76 c77 c79 c80 c81 c83 c84 c86 c87 c88 c90 c91 c92 c93 c95 c97 in99 i102 again) az (false,0)) (un t V (i:Int))=r:=by
 refine ld (fun j=>(decide (v∈V.take j),(j:Int))) V.length (by simp) (by omega) (fun j hj k=> ?_) (fun k=>by rw [List.take_length];exact h k)
 unfold eZ
 dsimp only [un]
 rw [gi hj,cond_true,nx (show j<9223372036854775807 by omega),List.take_add_one,List.getElem?_eq_getElem hj]
 simp only [bF]
 by_cases hm:v∈V.take j
 ·rw [decide_eq_true hm,Bool.not_true,dk,dk,dk,Bool.true_or,decide_eq_true (List.mem_append_left _ hm)]
 ·rw [decide_eq_false hm,Bool.not_false,cg,bZ hj,ab,cg,cP hv,ab,cg,QG _ _ (hl _ (List.getElem_mem hj)),ab,Bool.false_or]
  congr 2
  rw [Bool.eq_iff_iff,beq_iff_eq,decide_eq_true_eq,List.mem_append]
  simp only [Option.toList_some,List.mem_singleton]
  exact ⟨fun e=> .inr e.symm,fun e=>(e.resolve_left hm).symm⟩
end So
end Go.Proofs.YtgcgmclghbebjaaGreat
namespace Go.Proofs.YtgcgmclghbebjaaGreat
open Go.Lib Go.ChangeAt Go.ChangeShapes Go.WideShapes Go.RowKit
theorem BL {P:Program} {w:World}: ∀ (l:List (String×DataW Unit)) (ps:List MemPlace),DataW.LaidVars P w l ps→ ∀ (i:Nat) (n:String) (d:DataW Unit),l[i]? =some (n,d)→
  ∃ g t cs fuel p,P.globalNamed n=some g∧(P.globals[g]?).map (·.type)=some t∧w.var? P n=some cs∧DataW.trod (fun _=>()) P w 0 (fun _=>true) false fuel t cs.toList=some (d,p)
 | [],_,_,i,n,d,h=>by simp at h
 | (n0,d0)::l,ps,h,i,n,d,hi=>by
  obtain ⟨g,t,cs,fuel,p,q,h1,h2,h3,h4,h5,_⟩:=h
  cases i with
  | zero=>
   simp only [List.getElem?_cons_zero,Option.some.injEq,Prod.mk.injEq] at hi
   obtain ⟨rfl,rfl⟩:=hi
   exact ⟨g,t,cs,fuel,p,h1,h2,h3,h4⟩
  | succ i=>exact BL l q h5 i n d (by simpa using hi)
theorem C7 {H:Type} {enc:TypeId×Value→H} {P:Program} {w:World} {base:Nat} {sp:Nat→Bool} {held:Bool} {fuel:Nat} {t e:TypeId} {n:Nat} {cs:List Value} {zs:List Str} {p:List MemPlace}
  (ht:P.underlying t=some (.array n e)) (he:P.underlying e=some .string) (hce:P.cellsOf e=1) (hct:P.cellsOf t=n)
  (h:DataW.trod enc P w base sp held fuel t cs=some (.agg (zs.map fun z=> .lit (.string z)),p)):cs=zs.map S:=by
 cases fuel with
 | zero=>simp [DataW.trod] at h
 | succ fuel=>
  simp only [DataW.trod,ht,hce,hct,Nat.mul_one] at h
  split at h
  ·rename_i hl
   obtain ⟨xs,hm,hx⟩:=Option.map_eq_some_iff.1 h
   have hxs:xs.map (·.1)=zs.map fun z=>(DataW.lit (.string z):DataW H):=by
    have:=congrArg Prod.fst hx
    simpa using this
   have hxl:xs.length=n:=by simpa using mapM_length hm
   have hzl:zs.length=n:=by
    have:=congrArg List.length hxs
    simp at this
    omega
   apply List.ext_getElem?
   intro i
   by_cases hi:i<n
   ·obtain ⟨b,hb,hf⟩:=mapM_at hm i i (by simp [hi])
    obtain ⟨z,hc,rfl,_⟩:=DataW.trod_string he hf
    have h1:cs[i]? =some (.string z):=by
     have:=congrArg (·[0]?) hc
     simpa [List.getElem?_take,List.getElem?_drop] using this
    have h2:(xs.map (·.1))[i]? =some (DataW.lit (.string z.data.toList):DataW H):=by simp [hb]
    rw [hxs] at h2
    simp only [List.getElem?_map,Option.map_eq_some_iff,DataW.lit.injEq,Lit.string.injEq] at h2
    obtain ⟨z',hz',hz2⟩:=h2
    subst hz2
    simp [h1,hz',S]
   ·rw [List.getElem?_eq_none (by omega),List.getElem?_eq_none (by simp;omega)]
  ·cases h
theorem laidMet_of {P:Program} {laid:List (String×DataW Unit)} {w:World} (hf:(laid.filter fun x=>x.2.handleName?.isSome)=[]) (h:laidMetH P laid w):laidMet P laid w:=by
 unfold laidMetH at h
 rw [hf] at h
 exact h
theorem gl_strs {P:Program} {laid:List (String×DataW Unit)} {w:World} {Γ:Ctx} (h:laidMet P laid w) (i:Nat) {n:String} {zs:List Str} {g:Nat} {t e:TypeId} {k:Nat}
  (hi:laid[i]? =some (n,.agg (zs.map fun z=> .lit (.string z)))) (hg:P.globalNamed n=some g) (hty:(P.globals[g]?).map (·.type)=some t)
  (ht:P.underlying t=some (.array k e)) (he:P.underlying e=some .string) (hce:P.cellsOf e=1) (hct:P.cellsOf t=k) (hM: ¬ Γ.M g):(gl g (zs.map S)).P Γ.M w:=by
 obtain ⟨ps,hl,_⟩:=h
 obtain ⟨g',t',cs,fuel,p,hg',ht',hv,hd⟩:=BL _ _ hl i n _ hi
 obtain rfl:=Option.some.inj (hg.symm.trans hg')
 obtain rfl:=Option.some.inj (hty.symm.trans ht')
 have e1:=C7 ht he hce hct hd
 refine ⟨hM,?_⟩
 unfold World.var? at hv
 rw [hg] at hv
 simp only [Option.bind_some] at hv
 split at hv
 ·rename_i c ty fr hb
  obtain rfl:=Option.some.inj hv
  exact ⟨ty,fr,by rw [hb,← e1]⟩
 ·cases hv
theorem gl_ints {P:Program} {laid:List (String×DataW Unit)} {w:World} {Γ:Ctx} (h:laidMet P laid w) (i:Nat) {n:String} {kd:IntKind} {zs:List Int} {g:Nat} {t e:TypeId} {k:Nat}
  (hi:laid[i]? =some (n,tabData kd zs)) (hg:P.globalNamed n=some g) (hty:(P.globals[g]?).map (·.type)=some t)
  (ht:P.underlying t=some (.array k e)) (he:P.underlying e=some (.int kd)) (hce:P.cellsOf e=1) (hct:P.cellsOf t=k) (hM: ¬ Γ.M g):(gl g (zs.map (Value.int kd))).P Γ.M w:=by
 obtain ⟨ps,hl,_⟩:=h
 obtain ⟨g',t',cs,fuel,p,hg',ht',hv,hd⟩:=BL _ _ hl i n _ hi
 obtain rfl:=Option.some.inj (hg.symm.trans hg')
 obtain rfl:=Option.some.inj (hty.symm.trans ht')
 have e1:=cells_of_tab ht he hce hct hd
 refine ⟨hM,?_⟩
 unfold World.var? at hv
 rw [hg] at hv
 simp only [Option.bind_some] at hv
 split at hv
 ·rename_i c ty fr hb
  obtain rfl:=Option.some.inj hv
  exact ⟨ty,fr,by rw [hb,← e1]⟩
 ·cases hv
/-! the row at the start: nothing is owned -/
def NoM (Γ:Ctx):Prop:= ∀ b,¬ Γ.M b
theorem H4:NoM []:=fun b h=>by obtain ⟨it,h,_⟩:=h;cases h
theorem MX {it:Item} {Γ:Ctx} (hp:it.own=[]) (h:NoM Γ):NoM (it::Γ):=fun b hb=>by
 rcases Ctx.oq.1 hb with h1 | h1
 ·rw [hp] at h1;cases h1
 ·exact h b h1
theorem LB (w:World):Sat [kept w (fun _=>False)] w:=Sat.nil.add rfl ⟨da.refl w,Nat.le_refl _,fun b _ _=>⟨H4 b,rfl⟩⟩
theorem KA (w:World):NoM [kept w (fun _=>False)]:=MX rfl H4
theorem Ml {w:World} {Γ:Ctx} (h:NoM Γ):Mv (fun _=>False) w Γ.M w:=⟨Nat.le_refl _,fun b _ _=>⟨h b,rfl⟩⟩
theorem LU {w w':World} {Γ:Ctx} {i:Nat} (h:Sat Γ w') (hi:Γ[i]? =some (kept w (fun _=>False))):Below w.heap.size w w':=by
 obtain ⟨h1,h2,h3⟩:=h.kept hi
 exact ⟨h1.os,h1.tape,h1.output,h2,fun k hk=>(h3 k hk (fun h=>h)).2⟩
end Go.Proofs.YtgcgmclghbebjaaGreat
namespace Go.Proofs.YtgcgmclghbebjaaGreat
open Go.Lib Go.ChangeAt Go.ChangeShapes Go.WideShapes Go.RowKit
theorem zI {Y:Type} (R:Nat→Y→Ex→Prop): ∀ (ys:List Y),(∀ i y,ys[i]? =some y→ ∃ e,R i y e)→ ∃ l:List Ex,l.length=ys.length∧ ∀ i y e,ys[i]? =some y→l[i]? =some e→R i y e
 | [],_=>⟨[],rfl,fun i y e h=>by simp at h⟩
 | y::ys,h=>by
  obtain ⟨e,he⟩:=h 0 y rfl
  obtain ⟨l,hl,hr⟩:=zI (fun i=>R (i+1)) ys (fun i y hy=>h (i+1) y (by simpa using hy))
  refine ⟨e::l,by simp [hl],fun i y' e' hy hx=> ?_⟩
  cases i with
  | zero=>
   simp only [List.getElem?_cons_zero,Option.some.injEq] at hy hx
   subst hy;subst hx;exact he
  | succ i=>exact hr i y' e' (by simpa using hy) (by simpa using hx)
theorem Lv {H:Type}: ∀ (l:List Ex) (ds:List (DataW H)),l.length=ds.length→(∀ (i:Nat) (e:Ex) (d:DataW H),l[i]? =some e→ds[i]? =some d→e.sz≤Rows.uptoBulk d)→szL l≤Rows.uptoBulkAll ds
 | [],[],_,_=>Nat.le_refl _
 | e::l,d::ds,hl,h=>by
  have h1:=h 0 e d rfl rfl
  have h2:=Lv l ds (by simpa using hl) (fun i e d he hd=>h (i+1) e d (by simpa using he) (by simpa using hd))
  simp only [szL,Rows.uptoBulkAll]
  omega
 | [],_::_,h,_=>by simp at h
 | _::_,[],h,_=>by simp at h
theorem zq {H:Type} (d:DataW H):1≤Rows.uptoBulk d:=by
 cases d with
 | lit l=>cases l <;> simp [Rows.uptoBulk]
 | nil=>simp [Rows.uptoBulk]
 | ptr d=>simp [Rows.uptoBulk]
 | slice elems spare=>simp [Rows.uptoBulk]
 | agg parts=>simp [Rows.uptoBulk]
 | iface t d=>simp [Rows.uptoBulk]
 | map entries=>simp [Rows.uptoBulk]
 | held h=>simp [Rows.uptoBulk]
theorem qK {H:Type} {d:DataW H}: ∀ {l:List (DataW H)},d∈l→Rows.uptoBulk d≤Rows.uptoBulkAll l
 | x::r,h=>by
  simp only [Rows.uptoBulkAll]
  rcases List.mem_cons.1 h with rfl | h
  ·omega
  ·have:=qK h;omega
structure Lx (P:Program) (t:TypeId):Prop where
 fields: ∃ (fs:Array Field) (f0 f1 f2 f3:Field),P.underlying t=some (.struct fs)∧fs.size=4∧fs[0]? =some f0∧fs[1]? =some f1∧fs[2]? =some f2∧fs[3]? =some f3∧
  (f0.offset=0∧P.underlying f0.type=some (.int .i64)∧P.cellsOf f0.type=1)∧(f1.offset=1∧P.underlying f1.type=some (.int .i64)∧P.cellsOf f1.type=1)∧
  (f2.offset=2∧P.underlying f2.type=some (.int .i64)∧P.cellsOf f2.type=1)∧(f3.offset=3∧P.underlying f3.type=some (.slice t)∧P.cellsOf f3.type=1)
 cells:P.cellsOf t=4
theorem Rk {P:Program} {w:World} {base:Nat} {t:TypeId} {v:Value} {fs:Array Field} (ht:P.underlying t=some (.struct fs)) (h:Value.okWide P w .any base t v):
  ∃ cs,v= .agg cs∧cs.size=P.cellsOf t∧Row.okWide P w .any base t cs:=by
 unfold Value.okWide at h
 rw [ht] at h
 exact h
theorem Jv {w:World} {a:Addr} {v:Value} (h:w.cell? a=some v):a.spot=none∧ ∃ cs e fr,w.heap[a.block]? =some (.cells cs e fr)∧cs[a.off]? =some v:=by
 unfold World.cell? at h
 split at h
 ·rename_i cs e fr hb
  split at h
  ·cases h
  ·rename_i hs
   exact ⟨by simpa using hs,cs,e,fr,hb,h⟩
 ·cases h
theorem J0 {H:Type} {enc:TypeId×Value→H} {P:Program} {W:World} {t:TypeId} (L:Lx P t): ∀ (fuel:Nat) (cs:List Value) (x:DataW H×List MemPlace),
  DataW.trod enc P W 0 (fun _=>true) true fuel t cs=some x→ ∃ e,mu (fun _=>False) W cs e∧e.sz≤Rows.uptoBulk x.1:=by
 intro fuel
 induction fuel using Nat.strongRecOn with
 | ind fuel ih=>
 intro cs x h
 obtain ⟨⟨fs,f0,f1,f2,f3,hT,hsz,g0,g1,g2,g3,⟨o0,u0,c0⟩,⟨o1,u1,c1⟩,⟨o2,u2,c2⟩,⟨o3,u3,c3⟩⟩,hc⟩:=L
 obtain ⟨xs,n,rfl,rfl,hl,hxs,hf⟩:=DataW.trod_struct hT h
 rw [hc] at hl
 rw [hsz] at hxs
 obtain ⟨a0,a1,a2,a3,rfl⟩: ∃ a0 a1 a2 a3,cs=[a0,a1,a2,a3]:=by
  match cs,hl with
  | [a,b,c,d],_=>exact ⟨a,b,c,d,rfl⟩
 obtain ⟨x0,x1,x2,x3,rfl⟩: ∃ a0 a1 a2 a3,xs=[a0,a1,a2,a3]:=by
  match xs,hxs with
  | [a,b,c,d],_=>exact ⟨a,b,c,d,rfl⟩
 have t0:=hf 0 f0 g0
 have t1:=hf 1 f1 g1
 have t2:=hf 2 f2 g2
 have t3:=hf 3 f3 g3
 rw [o0,c0] at t0;rw [o1,c1] at t1;rw [o2,c2] at t2;rw [o3,c3] at t3
 simp only [List.drop_zero,List.take_succ_cons,List.take_zero,List.drop_succ_cons,List.getElem?_cons_zero,List.getElem?_cons_succ] at t0 t1 t2 t3
 obtain ⟨z0,e0,_,_⟩:=DataW.trod_int u0 t0
 obtain ⟨z1,e1,_,_⟩:=DataW.trod_int u1 t1
 obtain ⟨z2,e2,_,_⟩:=DataW.trod_int u2 t2
 obtain rfl:a0= .int .i64 z0:=by simpa using e0
 obtain rfl:a1= .int .i64 z1:=by simpa using e1
 obtain rfl:a2= .int .i64 z2:=by simpa using e2
 have hb: ∀ d,x3.1=d→Rows.uptoBulk d+1≤Rows.uptoBulk (DataW.agg ([x0,x1,x2,x3].map (·.1))):=fun d hd=>by
  subst hd
  have:=qK (d:=x3.1) (l:=[x0,x1,x2,x3].map (·.1)) (by simp)
  simp only [Rows.uptoBulk]
  omega
 rcases DataW.trod_slice u3 t3 with ⟨h3,hx3⟩ | ⟨a,len,cap,elems,rest,m,rfl,h3,hx3,_,hlc,_,hlen,hel,hsp,_⟩
 ·obtain rfl:a3= .slice none 0 0:=by simpa using h3
  refine ⟨.mk z0 z1 z2 [],.nil z0 z1 z2 none,?_⟩
  have:=hb _ rfl
  have:=zq x3.1
  simp only [Ex.sz,szL]
  omega
 ·obtain rfl:a3= .slice (some a) len cap:=by simpa using h3
  obtain ⟨hrl,hre⟩:=hsp rfl
  rw [hc] at hel hre
  -- all of it is there
  have cell: ∀ i,i<cap→ ∃ us y,W.cells? 0 (a.add (i*4)) 4=some us∧us.length=4∧(∀ j,j<4→W.cell? ((a.add (i*4)).add j)=us[j]?)∧DataW.trod enc P W 0 (fun _=>true) true m t us=some y∧(i<len→elems[i]? =some y):=fun i hi=>by
   by_cases hil:i<len
   ·obtain ⟨y,hy⟩: ∃ y,elems[i]? =some y:=⟨elems[i]'(by omega),List.getElem?_eq_getElem _⟩
    have:=hel i hil
    rw [hy,Option.bind_eq_some_iff] at this
    obtain ⟨us,h1,h2⟩:=this
    obtain ⟨_,h3,h4⟩:=World.cells?_some h1
    exact ⟨us,y,h1,h3,h4,h2,fun _=>hy⟩
   ·obtain ⟨y,hy⟩: ∃ y,rest[i-len]? =some y:=⟨rest[i-len]'(by omega),List.getElem?_eq_getElem _⟩
    have:=hre (i-len) (by omega)
    rw [hy,Option.bind_eq_some_iff] at this
    obtain ⟨us,h1,h2⟩:=this
    have e:len+(i-len)=i:=by omega
    rw [e] at h1
    obtain ⟨_,h3,h4⟩:=World.cells?_some h1
    exact ⟨us,y,h1,h3,h4,h2,fun h=>absurd h hil⟩
  by_cases hcap:cap=0
  ·subst hcap
   obtain rfl:len=0:=by omega
   refine ⟨.mk z0 z1 z2 [],.nil z0 z1 z2 (some a),?_⟩
   have:=hb _ rfl
   have:=zq x3.1
   simp only [Ex.sz,szL]
   omega
  ·obtain ⟨us0,_,_,hl0,hc0,_⟩:=cell 0 (by omega)
   have h00:=hc0 0 (by omega)
   rw [List.getElem?_eq_getElem (by omega)] at h00
   obtain ⟨hs,cs',e',fr,hblk,_⟩:=Jv h00
   have hs':a.spot=none:=by simpa [Addr.add] using hs
   have hblk':W.heap[a.block]? =some (.cells cs' e' fr):=by simpa [Addr.add] using hblk
   obtain ⟨b,off,sp⟩:=a
   simp only at hs' hblk'
   subst hs'
   have at_: ∀ i j,((⟨b,off,none⟩:Addr).add (i*4)).add j=⟨b,off+i*4+j,none⟩:=fun i j=>by
    unfold Addr.add
    split <;> split <;> simp_all
   have cellx: ∀ i,i<cap→ ∃ us y,us.length=4∧(∀ j,j<4→cs'[off+i*4+j]? =us[j]?)∧DataW.trod enc P W 0 (fun _=>true) true m t us=some y∧(i<len→elems[i]? =some y):=fun i hi=>by
    obtain ⟨us,y,_,h3,h4,h5,h6⟩:=cell i hi
    refine ⟨us,y,h3,fun j hj=> ?_,h5,h6⟩
    have:=h4 j hj
    rw [at_] at this
    simpa [World.cell?,hblk'] using this
   have hsize:off+cap*4≤cs'.size:=by
    obtain ⟨us,_,h3,h4,_⟩:=cellx (cap-1) (by omega)
    have:=h4 3 (by omega)
    rw [List.getElem?_eq_getElem (by omega)] at this
    have:=(Array.getElem?_eq_some_iff.1 this).1
    omega
   have hel': ∀ i y,elems[i]? =some y→ ∃ e,(mu (fun _=>False) W (((cs'.toList.drop off).drop (i*4)).take 4) e∧e.sz≤Rows.uptoBulk y.1):=fun i y hy=>by
    have hi:i<len:=by rw [← hlen];exact (List.getElem?_eq_some_iff.1 hy).1
    obtain ⟨us,y',h3,h4,h5,h6⟩:=cellx i (by omega)
    obtain rfl:y'=y:=by have:=h6 hi;rw [hy] at this;exact (Option.some.inj this).symm
    have hus:((cs'.toList.drop off).drop (i*4)).take 4=us:=by
     apply List.ext_getElem?
     intro j
     by_cases hj:j<4
     ·rw [List.getElem?_take,if_pos hj,List.getElem?_drop,List.getElem?_drop,← h4 j hj]
      simp [Nat.add_assoc]
     ·rw [List.getElem?_take,if_neg hj,List.getElem?_eq_none (by omega)]
    rw [hus]
    exact ih m (by omega) us y' h5
   obtain ⟨l,hll,hR⟩:=zI (fun i y e=>mu (fun _=>False) W (((cs'.toList.drop off).drop (i*4)).take 4) e∧e.sz≤Rows.uptoBulk y.1) elems hel'
   have hll':l.length=len:=by omega
   refine ⟨.mk z0 z1 z2 l,?_,?_⟩
   ·rw [← hll']
    refine .some z0 z1 z2 l b off cap cs' e' fr (fun h=>h) hblk' (by omega) (by omega) ?_ (fun i hi=> ?_)
    ·simp only [List.length_take,List.length_drop,Array.length_toList]
     omega
    ·obtain ⟨y,hy⟩: ∃ y,elems[i]? =some y:=⟨elems[i]'(by omega),List.getElem?_eq_getElem _⟩
     have:=(hR i y l[i] hy (List.getElem?_eq_getElem _)).1
     rw [List.drop_take,List.take_take]
     have e4:min 4 (l.length*4-i*4)=4:=by omega
     rw [e4]
     exact this
   ·have h1:=Lv l (elems.map (·.1)) (by simp [hll]) (fun i e d he hd=>by
     rw [List.getElem?_map,Option.map_eq_some_iff] at hd
     obtain ⟨y,hy,rfl⟩:=hd
     exact (hR i y e hy he).2)
    have h2:x3.1= .slice (elems.map (·.1)) (rest.map (·.1)):=by rw [hx3]
    have h3:=hb _ h2
    simp only [Ex.sz]
    have h4:Rows.uptoBulk (DataW.slice (elems.map (·.1)) (rest.map (·.1)))=Rows.uptoBulkAll (elems.map (·.1))+Rows.uptoBulkAll (rest.map (·.1))+1:=by simp only [Rows.uptoBulk]
    omega
end Go.Proofs.YtgcgmclghbebjaaGreat
namespace Go.Proofs.YtgcgmclghbebjaaGreat
open Go.Lib Go.ChangeAt Go.ChangeShapes Go.WideShapes Go.RowKit
open Go.ChangeMaps (open_string)
def kL:Ty→List (Option TypeId)
 | .p a b=>kL a++kL b
 | .l _ | .ex=>[none]
 | _=>[]
def RJ:Ty→Pt
 | .i k=> .int k
 | .bo=> .bool
 | .s=> .str
 | .l t=> .sli t
 | t=> .dat t (kL t)
def Dom (Q:Nat→Prop):(t:Ty)→t.T→Prop
 | .i k,x=>(Lit.int k x).wf=true
 | .s,x=>x.length≤9223372036854775807
 | .p a b,x=>Dom Q a x.1∧Dom Q b x.2
 | .l t,x=>(List.length (α:=t.T) x≤9223372036854775807∧Q (List.length (α:=t.T) x))∧ ∀ y:t.T,List.Mem y x→Dom Q t y
 | .ex,x=>Q x.sz
 | _,_=>True
/-! the program's types and codes -/
def vP (P:Program) (t:TypeId):Bool:=(match P.underlying t with
 | some (.int .i64)=>true
 | _=>false)&&P.cellsOf t==1
def exB (P:Program) (t:TypeId):Bool:=(match P.underlying t with
 | some (.struct fs)=>(match fs.toList with
  | [f0,f1,f2,f3]=>f0.offset==0&&vP P f0.type&&(f1.offset==1&&vP P f1.type)&&(f2.offset==2&&vP P f2.type)&&(f3.offset==3&&P.cellsOf f3.type==1&&(match P.underlying f3.type with
   | some (.slice e)=>e==t
   | _=>false))
  | _=>false)
 | _=>false)&&P.cellsOf t==4
def oT (P:Program) (fit:TypeId→Ty→Bool) (tot:Nat):List Field→Nat→Ty→Bool
 | [],_,_=>false
 | [f],off,t=>f.offset==off&&off+P.cellsOf f.type==tot&&P.cellsOf f.type==t.rep.n&&fit f.type t
 | f::g::fs,off,t=>match t with
  | .p a b=>f.offset==off&&P.cellsOf f.type==a.rep.n&&fit f.type a&&oT P fit tot (g::fs) (off+P.cellsOf f.type) b
  | _=>false
def fits (P:Program):Nat→TypeId→Ty→Bool
 | 0,_,_=>false
 | n+1,i,t=>match P.underlying i with
  | some (.int k)=>(match t with
   | .i k'=>decide (k=k')
   | _=>false)
  | some .bool=>(match t with
   | .bo=>true
   | _=>false)
  | some .string=>(match t with
   | .s=>true
   | _=>false)
  | some (.slice e)=>(match t with
   | .l u=>P.cellsOf e==u.rep.n&&Nat.blt 0 u.rep.n&&fits P n e u
   | _=>false)
  | some (.struct fs)=>(match t with
   | .ex=>exB P i
   | .p a b=>oT P (fits P n) (P.cellsOf i) fs.toList 0 (.p a b)
   | _=>false)
  | _=>false
def noN:Ty→Bool
 | .n=>false
 | .p a b=>noN a&&noN b
 | _=>true
theorem wD {P:Program} {fit:TypeId→Ty→Bool} (h: ∀ i t,fit i t=true→noN t=true) {tot:Nat}: ∀ (fs:List Field) (off:Nat) (t:Ty),oT P fit tot fs off t=true→noN t=true
 | [],_,_,e=>by cases e
 | [f],off,t,e=>by
  simp only [oT,Bool.and_eq_true] at e
  exact h _ _ e.2
 | f::g::fs,off,t,e=>by
  unfold oT at e
  split at e
  ·rename_i a b
   simp only [Bool.and_eq_true] at e
   simp only [noN,Bool.and_eq_true]
   exact ⟨h _ _ e.1.2,wD h (g::fs) _ b e.2⟩
  ·cases e
theorem Er {P:Program}: ∀ (n:Nat) (i:TypeId) (t:Ty),fits P n i t=true→noN t=true
 | 0,_,_,e=>by cases e
 | n+1,i,t,e=>by
  unfold fits at e
  split at e <;> (try cases e)
  ·split at e
   ·rfl
   ·cases e
  ·split at e
   ·rfl
   ·cases e
  ·split at e
   ·rfl
   ·cases e
  ·split at e
   ·rfl
   ·cases e
  ·split at e
   ·rfl
   ·exact wD (fun i t=>Er n i t) _ _ _ e
   ·cases e
theorem lT {P:Program} {t:TypeId} (h:vP P t=true):P.underlying t=some (.int .i64)∧P.cellsOf t=1:=by
 unfold vP at h
 simp only [Bool.and_eq_true,beq_iff_eq] at h
 refine ⟨?_,h.2⟩
 revert h
 split
 ·rename_i h;intro _;exact h
 ·intro h;cases h.1
theorem RN {P:Program} {t:TypeId} (h:exB P t=true):Lx P t:=by
 unfold exB at h
 simp only [Bool.and_eq_true,beq_iff_eq] at h
 obtain ⟨h1,h2⟩:=h
 split at h1
 ·rename_i fs hfs
  split at h1
  ·rename_i f0 f1 f2 f3 hl
   simp only [Bool.and_eq_true,beq_iff_eq] at h1
   obtain ⟨⟨⟨⟨a0,b0⟩,a1,b1⟩,a2,b2⟩,⟨a3,c3⟩,b3⟩:=h1
   have g: ∀ i:Nat,fs[i]? =[f0,f1,f2,f3][i]? :=fun i=>by rw [← hl,Array.getElem?_toList]
   have u3:P.underlying f3.type=some (.slice t):=by
    revert b3
    split
    ·rename_i e he
     intro hb
     rw [he,(by simpa using hb:e=t)]
    ·intro hb;cases hb
   refine ⟨⟨fs,f0,f1,f2,f3,hfs,?_,g 0,g 1,g 2,g 3,⟨a0,(lT b0).1,(lT b0).2⟩,⟨a1,(lT b1).1,(lT b1).2⟩,⟨a2,(lT b2).1,(lT b2).2⟩,⟨a3,u3,c3⟩⟩,h2⟩
   rw [← Array.length_toList,hl];rfl
  ·cases h1
 ·cases h1
theorem N7 {w:World} {a:Addr} {v:Value} (h:w.cell? a=some v):a.spot=none∧ ∃ cs e fr,w.heap[a.block]? =some (.cells cs e fr)∧cs[a.off]? =some v:=by
 unfold World.cell? at h
 split at h
 ·rename_i cs e fr hb
  split at h
  ·cases h
  ·rename_i hs
   exact ⟨by simpa using hs,cs,e,fr,hb,h⟩
 ·cases h
theorem yp {Y α:Type} (R:Nat→Y→α→Prop): ∀ (ys:List Y),(∀ i y,ys[i]? =some y→ ∃ e,R i y e)→ ∃ l:List α,l.length=ys.length∧ ∀ i y e,ys[i]? =some y→l[i]? =some e→R i y e
 | [],_=>⟨[],rfl,fun i y e h=>by simp at h⟩
 | y::ys,h=>by
  obtain ⟨e,he⟩:=h 0 y rfl
  obtain ⟨l,hl,hr⟩:=yp (fun i=>R (i+1)) ys (fun i y hy=>h (i+1) y (by simpa using hy))
  refine ⟨e::l,by simp [hl],fun i y' e' hy hx=> ?_⟩
  cases i with
  | zero=>
   simp only [List.getElem?_cons_zero,Option.some.injEq] at hy hx
   subst hy;subst hx;exact he
  | succ i=>exact hr i y' e' (by simpa using hy) (by simpa using hx)
theorem x8 {H:Type}: ∀ (l:List (DataW H)),l.length≤Rows.uptoBulkAll l
 | []=>Nat.zero_le _
 | d::l=>by
  have:=x8 l
  have:=zq d
  simp only [List.length_cons,Rows.uptoBulkAll]
  omega
theorem Lb {H α:Type} {enc:TypeId×Value→H} {P:Program} {W:World} {t e:TypeId} {A:Rep α} {Q:Nat→Prop} {D:α→Prop} (ht:P.underlying t=some (.slice e)) (hA:P.cellsOf e=A.n) (hn:0<A.n)
  (fuel:Nat) (cs:List Value) (x:DataW H×List MemPlace) (hQ: ∀ n,n≤Rows.uptoBulk x.1→Q n)
  (he: ∀ (fuel:Nat) (us:List Value) (y:DataW H×List MemPlace),(∀ n,n≤Rows.uptoBulk y.1→Q n)→DataW.trod enc P W 0 (fun _=>true) true fuel e us=some y→ ∃ z,A.rd (fun _=>False) W us z∧D z)
  (h:DataW.trod enc P W 0 (fun _=>true) true fuel t cs=some x):
  ∃ (u:SLV) (zs:List α),cs=[sl u]∧SRd A (fun _=>False) W (sl u) zs∧(zs.length≤9223372036854775807∧Q zs.length)∧ ∀ z∈zs,D z:=by
 rcases DataW.trod_slice ht h with ⟨h3,_⟩ | ⟨a,len,cap,elems,rest,m,rfl,h3,hx,_,hlc,hmx,hlen,hel,hsp,_⟩
 ·exact ⟨(none,0,0),[],h3,SRd.nil,⟨by simp,hQ _ (Nat.zero_le _)⟩,by simp⟩
 ·obtain ⟨hrl,hre⟩:=hsp rfl
  rw [hA] at hel hre
  have hmx:cap≤9223372036854775807:=hmx
  have hb:Rows.uptoBulk x.1=Rows.uptoBulkAll (elems.map (·.1))+Rows.uptoBulkAll (rest.map (·.1))+1:=by rw [hx];simp only [Rows.uptoBulk]
  have hlb:len≤Rows.uptoBulk x.1:=by
   have:=x8 (elems.map (·.1))
   simp only [List.length_map] at this
   omega
  have hQe: ∀ y∈elems,∀ n,n≤Rows.uptoBulk y.1→Q n:=fun y hy n hn=>hQ n (by
   have:=qK (d:=y.1) (l:=elems.map (·.1)) (List.mem_map.2 ⟨y,hy,rfl⟩)
   omega)
  have cell: ∀ i,i<cap→ ∃ us y,us.length=A.n∧(∀ j,j<A.n→W.cell? ((a.add (i*A.n)).add j)=us[j]?)∧DataW.trod enc P W 0 (fun _=>true) true m e us=some y∧(i<len→elems[i]? =some y):=fun i hi=>by
   by_cases hil:i<len
   ·obtain ⟨y,hy⟩: ∃ y,elems[i]? =some y:=⟨elems[i]'(by omega),List.getElem?_eq_getElem _⟩
    have:=hel i hil
    rw [hy,Option.bind_eq_some_iff] at this
    obtain ⟨us,h1,h2⟩:=this
    obtain ⟨_,h3,h4⟩:=World.cells?_some h1
    exact ⟨us,y,h3,h4,h2,fun _=>hy⟩
   ·obtain ⟨y,hy⟩: ∃ y,rest[i-len]? =some y:=⟨rest[i-len]'(by omega),List.getElem?_eq_getElem _⟩
    have:=hre (i-len) (by omega)
    rw [hy,Option.bind_eq_some_iff,show len+(i-len)=i by omega] at this
    obtain ⟨us,h1,h2⟩:=this
    obtain ⟨_,h3,h4⟩:=World.cells?_some h1
    exact ⟨us,y,h3,h4,h2,fun h=>absurd h hil⟩
  by_cases hcap:cap=0
  ·subst hcap
   obtain rfl:len=0:=by omega
   exact ⟨(some a,0,0),[],h3,SRd.emp,⟨by simp,hQ _ (Nat.zero_le _)⟩,by simp⟩
  ·obtain ⟨us0,_,hl0,hc0,_⟩:=cell 0 (by omega)
   have h00:=hc0 0 hn
   rw [List.getElem?_eq_getElem (by omega)] at h00
   obtain ⟨hs,cs',e',fr,hblk,_⟩:=N7 h00
   have hs':a.spot=none:=by simpa [Addr.add] using hs
   have hblk':W.heap[a.block]? =some (.cells cs' e' fr):=by simpa [Addr.add] using hblk
   obtain ⟨b,off,sp⟩:=a
   simp only at hs' hblk'
   subst hs'
   have at_: ∀ i j,((⟨b,off,none⟩:Addr).add (i*A.n)).add j=⟨b,off+i*A.n+j,none⟩:=fun i j=>by
    unfold Addr.add
    split <;> split <;> simp_all
   have cellx: ∀ i,i<cap→ ∃ us y,us.length=A.n∧(∀ j,j<A.n→cs'[off+i*A.n+j]? =us[j]?)∧DataW.trod enc P W 0 (fun _=>true) true m e us=some y∧(i<len→elems[i]? =some y):=fun i hi=>by
    obtain ⟨us,y,h3,h4,h5,h6⟩:=cell i hi
    refine ⟨us,y,h3,fun j hj=> ?_,h5,h6⟩
    have:=h4 j hj
    rw [at_] at this
    simpa [World.cell?,hblk'] using this
   have hsize:off+cap*A.n≤cs'.size:=by
    obtain ⟨us,_,h3,h4,_⟩:=cellx (cap-1) (by omega)
    have:=h4 (A.n-1) (by omega)
    rw [List.getElem?_eq_getElem (by omega)] at this
    have:=(Array.getElem?_eq_some_iff.1 this).1
    have e1:cap*A.n=(cap-1)*A.n+A.n:=by
     have:cap=(cap-1)+1:=by omega
     conv=>lhs;rw [this]
     rw [Nat.add_mul,Nat.one_mul]
    omega
   have hel': ∀ i y,elems[i]? =some y→ ∃ z,(A.rd (fun _=>False) W (((cs'.toList.drop off).drop (i*A.n)).take A.n) z∧D z):=fun i y hy=>by
    have hi:i<len:=by rw [← hlen];exact (List.getElem?_eq_some_iff.1 hy).1
    obtain ⟨us,y',h3,h4,h5,h6⟩:=cellx i (by omega)
    obtain rfl:y'=y:=by have:=h6 hi;rw [hy] at this;exact (Option.some.inj this).symm
    have hus:((cs'.toList.drop off).drop (i*A.n)).take A.n=us:=by
     apply List.ext_getElem?
     intro j
     by_cases hj:j<A.n
     ·rw [List.getElem?_take,if_pos hj,List.getElem?_drop,List.getElem?_drop,← h4 j hj]
      simp [Nat.add_assoc]
     ·rw [List.getElem?_take,if_neg hj,List.getElem?_eq_none (by omega)]
    rw [hus]
    exact he m us y' (hQe y' (List.mem_of_getElem? hy)) h5
   obtain ⟨l,hll,hR⟩:=yp (fun i y z=>A.rd (fun _=>False) W (((cs'.toList.drop off).drop (i*A.n)).take A.n) z∧D z) elems hel'
   have hll':l.length=len:=by omega
   have get: ∀ i (hi:i<l.length),A.rd (fun _=>False) W (((cs'.toList.drop off).drop (i*A.n)).take A.n) l[i]∧D l[i]:=fun i hi=>by
    obtain ⟨y,hy⟩: ∃ y,elems[i]? =some y:=⟨elems[i]'(by omega),List.getElem?_eq_getElem _⟩
    exact hR i y l[i] hy (List.getElem?_eq_getElem _)
   refine ⟨(some ⟨b,off,none⟩,len,cap),l,h3,.inr ⟨b,off,cap,cs',e',fr,by rw [hll'];rfl,(fun h=>h),hblk',by omega,hsize,?_⟩,⟨by omega,hQ _ (by omega)⟩,fun z hz=> ?_⟩
   ·have hle:l.length*A.n≤cap*A.n:=Nat.mul_le_mul_right _ (by omega)
    refine ⟨?_,fun i hi=> ?_⟩
    ·simp only [List.length_take,List.length_drop,Array.length_toList]
     omega
    ·have h1:i*A.n+A.n≤l.length*A.n:=by rw [← Nat.succ_mul];exact Nat.mul_le_mul_right _ hi
     rw [List.drop_take,List.take_take,Nat.min_eq_left (by omega)]
     exact (get i hi).1
   ·obtain ⟨i,hi,rfl⟩:=List.getElem_of_mem hz
    exact (get i hi).2
theorem Gw {H:Type} {enc:TypeId×Value→H} {P:Program} {W:World} {Q:Nat→Prop}: ∀ (n:Nat) (i:TypeId) (t:Ty),fits P n i t=true→ ∀ (fuel:Nat) (cs:List Value) (x:DataW H×List MemPlace),
  (∀ n,n≤Rows.uptoBulk x.1→Q n)→DataW.trod enc P W 0 (fun _=>true) true fuel i cs=some x→ ∃ z:t.T,t.rep.rd (fun _=>False) W cs z∧Dom Q t z:=by
 intro n
 induction n with
 | zero=>intro i t h;cases h
 | succ n ih=>
 intro i t hf fuel cs x hQ h
 unfold fits at hf
 split at hf
 ·rename_i k hu
  split at hf
  ·obtain ⟨z,h1,_,h3⟩:=DataW.trod_int hu h
   have e:=of_decide_eq_true hf
   subst e
   exact ⟨z,h1,h3⟩
  ·cases hf
 ·rename_i hu
  split at hf
  ·obtain ⟨z,h1,_⟩:=DataW.trod_bool hu h
   exact ⟨z,h1,trivial⟩
  ·cases hf
 ·rename_i hu
  split at hf
  ·obtain ⟨⟨⟨z⟩⟩,h1,_,h3⟩:=DataW.trod_string hu h
   exact ⟨z,h1,h3⟩
  ·cases hf
 ·rename_i e hu
  split at hf
  ·rename_i u
   simp only [Bool.and_eq_true,beq_iff_eq,Nat.blt_eq] at hf
   obtain ⟨⟨h1,h2⟩,h3⟩:=hf
   obtain ⟨p,zs,a1,a2,a3,a4⟩:=Lb (A:=u.rep) (Q:=Q) (D:=Dom Q u) hu h1 h2 fuel cs x hQ (fun fuel us y hy h=>ih e u h3 fuel us y hy h) h
   exact ⟨zs,⟨p,a1,a2⟩,a3,a4⟩
  ·cases hf
 ·rename_i fs hu
  have key: ∀ t:Ty,oT P (fits P n) (P.cellsOf i) fs.toList 0 t=true→ ∃ z:t.T,t.rep.rd (fun _=>False) W cs z∧Dom Q t z:=fun t hf=>by
   obtain ⟨xs,m,_,hx,hl,hxs,hfl⟩:=DataW.trod_struct hu h
   have hb:Rows.uptoBulk x.1=Rows.uptoBulkAll (xs.map (·.1))+1:=by rw [hx];simp only [Rows.uptoBulk]
   have hQe: ∀ y∈xs,∀ n,n≤Rows.uptoBulk y.1→Q n:=fun y hy n hn=>hQ n (by
    have:=qK (d:=y.1) (l:=xs.map (·.1)) (List.mem_map.2 ⟨y,hy,rfl⟩)
    omega)
   have one: ∀ (j:Nat) (f:Field) (t:Ty),fs.toList[j]? =some f→fits P n f.type t=true→ ∃ z:t.T,t.rep.rd (fun _=>False) W ((cs.drop f.offset).take (P.cellsOf f.type)) z∧Dom Q t z:=fun j f t hj ht=>by
    have hj':fs[j]? =some f:=by simpa using hj
    have h1:=hfl j f hj'
    have hjl:j<xs.length:=by rw [hxs];exact (Array.getElem?_eq_some_iff.1 hj').1
    rw [List.getElem?_eq_getElem hjl] at h1
    exact ih f.type t ht m _ _ (hQe _ (List.getElem_mem _)) h1
   have go: ∀ (r:List Field) (j off:Nat) (t:Ty),fs.toList.drop j=r→oT P (fits P n) (P.cellsOf i) r off t=true→ ∃ z:t.T,t.rep.rd (fun _=>False) W (cs.drop off) z∧Dom Q t z:=fun r=>by
    induction r with
    | nil=>intro j off t _ h;cases h
    | cons f r ihr=>
     intro j off t hr hf
     have hj:fs.toList[j]? =some f:=by
      have:=congrArg (·[0]?) hr
      simpa [List.getElem?_drop] using this
     have hr':fs.toList.drop (j+1)=r:=by
      rw [← List.drop_drop,hr];rfl
     cases r with
     | nil=>
      simp only [oT,Bool.and_eq_true,beq_iff_eq] at hf
      obtain ⟨⟨⟨h1,h2⟩,h3⟩,h4⟩:=hf
      obtain ⟨z,z1,z2⟩:=one j f t hj h4
      rw [h1,List.take_of_length_le (by simp;omega)] at z1
      exact ⟨z,z1,z2⟩
     | cons g r=>
      unfold oT at hf
      split at hf
      ·rename_i a b
       simp only [Bool.and_eq_true,beq_iff_eq] at hf
       obtain ⟨⟨⟨h1,h2⟩,h3⟩,h4⟩:=hf
       obtain ⟨z,z1,z2⟩:=one j f a hj h3
       obtain ⟨y,y1,y2⟩:=ihr (j+1) _ b hr' h4
       rw [h1] at z1
       refine ⟨(z,y),⟨_,_,?_,z1,y1⟩,z2,y2⟩
       rw [← List.drop_drop];exact (List.take_append_drop ..).symm
      ·cases hf
   obtain ⟨z,z1,z2⟩:=go fs.toList 0 0 t rfl hf
   exact ⟨z,by simpa using z1,z2⟩
  split at hf
  ·obtain ⟨e,h1,h2⟩:=J0 (RN hf) fuel cs x h
   exact ⟨e,h1,hQ _ h2⟩
  ·exact key _ hf
  ·cases hf
 ·cases hf
def gq (W:World) (I:Its):Prop:= ∀ it∈I,it.1=false∧it.2.bX=true∧ ∀ M,Mv (fun _=>False) W M W→it.2.P M W
theorem gq.nil {W:World}:gq W []:=fun it h=>by cases h
theorem gq.app {W:World} {I J:Its} (h:gq W I) (k:gq W J):gq W (I++J):=fun it hit=>by
 rcases List.mem_append.1 hit with h1 | h1
 ·exact h it h1
 ·exact k it h1
theorem gq.one {W:World} {α:Type} {A:Rep α} {p:SLV} {l:List α} (h:SRd A (fun _=>False) W (sl p) l):gq W [(false,wz true A p l false)]:=fun it hit=>by
 rcases List.mem_singleton.1 hit with rfl
 exact ⟨rfl,rfl,fun M hm _=>⟨h.mv hm,fun h=>by cases h⟩⟩
theorem uJ {W:World}: ∀ (t:Ty) (cs:List Value) (x:t.T),noN t=true→t.rep.rd (fun _=>False) W cs x→ ∀ (o:List (Option TypeId)) (N:List Nm),∃ I N',yQ t x cs (kL t++o) N I N' o∧gq W I
 | .i k,cs,x,hn,h,o,N=>⟨[],N,⟨h,rfl,rfl,rfl⟩,.nil⟩
 | .bo,cs,x,hn,h,o,N=>⟨[],N,⟨h,rfl,rfl,rfl⟩,.nil⟩
 | .s,cs,x,hn,h,o,N=>⟨[],N,⟨h,rfl,rfl,rfl⟩,.nil⟩
 | .un,cs,x,hn,h,o,N=>⟨[],N,⟨h,rfl,rfl,rfl⟩,.nil⟩
 | .n,cs,x,hn,h,o,N=>by cases hn
 | .mp _ _,cs,x,hn,h,o,N=>absurd h id
 | .p a b,cs,x,hn,h,o,N=>by
  simp only [noN,Bool.and_eq_true] at hn
  obtain ⟨c1,c2,h1,h2,h3⟩:=h
  obtain ⟨I1,N1,s1,g1⟩:=uJ a c1 x.1 hn.1 h2 (kL b++o) N
  obtain ⟨I2,N2,s2,g2⟩:=uJ b c2 x.2 hn.2 h3 o N1
  refine ⟨I1++I2,N2,⟨c1,c2,N1,I1,I2,kL b++o,?_,s2,h1,rfl⟩,g1.app g2⟩
  rw [show kL (.p a b)++o=kL a++(kL b++o) by simp [kL]]
  exact s1
 | .l t,cs,x,hn,h,o,N=>by
  obtain ⟨p,h1,h2⟩:=h
  exact ⟨_,_,⟨⟨0,p,⟨0,0,none⟩,none,.bool false,⟨.un,()⟩⟩,h1,rfl,.inl ⟨rfl,rfl⟩⟩,.one h2⟩
 | .ex,cs,x,hn,h,o,N=>by
  obtain ⟨p,h1,h2⟩:=ud h
  exact ⟨_,_,⟨⟨0,p,⟨0,0,none⟩,none,.bool false,⟨.un,()⟩⟩,h1,rfl,.inl ⟨rfl,rfl⟩⟩,.one h2⟩
def Arg (W:World) (t:Ty) (v:Value) (z:t.T):Prop:= ∀ N:List Nm,∃ I N',Sem (RJ t) v none none N [⟨t,z⟩] I [] N'∧gq W I
theorem rF {H:Type} {enc:TypeId×Value→H} {P:Program} {W:World} {Q:Nat→Prop} {base:Nat} {n:Nat} {i:TypeId} (t:Ty) (hf:fits P n i t=true) {v:Value} {d:DataW H} {ps:List MemPlace}
  (hw:Value.okWide P W .any base i v) (hQ: ∀ n,n≤Rows.uptoBulk d→Q n) (h:DataW.Trod enc P W 0 (fun _=>true) true i v d ps): ∃ z:t.T,Arg W t v z∧Dom Q t z:=by
 have hk:=h
 obtain ⟨fuel,hx⟩:=h
 obtain ⟨z,h1,h2⟩:=Gw n i t hf fuel _ _ hQ hx
 refine ⟨z,?_,h2⟩
 cases n with
 | zero=>cases hf
 | succ n=>
 unfold fits at hf
 split at hf
 ·rename_i k hu
  split at hf
  ·have e:=of_decide_eq_true hf
   subst e
   obtain ⟨y,rfl,_⟩:=open_int hu hw hk
   have:y=z:=by
    have h1:([.int k y]:List Value)=[.int k z]:=h1
    injection h1 with h1 _
    injection h1
   subst this
   exact fun N=>⟨[],N,⟨y,rfl,rfl,rfl,rfl,rfl⟩,.nil⟩
  ·cases hf
 ·rename_i hu
  split at hf
  ·obtain ⟨y,rfl,_⟩:=open_bool hu hw hk
   have:y=z:=by
    have h1:([.bool y]:List Value)=[.bool z]:=h1
    injection h1 with h1 _
    injection h1
   subst this
   exact fun N=>⟨[],N,⟨y,rfl,rfl,rfl,rfl,rfl⟩,.nil⟩
  ·cases hf
 ·rename_i hu
  split at hf
  ·obtain ⟨⟨⟨y⟩⟩,rfl,_⟩:=open_string hu hw hk
   have:y=z:=by
    have h1:([S y]:List Value)=[S z]:=h1
    injection h1 with h1 _
    injection h1 with h1
    injection h1 with h1
    injection h1
   subst this
   exact fun N=>⟨[],N,⟨y,rfl,rfl,rfl,rfl,rfl⟩,.nil⟩
  ·cases hf
 ·rename_i e hu
  split at hf
  ·rename_i u
   obtain ⟨a,len,cap,rfl⟩:=okWide_slice hu hw
   obtain ⟨p,e1,h3⟩:=h1
   have e2:Value.slice a len cap=sl p:=by simpa [Value.cells] using e1
   rw [e2]
   exact fun N=>⟨_,_,⟨⟨0,p,⟨0,0,none⟩,none,.bool false,⟨.un,()⟩⟩,z,rfl,rfl,rfl,rfl,rfl⟩,.one h3⟩
  ·cases hf
 ·rename_i fs hu
  obtain ⟨cs,rfl,_,_⟩:=Rk hu hw
  split at hf
  ·obtain ⟨p,e1,h3⟩:=ud h1
   exact fun N=>⟨_,_,⟨cs.toList,z,[],by simp,rfl,⟨⟨0,p,⟨0,0,none⟩,none,.bool false,⟨.un,()⟩⟩,e1,rfl,.inl ⟨rfl,rfl⟩⟩,rfl⟩,.one h3⟩
  ·rename_i a b
   exact fun N=>by
    obtain ⟨I,N',s,g⟩:=uJ (.p a b) _ z (wD (fun i t=>Er n i t) _ _ _ hf) h1 [] N
    exact ⟨I,N',⟨cs.toList,z,[],by simp,rfl,by simpa [Value.cells] using s,rfl⟩,g⟩
  ·cases hf
 ·cases hf
def MF (W:World) (ps:List Pt) (vs:List Value) (D:List Dyn):Prop:= ∀ N:List Nm,∃ I N',me ps vs [] [] N D I [] N'∧gq W I
theorem NQ {W:World}:MF W [] [] []:=fun N=>⟨[],N,⟨rfl,rfl,rfl,rfl,rfl⟩,.nil⟩
theorem vr {W:World} {t:Ty} {v:Value} {z:t.T} {ps:List Pt} {vs:List Value} {D:List Dyn} (h:Arg W t v z) (k:MF W ps vs D):MF W (RJ t::ps) (v::vs) (⟨t,z⟩::D):=fun N=>by
 obtain ⟨I1,N1,s1,g1⟩:=h N
 obtain ⟨I2,N2,s2,g2⟩:=k N1
 exact ⟨I1++I2,N2,⟨v,vs,[⟨t,z⟩],D,I1,I2,[],[],N1,rfl,s1,s2,rfl,rfl,rfl⟩,g1.app g2⟩
theorem Nc {W:World} {I:Its} {Γ:Ctx} (g:gq W I) (hn:NoM Γ) (h:Sat Γ W):Sat (bG I++Γ) W:=qt h _ (fun it hit=>by
 obtain ⟨x,hx,rfl⟩:=List.mem_map.1 hit
 exact ⟨(g x hx).2.1,(g x hx).2.2 _ (Ml hn)⟩)
end Go.Proofs.YtgcgmclghbebjaaGreat
namespace Go.Proofs.YtgcgmclghbebjaaGreat
namespace So
theorem LD {x:Int} (h:(Lit.int .i64 x).wf=true):I64 x:=by
 simp only [Lit.wf,Bool.and_eq_true,decide_eq_true_eq] at h
 exact h
theorem Si {x:Int} (h:(Lit.int .u8 x).wf=true):0≤x∧x≤255:=by
 simp only [Lit.wf,Bool.and_eq_true,decide_eq_true_eq] at h
 exact h
theorem Sj {Q:Nat→Prop} {s:List Fd} (h:Dom Q (.l (.p (.i .i64) (.i .i64))) s):FI s:=fun f hf=>⟨LD (h.2 f hf).1,LD (h.2 f hf).2⟩
end So
end Go.Proofs.YtgcgmclghbebjaaGreat
namespace Go.Proofs.YtgcgmclghbebjaaGreat
namespace So
theorem RO {Q:Nat→Prop} (s:List Fd) (most:Int) (l:List Act) (h1:Dom Q (.l (.p (.i .i64) (.i .i64))) s) (h2:Dom Q (.i .u8) most) (_:Dom Q (.l (.p (.i .u8) (.p (.l (.i .i64)) (.i .i64)))) l):ew s most l=some true:=
 KR s most l (Sj h1) (Si h2)
end So
end Go.Proofs.YtgcgmclghbebjaaGreat
