/-
  Own texts for the statement StoreTells, cut down to what it needs: SeIns, SoH, SoI, SoR1, SoK, SoShown, SoOld, SoR3, SoR7, SoFew, SoTells, SoFull, KFr, KFx, KArg, SoFullT, SoTellsT. (cut and joined by a program)
-/
import Derived.Test.YtgcgmclghbebjaaGreatStoreTellsA
import Derived.Test.YtgcgmclghbebjaaGreatStoreTellsB
import Derived.Test.YtgcgmclghbebjaaGreatStoreTellsC
import Derived.Test.YtgcgmclghbebjaaGreatStoreTellsD
import Derived.Test.YtgcgmclghbebjaaGreatStoreTellsE
import Derived.Test.YtgcgmclghbebjaaGreatStoreTellsF
import Derived.Test.YtgcgmclghbebjaaGreatStoreTellsG
import Derived.Test.YtgcgmclghbebjaaGreatStoreTellsH
import Derived.Lib.LaidTab
import Derived.Below
import Derived.WalkKit
import Derived.ProofKit
import Derived.Test.YtgcgmclghbebjaaGreatRows
import Derived.Carry
import Derived.ChangeSlices
import Derived.OpenShut
namespace Go.Proofs.YtgcgmclghbebjaaGreat
namespace Df
abbrev D:=Int×List Nd×Int×Int×List Int
structure Good (d:D) (W m:Nat) (A:List Int):Prop where
 wide:d.1=W
 w1:1≤W∧W≤64
 m4:m≤2097152
 inv:Inv d.2.1 d.2.2.2.2 [] A (if d.2.2.1= -1 then [] else [d.2.2.1]) [] W
 root:(d.2.2.1= -1∧A=[])∨At d.2.1 A W d.2.2.1
 long:d.2.1.length≤66*m
 refs: ∀ j,rf d.2.1 j≤16896*(m:Int)
 many:d.2.2.2.1=m
noncomputable def tW (d:D) (v:List Int):Prop:=d.2.2.1≠ -1∧acc d.2.1 v d.2.2.1
theorem Vw {W:Nat} (h:1≤W∧W≤64):Aq (W:Int)=some (((W:Int),[],-1,0,[]),0):=by
 unfold Aq
 simp only [aP]
 rw [show decide ((W:Int)<1)=false by simp;omega,show decide (64<(W:Int))=false by simp;omega]
 rfl
theorem PC {W:Nat} (h:1≤W∧W≤64):Good ((W:Int),[],-1,0,[]) W 0 [] where
 wide:=rfl
 w1:=h
 m4:=by omega
 inv:=⟨by simp,fun i=>by simp;try omega,fun i=>by simp [rf,idx],fun i _=>by simp [rf,idx],by simp,by simp,by simp⟩
 root:= .inl ⟨rfl,rfl⟩
 long:=by simp
 refs:=fun j=>by simp [rf,idx]
 many:=rfl
theorem Ca {d:D} {F Z A X T:List Int} {W:Nat} (I:Inv d.2.1 F Z A X T W) {w:List Int} (hw:w.length<1099511627776): ∀ (q p:List Int),w=p++q→ ∀ at_:Int,(at_= -1∨ ∃ h,At d.2.1 A h at_)→ ∀ n,q.length<n→
  ∃ r,aq (l6 d w) n (at_,(p.length:Int))=some (((w.length:Int)==d.1&&decide (0<d.1))&&r)∧(∀ h,At d.2.1 A h at_→q.length=h→(r=true↔acc d.2.1 q at_))∧(at_= -1→r=false)
 | [],p,h,at_,ha,n,hn=>by
  obtain ⟨n,rfl⟩: ∃ k,n=k+1:=⟨n-1,by simp at hn;omega⟩
  rw [aE]
  unfold l6
  dsimp only
  rw [cT h,cond_false]
  refine ⟨at_ != -1,rfl,fun h a _=> ?_,fun h=>by simp [h]⟩
  have:=I.range a.mem
  simp only [acc,iff_true,bne_iff_ne,ne_eq];omega
 | b::q,p,h,at_,ha,n,hn=>by
  obtain ⟨n,rfl⟩: ∃ k,n=k+1:=⟨n-1,by simp at hn;omega⟩
  rw [aE]
  have hp:p.length<1099511627776:=by rw [h] at hw;simp at hw;omega
  have go: ∀ at2:Int,(at2= -1∨ ∃ h,At d.2.1 A h at2)→ql d at_ b=some at2→(∀ h,At d.2.1 A (h+1) at_→(at2= -1∧ ∀ e∈nx d.2.1 at_,e.1≠b)∨((b,at2)∈nx d.2.1 at_∧At d.2.1 A h at2))→(at_= -1→at2= -1)→
    ∃ r,l6 d w (aq (l6 d w) n) (at_,(p.length:Int))=some (((w.length:Int)==d.1&&decide (0<d.1))&&r)∧(∀ h,At d.2.1 A h at_→(b::q).length=h→(r=true↔acc d.2.1 (b::q) at_))∧(at_= -1→r=false):=by
   intro at2 ha2 hto hk hneg
   obtain ⟨r,h1,h2,h3⟩:=Ca I hw q (p++[b]) (by rw [h];simp) at2 ha2 n (by simp at hn;omega)
   refine ⟨r,?_,fun k a hq=> ?_,fun h=>h3 (hneg h)⟩
   ·unfold l6
    dsimp only
    rw [cj h,cond_true,vZ h]
    simp only [ab]
    rw [hto]
    simp only [ab]
    rw [ry (by omega),show ((p.length+1:Nat):Int)=((p++[b]).length:Int) by simp]
    exact h1
   ·obtain ⟨k,rfl⟩: ∃ j,k=j+1:=⟨k-1,by simp at hq;omega⟩
    rcases hk k a with ⟨rfl,hno⟩ | ⟨he,a2⟩
    ·rw [h3 rfl]
     simp only [Bool.false_eq_true,false_iff]
     rintro ⟨e,he,heb,_⟩
     exact hno e he heb
    ·rw [h2 k a2 (by simpa using hq),BX a.2.2.1 he rfl]
  by_cases h0:at_= -1
  ·subst h0
   exact go (-1) (.inl rfl) rfl (fun h a=>by have:=I.range a.mem;omega) (fun _=>rfl)
  ·obtain ⟨k,a⟩:=ha.resolve_left h0
   have hm:=I.range a.mem
   have hl:=oY a.zZ
   rcases Sv (d:=d) b hm.1 hm.2 a.zZ (by omega) with ⟨e,he,heb,hto⟩ | ⟨hno,hto⟩
   ·obtain ⟨k,rfl⟩: ∃ j,k=j+1:=by
     cases k with
     | zero=>rw [a.2] at he;cases he
     | succ j=>exact ⟨j,rfl⟩
    exact go e.2 (.inr ⟨k,a.2.2.2 e he⟩) hto (fun k' a'=> .inr ⟨by rw [← heb];exact he,a'.2.2.2 e he⟩) (fun h=>absurd h h0)
   ·exact go (-1) (.inl rfl) hto (fun k' a'=> .inl ⟨rfl,hno⟩) (fun h=>absurd h h0)
theorem O3 {d:D} {W m:Nat} {A:List Int} (G:Good d W m A) {w:List Int} (hw:w.length<1099511627776): ∃ r,iI d w=some r∧(r=true↔w.length=W∧tW d w):=by
 have hr:=G.root
 obtain ⟨r,h1,h2,h3⟩:=Ca (d:=d) G.inv hw w [] rfl d.2.2.1 (by rcases hr with h | h;exact .inl h.1;exact .inr ⟨W,h⟩) au (by show _<2^64;omega)
 refine ⟨_,h1,?_⟩
 have:=G.w1
 rw [G.wide]
 simp only [Bool.and_eq_true,beq_iff_eq,decide_eq_true_eq]
 constructor
 ·rintro ⟨⟨hl,_⟩,hr1⟩
  have hl:w.length=W:=by omega
  refine ⟨hl,?_⟩
  rcases hr with h | h
  ·rw [h3 h.1] at hr1;cases hr1
  ·have:=G.inv.range h.mem
   exact ⟨by omega,(h2 W h hl).1 hr1⟩
 ·rintro ⟨hl,h0,ha⟩
  refine ⟨⟨by omega,by omega⟩,(h2 W (hr.resolve_left fun h=>h0 h.1) hl).2 ha⟩
theorem UP {l:List Nd} (h:l.length<1000000000):cd l=some l:=by
 unfold cd
 rw [So.aG (So.bg (by omega) (by omega))]
theorem Pm {d:D} {W m:Nat} {A:List Int} (G:Good d W m A) (hm:m<2097152) {w:List Int} (hb: ∀ b∈w,0≤b∧b<256) (hl:w.length<1099511627776):
  (w.length≠W∧cZ d w=some (d,false,1))∨(w.length=W∧tW d w∧cZ d w=some (d,false,0))∨
  (w.length=W∧ ¬ tW d w∧ ∃ d' A',cZ d w=some (d',true,0)∧Good d' W (m+1) A'∧ ∀ v,v.length=W→(tW d' v↔v=w∨tW d v)):=by
 have hW:=G.w1
 obtain ⟨r,hr,hrt⟩:=O3 G hl
 by_cases hlen: ¬ w.length=W
 ·left
  refine ⟨hlen,?_⟩
  unfold cZ
  simp only [aP]
  rw [G.wide,show ((w.length:Int) != (W:Int))=true by simp only [bne_iff_ne,ne_eq];omega]
  rfl
 replace hlen:w.length=W:=Decidable.not_not.1 hlen
 right
 have pre:cZ d w=(iI d w).bind fun r21=>bif r21 then (some (d,false,0)) else ((cd d.2.1).bind fun r32=>
   (dw d.2.2.2.2).bind fun r37=>
   (oM d.2.2.1 w d.1 r32 d.2.2.1 d.2.2.2.1 r37 (some []:(Option (List (Int×Bool))))).bind fun r44=>
   (idx r44.2.1 r44.1).bind fun e54=>
   (idx r44.2.1 r44.1).bind fun e60=>
   bif (d.2.2.1 != (-1)) then (
   (l8 d.2.2.1 d.1 (List.set r44.2.1 (Int.toNat r44.1) (e60.1,(IntKind.i64.wrap (e54.2+1)))) r44.1 d.2.2.2.1 r44.2.2.1 r44.2.2.2).bind fun r75=>
   qt d r44 r75.1 r75.2)
   else (
   qt d r44 (List.set r44.2.1 (Int.toNat r44.1) (e60.1,(IntKind.i64.wrap (e54.2+1)))) r44.2.2.1)):=by
  unfold cZ
  simp only [aP]
  rw [G.wide,show ((w.length:Int) != (W:Int))=false by simp;omega,show ((W:Int)==0)=false by simp;omega]
  rfl
 rw [pre,hr]
 simp only [ab]
 by_cases ht:tW d w
 ·left
  exact ⟨hlen,ht,by rw [hrt.2 ⟨hlen,ht⟩];rfl⟩
 right
 refine ⟨hlen,ht,?_⟩
 have hrf:r=false:=by
  rw [← Bool.not_eq_true];intro h;exact ht (hrt.1 h).2
 rw [hrf,cond_false]
 have hN:=G.long
 have hR:=G.refs
 have hF:=G.inv.HN
 rw [UP (by omega),So.ab,So.EY (by omega),So.ab]
 have hroot:d.2.2.1= -1∨At d.2.1 A w.length d.2.2.1:=by
  rcases G.root with h | h
  ·exact .inl h.1
  ·exact .inr (by rw [hlen];exact h)
 obtain ⟨r,N',F',y',A',h1,h2,h3,h4,h5,h6,h7,h8,h9⟩:=OJ (W:=W) d.1 d.2.2.1 d.2.2.2.1 w d.2.2.1 d.2.1 d.2.2.2.2 A [] hb (by omega) hroot G.inv (fun i h=>by simp [dL,kS] at h) (fun i hi h0=>absurd (G.inv.top i hi h0) (by simp)) (by omega) (fun j=>by have:=hR j;omega) au (by show _<2^64;omega)
 rw [put_eq,h1]
 simp only [ab]
 have hrA:=h4.mem
 have hir:=h2.range hrA
 rw [qh hir.1 hir.2]
 simp only [ab]
 have hrr:=h8 r
 have hrr2:=hR r
 have hrr3:=h2.pos r
 rw [w64 (x:=rf N' r+1) (by omega)]
 have n1:nx (N'.set r.toNat (nx N' r,rf N' r+1))=nx N':=by
  funext j;rw [yG hir.1 hir.2];split
  ·rename_i h;rw [h]
  ·rfl
 have r1: ∀ j,rf (N'.set r.toNat (nx N' r,rf N' r+1)) j=if j=r then rf N' r+1 else rf N' j:=fun j=>by rw [yF hir.1 hir.2]
 have l1:(N'.set r.toNat (nx N' r,rf N' r+1)).length=N'.length:=by simp
 have t1:tg (N'.set r.toNat (nx N' r,rf N' r+1))=tg N':=by unfold tg;rw [n1]
 have n1': ∀ j,nx (N'.set r.toNat (nx N' r,rf N' r+1)) j=nx N' j:=fun j=>by rw [n1]
 generalize N'.set r.toNat (nx N' r,rf N' r+1)=N1 at*
 -- one more leads to the new root
 have I1:Inv N1 F' [] A' (r::(if d.2.2.1= -1 then [] else [d.2.2.1])) [] W:=⟨h2.nd,fun j=>by rw [l1];exact h2.rng j,fun j=>by
   rw [r1,t1]
   have hc:=h2.cnt j
   rw [List.count_append] at hc
   rw [List.count_append,List.count_cons]
   split
   ·rename_i h;subst h;simp;omega
   ·rename_i h
    have:(r==j)=false:=by simp;exact fun e=>h e.symm
    rw [this];simp;omega,fun j hj=>by
   rw [r1,if_neg (fun h=>hj (by rw [h];exact hrA))];exact h2.dead j hj,fun j hj h=>by
   rw [r1] at h
   have:=h2.pos j
   split at h
   ·omega
   ·rename_i hne
    have:=h2.top j hj h
    simp at this;exact absurd this hne,fun u hu v hv h=>by rw [n1] at h;exact h2.dist u hu v hv h,fun j hj=>by
   obtain ⟨k,hk,a⟩:=h2.good j hj
   exact ⟨k,hk,a.grow (fun _ h=>h) fun j _=>n1' j⟩⟩
 have a1:At N1 A' w.length r:=h4.grow (fun _ h=>h) fun j _=>n1' j
 have hr0:r≠ -1:=by omega
 have acc1: ∀ v:List Int,v.length=w.length→(acc N1 v r↔v=w∨tW d v):=fun v hv=>by
  rw [acc.same (A:=A') (N:=N') (fun j _=>n1' j) h4 hv];exact h9 v hv
 have mm:IntKind.i64.wrap (d.2.2.2.1+1)=((m+1:Nat):Int):=by rw [G.many,w64 (by omega)];omega
 by_cases h0:d.2.2.1= -1
 ·rw [show (d.2.2.1 != -1)=false by simp [h0],cond_false]
  refine ⟨(d.1,N1,r,IntKind.i64.wrap (d.2.2.2.1+1),F'),A',rfl,⟨G.wide,hW,by omega,?_,.inr (by rw [← hlen];exact a1),by simp only [];omega,fun j=> ?_,mm⟩,fun v hv=> ?_⟩
  ·simp only [if_neg hr0]
   simp only [if_pos h0] at I1
   exact I1
  ·simp only []
   rw [r1]
   have:=h8 j;have:=hR j
   split <;> omega
  ·show (r≠ -1∧acc N1 v r)↔_
   rw [acc1 v (by omega)]
   exact ⟨fun h=>h.2,fun h=>⟨hr0,h⟩⟩
 ·rw [show (d.2.2.1 != -1)=true by simpa [bne_iff_ne] using h0,cond_true]
  simp only [if_neg h0] at I1
  have aR:=G.root.resolve_left fun h=>h0 h.1
  have aR1:At N1 A' W d.2.2.1:=aR.grow (fun j hj=>(h3 j hj).1) fun j hj=>by rw [n1,(h3 j hj).2]
  have I2:Inv N1 F' [] A' (d.2.2.1::[r]) [] W:=I1.perm (List.Perm.swap r d.2.2.1 [])
  obtain ⟨N2,F2,A2,g1,g2,g3,g4,g5⟩:=PK (W:=W) (wi:=d.1) (ro:=r) (ma:=d.2.2.2.1) (y:=some y') W au (by show _<2^64;omega) d.2.2.1 N1 F' [] A' [r] aR1 I2 (by omega) (fun j=>by rw [r1];have:=h8 j;have:=hR j;split <;> omega)
  rw [Qn,g1]
  have rA2:=g2.ext (i:=r) (by simp)
  have a2:At N2 A2 W r:=by
   rw [← hlen]
   exact a1.bm (fun j hj _=>(g4 j hj).2) (fun j hj _ e he _=>g2.closed hj (by rw [(g4 j hj).2];exact he)) rA2
  have acc2: ∀ v:List Int,v.length=W→(acc N1 v r↔acc N2 v r):=fun v hv=>acc.same (N:=N2) (N':=N1) (A:=A2) (fun j hj=>(g4 j hj).2.symm) a2 hv
  refine ⟨(d.1,N2,r,IntKind.i64.wrap (d.2.2.2.1+1),F2),A2,rfl,⟨G.wide,hW,by omega,?_,.inr a2,by simp only [];omega,fun j=> ?_,mm⟩,fun v hv=> ?_⟩
  ·simp only [if_neg hr0];exact g2
  ·simp only []
   have g:=g5 j
   rw [r1] at g
   have:=h8 j;have:=hR j
   split at g <;> omega
  ·show (r≠ -1∧acc N2 v r)↔_
   rw [← acc2 v hv,acc1 v (by omega)]
   exact ⟨fun h=>h.2,fun h=>⟨hr0,h⟩⟩
end Df
end Go.Proofs.YtgcgmclghbebjaaGreat
namespace Go.Proofs.YtgcgmclghbebjaaGreat
namespace So
/-! sets of words -/
noncomputable def DS (d:Df.D) (W:Nat) (L:List (List Int)):Prop:= ∃ A,Df.Good d W L.length A∧ ∀ w,w.length=W→(Df.tW d w↔w∈L)
theorem Jo {W:Nat} (h:1≤W∧W≤64):DS ((W:Int),[],-1,0,[]) W []:=
 ⟨[],Df.PC h,fun w _=>⟨fun h=>absurd rfl h.1,fun h=>by simp at h⟩⟩
theorem Da {d:Df.D} {W:Nat} {L:List (List Int)} (h:DS d W L) {w:List Int} (hw:w.length=W):iI d w=some (decide (w∈L)):=by
 obtain ⟨A,G,ht⟩:=h
 have:=G.w1
 obtain ⟨r,h1,h2⟩:=Df.O3 G (w:=w) (by omega)
 rw [h1]
 congr 1
 rw [Bool.eq_iff_iff,h2,decide_eq_true_eq,ht w hw]
 exact ⟨fun h=>h.2,fun h=>⟨hw,h⟩⟩
theorem VK {d:Df.D} {W:Nat} {L:List (List Int)} (h:DS d W L) {w:List Int} (hw:w.length=W) (hb:By w) (hm:w∈L) (hl:L.length<2097152):cZ d w=some (d,false,0):=by
 obtain ⟨A,G,ht⟩:=h
 have:=G.w1
 rcases Df.Pm G hl (w:=w) (fun b hb'=>by have:=hb b hb';omega) (by omega) with ⟨h1,_⟩ | ⟨_,_,h2⟩ | ⟨_,h2,_⟩
 ·exact absurd hw h1
 ·exact h2
 ·exact absurd ((ht w hw).2 hm) h2
theorem NN {d:Df.D} {W:Nat} {L:List (List Int)} (h:DS d W L) {w:List Int} (hw:w.length=W) (hb:By w) (hm:w∉L) (hl:L.length<2097152): ∃ d',cZ d w=some (d',true,0)∧DS d' W (L++[w]):=by
 obtain ⟨A,G,ht⟩:=h
 have:=G.w1
 rcases Df.Pm G hl (w:=w) (fun b hb'=>by have:=hb b hb';omega) (by omega) with ⟨h1,_⟩ | ⟨_,h1,_⟩ | ⟨_,_,d',A',h2,h3,h4⟩
 ·exact absurd hw h1
 ·exact absurd ((ht w hw).1 h1) hm
 ·refine ⟨d',h2,A',by simpa using h3,fun v hv=> ?_⟩
  rw [h4 v hv,ht v hv,List.mem_append,List.mem_singleton]
  exact Or.comm
theorem Kr {d:Df.D} {W:Nat} {L:List (List Int)} (h:DS d W L):sU d=some (L.length:Int):=by
 obtain ⟨A,G,_⟩:=h
 unfold sU;rw [G.many]
/-! the store of words -/
abbrev Wo:=Df.D×Df.D×Df.D
noncomputable def FlD (s:List Fd) (d:Df.D) (V:List (List Int)) (p:List Int→Bool):Prop:= ∃ F:List (List Int),DS d (cm s) (F.map (enc s))∧F.Nodup∧(∀ v,v∈F↔p v=true)∧ ∀ v∈F,v∈V
structure OkW (s:List Fd) (cap:Int) (t:Wo) (V:List (List Int)) (g:Gf):Prop where
 cap1:cap≤1048576
 few:(V.length:Int)≤cap
 ins: ∀ v∈V,In s v
 nd:V.Nodup
 d0:DS t.1 (cm s) (V.map (enc s))
 d1:FlD s t.2.1 V (g false)
 d2:FlD s t.2.2 V (g true)
theorem K7 {s:List Fd} (hs:Fds s):1≤cm s∧cm s≤64:=by
 have:=jo hs;have:=hs.few
 unfold cm;omega
theorem FlD.add {s:List Fd} {d:Df.D} {V:List (List Int)} {p:List Int→Bool} (h:FlD s d V p) (v:List Int):FlD s d (V++[v]) p:=by
 obtain ⟨F,h1,h2,h3,h4⟩:=h
 exact ⟨F,h1,h2,h3,fun u hu=>List.mem_append_left _ (h4 u hu)⟩
theorem FlD.has {s:List Fd} {d:Df.D} {V:List (List Int)} {p:List Int→Bool} (hV: ∀ v∈V,In s v) (h:FlD s d V p) {v:List Int} (hv:In s v):iI d (enc s v)=some (p v):=by
 obtain ⟨F,h1,h2,h3,h4⟩:=h
 rw [Da h1 (nP hv.len)]
 congr 1
 rw [Bool.eq_iff_iff,decide_eq_true_eq,nG (fun u hu=>hV u (h4 u hu)) hv,h3]
theorem FlD.set {s:List Fd} {d:Df.D} {V:List (List Int)} {p:List Int→Bool} (hV: ∀ v∈V,In s v) (hl:V.length<2097152) (h:FlD s d V p) {v:List Int} (hv:In s v) (hm:v∈V):
  ∃ d' b,cZ d (enc s v)=some (d',b,0)∧FlD s d' V (fun u=>p u||u==v):=by
 obtain ⟨F,h1,h2,h3,h4⟩:=h
 have hF:=DA h2 h4
 by_cases hp:v∈F
 ·refine ⟨d,false,VK h1 (nP hv.len) (Cs s v) (List.mem_map.2 ⟨v,hp,rfl⟩) (by simp;omega),F,h1,h2,fun u=> ?_,h4⟩
  rw [Bool.or_eq_true,beq_iff_eq,h3]
  exact ⟨.inl,fun h=>h.elim id fun e=>e▸(h3 v).1 hp⟩
 ·obtain ⟨d',e1,e2⟩:=NN h1 (nP hv.len) (Cs s v) (by rw [nG (fun u hu=>hV u (h4 u hu)) hv];exact hp) (by simp;omega)
  refine ⟨d',true,e1,F++[v],by simpa using e2,List.nodup_append.2 ⟨h2,by simp,fun a ha b hb=>by simp at hb;subst hb;exact fun e=>hp (e▸ha)⟩,fun u=> ?_,fun u hu=> ?_⟩
  ·rw [Bool.or_eq_true,beq_iff_eq,List.mem_append,List.mem_singleton,h3]
  ·rcases List.mem_append.1 hu with hu | hu
   ·exact h4 u hu
   ·simp at hu;subst hu;exact hm
/-! all lossless stores -/
abbrev St:=Int×List Fd×Int×Fl×Co×Tr×Wo×(Int×Int×Int×(List Int×List Int×List Int))
structure OkS (t:St) (s:List Fd) (cap:Int) (V:List (List Int)) (g:Gf):Prop where
 sch:t.2.1=s
 cap_:t.2.2.1=cap
 kind:(t.1=0∧OkF s t.2.2.2.1 V g∧t.2.2.2.1.1.1=cap)∨(t.1=1∧OkC s cap t.2.2.2.2.1 V g)∨(t.1=2∧OkT s cap t.2.2.2.2.2.1 V g)∨(t.1=3∧OkW s cap t.2.2.2.2.2.2.1 V g)
theorem nW {t:St} {s:List Fd} (hs:Fds s) (ht:t.2.1=s) {v:List Int} (hv:In s v):bX t v=some (enc s v):=by
 unfold bX
 rw [ht,yL hs hv,ab]
theorem H7 {t:St} {v:List Int} (hin:bV t.2.1 v=some 0):
  (t.1=0→aZ t v=fM () t v)∧(t.1=1→aZ t v=fj () t v)∧(t.1=2→aZ t v=fi () t v)∧(t.1=3→aZ t v=fJ () t v)∧(t.1=4→aZ t v=fI () t v):=by
 have eta: ∀ x:Option (St×Bool×Int),(x.bind fun r=>some (r.1,r.2.1,r.2.2))=x:=fun x=>by cases x <;> rfl
 have k: ∀ n:Nat,aV t=some n→aZ t v=(bif (Nat.beq n 133) then fM () t v else bif (Nat.beq n 134) then fj () t v else bif (Nat.beq n 135) then fi () t v else bif (Nat.beq n 136) then fJ () t v else bif (Nat.beq n 137) then fI () t v else none):=by
  intro n hn
  unfold aZ
  rw [hin,ab,show ((0:Int) != 0)=false from rfl,cond_false,hn,ab,eta,eta,eta,eta,eta]
 refine ⟨fun h=> ?_,fun h=> ?_,fun h=> ?_,fun h=> ?_,fun h=> ?_⟩
 ·rw [k 133 (by unfold aV aC;rw [h];rfl)];rfl
 ·rw [k 134 (by unfold aV aC;rw [h];rfl)];rfl
 ·rw [k 135 (by unfold aV aC;rw [h];rfl)];rfl
 ·rw [k 136 (by unfold aV aC;rw [h];rfl)];rfl
 ·rw [k 137 (by unfold aV aC;rw [h];rfl)];rfl
theorem HO {t:St} {v:List Int} (hin:bV t.2.1 v=some 0):
  (t.1=0→bu t v=(fL () t v).bind fun r=>some (r,0))∧(t.1=1→bu t v=(fv () t v).bind fun r=>some (r,0))∧(t.1=2→bu t v=(fm () t v).bind fun r=>some (r,0))∧(t.1=3→bu t v=(fF () t v).bind fun r=>some (r,0))∧(t.1=4→bu t v=(fE () t v).bind fun r=>some (r,0)):=by
 have k: ∀ n:Nat,aV t=some n→bu t v=(bif (Nat.beq n 133) then (fL () t v).bind fun r=>some (r,0) else bif (Nat.beq n 134) then (fv () t v).bind fun r=>some (r,0) else bif (Nat.beq n 135) then (fm () t v).bind fun r=>some (r,0) else bif (Nat.beq n 136) then (fF () t v).bind fun r=>some (r,0) else bif (Nat.beq n 137) then (fE () t v).bind fun r=>some (r,0) else none):=by
  intro n hn
  unfold bu
  rw [hin,ab,show ((0:Int) != 0)=false from rfl,cond_false,hn,ab]
 refine ⟨fun h=> ?_,fun h=> ?_,fun h=> ?_,fun h=> ?_,fun h=> ?_⟩
 ·rw [k 133 (by unfold aV aC;rw [h];rfl)];rfl
 ·rw [k 134 (by unfold aV aC;rw [h];rfl)];rfl
 ·rw [k 135 (by unfold aV aC;rw [h];rfl)];rfl
 ·rw [k 136 (by unfold aV aC;rw [h];rfl)];rfl
 ·rw [k 137 (by unfold aV aC;rw [h];rfl)];rfl
theorem GV {t:St} {v:List Int} (f:Int) (hin:bV t.2.1 v=some 0):
  (t.1=0→cC t v f=iN () t v f)∧(t.1=1→cC t v f=gS () t v f)∧(t.1=2→cC t v f=gT () t v f)∧(t.1=3→cC t v f=je () t v f)∧(t.1=4→cC t v f=iJ () t v f):=by
 have eta: ∀ x:Option (St×Int),(x.bind fun r=>some (r.1,r.2))=x:=fun x=>by cases x <;> rfl
 have k: ∀ n:Nat,aV t=some n→cC t v f=(bif (Nat.beq n 133) then iN () t v f else bif (Nat.beq n 134) then gS () t v f else bif (Nat.beq n 135) then gT () t v f else bif (Nat.beq n 136) then je () t v f else bif (Nat.beq n 137) then iJ () t v f else none):=by
  intro n hn
  unfold cC
  rw [hin,ab,show ((0:Int) != 0)=false from rfl,cond_false,hn,ab,eta,eta,eta,eta,eta]
 refine ⟨fun h=> ?_,fun h=> ?_,fun h=> ?_,fun h=> ?_,fun h=> ?_⟩
 ·rw [k 133 (by unfold aV aC;rw [h];rfl)];rfl
 ·rw [k 134 (by unfold aV aC;rw [h];rfl)];rfl
 ·rw [k 135 (by unfold aV aC;rw [h];rfl)];rfl
 ·rw [k 136 (by unfold aV aC;rw [h];rfl)];rfl
 ·rw [k 137 (by unfold aV aC;rw [h];rfl)];rfl
theorem Hz {t:St} {v:List Int} (f:Int) (hin:bV t.2.1 v=some 0):
  (t.1=0→bU t v f=iX () t v f)∧(t.1=1→bU t v f=gP () t v f)∧(t.1=2→bU t v f=ig () t v f)∧(t.1=3→bU t v f=ja () t v f)∧(t.1=4→bU t v f=iU () t v f):=by
 have eta: ∀ x:Option (Bool×Int),(x.bind fun r=>some (r.1,r.2))=x:=fun x=>by cases x <;> rfl
 have k: ∀ n:Nat,aV t=some n→bU t v f=(bif (Nat.beq n 133) then iX () t v f else bif (Nat.beq n 134) then gP () t v f else bif (Nat.beq n 135) then ig () t v f else bif (Nat.beq n 136) then ja () t v f else bif (Nat.beq n 137) then iU () t v f else none):=by
  intro n hn
  unfold bU
  rw [hin,ab,show ((0:Int) != 0)=false from rfl,cond_false,hn,ab,eta,eta,eta,eta,eta]
 refine ⟨fun h=> ?_,fun h=> ?_,fun h=> ?_,fun h=> ?_,fun h=> ?_⟩
 ·rw [k 133 (by unfold aV aC;rw [h];rfl)];rfl
 ·rw [k 134 (by unfold aV aC;rw [h];rfl)];rfl
 ·rw [k 135 (by unfold aV aC;rw [h];rfl)];rfl
 ·rw [k 136 (by unfold aV aC;rw [h];rfl)];rfl
 ·rw [k 137 (by unfold aV aC;rw [h];rfl)];rfl
theorem Fp {t:St}:
  (t.1=0→bZ t=gN () t)∧(t.1=1→bZ t=gm () t)∧(t.1=2→bZ t=gb () t)∧(t.1=3→bZ t=ij () t)∧(t.1=4→bZ t=gQ () t):=by
 have eta: ∀ x:Option Int,(x.bind fun r=>some r)=x:=fun x=>by cases x <;> rfl
 have k: ∀ n:Nat,aV t=some n→bZ t=(bif (Nat.beq n 133) then gN () t else bif (Nat.beq n 134) then gm () t else bif (Nat.beq n 135) then gb () t else bif (Nat.beq n 136) then ij () t else bif (Nat.beq n 137) then gQ () t else none):=by
  intro n hn
  unfold bZ
  rw [hn,ab,eta,eta,eta,eta,eta]
 refine ⟨fun h=> ?_,fun h=> ?_,fun h=> ?_,fun h=> ?_,fun h=> ?_⟩
 ·rw [k 133 (by unfold aV aC;rw [h];rfl)];rfl
 ·rw [k 134 (by unfold aV aC;rw [h];rfl)];rfl
 ·rw [k 135 (by unfold aV aC;rw [h];rfl)];rfl
 ·rw [k 136 (by unfold aV aC;rw [h];rfl)];rfl
 ·rw [k 137 (by unfold aV aC;rw [h];rfl)];rfl
theorem in0 {t:St} {s:List Fd} (hs:Fds s) (ht:t.2.1=s) {v:List Int} (hv:In s v):bV t.2.1 v=some 0:=by
 have:=hs.few;have:=hv.len
 rw [ht,jz s v (by omega),ed.2 hv]
noncomputable def yP (s:List Fd) (cap:Int) (V:List (List Int)) (v:List Int):List (List Int)×Bool×Int:=if inC s v=0 then oh cap V v else (V,false,inC s v)
noncomputable def Na (s:List Fd) (V:List (List Int)) (v:List Int):Bool×Int:=if inC s v=0 then (decide (v∈V),0) else (false,inC s v)
noncomputable def lj (s:List Fd) (V:List (List Int)) (v:List Int) (flag:Int):Int:=if inC s v=0 then cq V v flag else inC s v
noncomputable def Nh (s:List Fd) (V:List (List Int)) (g:Gf) (v:List Int) (flag:Int):Gf:=if lj s V v flag=0 then upd g (flag==1) v else g
noncomputable def Mi (s:List Fd) (V:List (List Int)) (g:Gf) (v:List Int) (flag:Int):Bool:=if lj s V v flag=0 then g (flag==1) v else false
theorem Vd {s:List Fd} (hs:ey s) {t:St} {cap:Int} {V:List (List Int)} {g:Gf} (h:OkS t s cap V g) (v:List Int) (hl:v.length<100000000):
  ∃ t',aZ t v=some (t',(yP s cap V v).2)∧OkS t' s cap (yP s cap V v).1 g∧t'.1=t.1:=by
 unfold yP
 by_cases hc:inC s v=0
 ·rw [if_pos hc]
  have hv:=ed.1 hc
  have hin:=in0 hs.fds h.sch hv
  have hk:=nW hs.fds h.sch hv
  obtain ⟨k0,k1,k2,k3,_⟩:=H7 hin
  rcases h.kind with ⟨e,ok,hcap⟩ | ⟨e,ok⟩ | ⟨e,ok⟩ | ⟨e,ok⟩
  ·rw [k0 e]
   unfold fM
   obtain ⟨f,h1,h2,h3⟩:=Mc hs.fds ok hv
   rw [hcap] at h1 h2 h3
   rw [hk,ab,h1,ab]
   exact ⟨_,rfl,⟨h.sch,h.cap_,.inl ⟨e,h2,h3⟩⟩,rfl⟩
  ·rw [k1 e]
   unfold fj
   obtain ⟨f,h1,h2⟩:=Mq hs.fds ok hv
   rw [h.sch,h1,ab]
   exact ⟨_,rfl,⟨rfl,h.cap_,.inr (.inl ⟨e,h2⟩)⟩,rfl⟩
  ·rw [k2 e]
   unfold fi
   obtain ⟨f,h1,h2⟩:=LV hs ok hv
   rw [h.sch,h1,ab]
   exact ⟨_,rfl,⟨rfl,h.cap_,.inr (.inr (.inl ⟨e,h2⟩))⟩,rfl⟩
  ·rw [k3 e]
   unfold fJ oh
   have hm:=nG ok.ins hv
   rw [hk,ab,Da ok.d0 (nP hv.len),ab]
   by_cases hV:v∈V
   ·rw [decide_eq_true (hm.2 hV),if_pos hV]
    exact ⟨t,rfl,h,rfl⟩
   ·rw [decide_eq_false (fun h'=>hV (hm.1 h')),if_neg hV,cond_false,Kr ok.d0,ab,h.cap_,List.length_map]
    by_cases hf:cap≤(V.length:Int)
    ·rw [decide_eq_true hf,if_pos hf]
     exact ⟨t,rfl,h,rfl⟩
    ·have h1:=ok.cap1;have h2:=ok.few
     rw [decide_eq_false hf,if_neg hf,cond_false]
     obtain ⟨d',e1,e2⟩:=NN ok.d0 (nP hv.len) (Cs s v) (fun h'=>hV (hm.1 h')) (by simp;omega)
     rw [e1,ab]
     refine ⟨_,rfl,⟨h.sch,rfl,.inr (.inr (.inr ⟨e,⟨h1,by simp;omega,fun u hu=> ?_,?_,by simpa using e2,ok.d1.add v,ok.d2.add v⟩⟩))⟩,rfl⟩
     ·rcases List.mem_append.1 hu with hu | hu
      ·exact ok.ins u hu
      ·simp at hu;subst hu;exact hv
     ·exact List.nodup_append.2 ⟨ok.nd,by simp,fun a ha b hb=>by simp at hb;subst hb;exact fun e=>hV (e▸ha)⟩
 ·rw [if_neg hc]
  unfold aZ
  rw [h.sch,jz s v hl,ab,show (inC s v != 0)=true by simpa using hc,cond_true]
  exact ⟨t,rfl,h,rfl⟩
theorem Va {s:List Fd} (hs:ey s) {t:St} {cap:Int} {V:List (List Int)} {g:Gf} (h:OkS t s cap V g) (v:List Int) (hl:v.length<100000000):bu t v=some (Na s V v):=by
 unfold Na
 by_cases hc:inC s v=0
 ·rw [if_pos hc]
  have hv:=ed.1 hc
  have hin:=in0 hs.fds h.sch hv
  have hk:=nW hs.fds h.sch hv
  obtain ⟨k0,k1,k2,k3,_⟩:=HO hin
  rcases h.kind with ⟨e,ok,hcap⟩ | ⟨e,ok⟩ | ⟨e,ok⟩ | ⟨e,ok⟩
  ·rw [k0 e]
   unfold fL
   rw [hk,ab,Nx hs.fds ok hv,ab,ab]
  ·rw [k1 e]
   unfold fv
   rw [h.sch,NA hs.fds ok hv,ab,ab]
  ·rw [k2 e]
   unfold fm
   rw [h.sch,LJ hs ok hv,ab,ab]
  ·rw [k3 e]
   unfold fF
   rw [hk,ab,Da ok.d0 (nP hv.len),ab,ab]
   congr 2
   rw [decide_eq_decide];exact nG ok.ins hv
 ·rw [if_neg hc]
  unfold bu
  rw [h.sch,jz s v hl,ab,show (inC s v != 0)=true by simpa using hc,cond_true]
theorem Uo {s:List Fd} {t:St} {cap:Int} {V:List (List Int)} {g:Gf} (h:OkS t s cap V g):bZ t=some (V.length:Int):=by
 obtain ⟨k0,k1,k2,k3,_⟩:=Fp (t:=t)
 rcases h.kind with ⟨e,ok,hcap⟩ | ⟨e,ok⟩ | ⟨e,ok⟩ | ⟨e,ok⟩
 ·rw [k0 e]
  unfold gN zr iQ
  rw [ab,ab,ok.len]
 ·rw [k1 e]
  unfold gm
  rw [Bb ok,ab]
 ·rw [k2 e]
  unfold gb
  rw [JK ok,ab]
 ·rw [k3 e]
  unfold ij
  rw [Kr ok.d0,ab,List.length_map]
theorem CE {s:List Fd} (hs:Fds s) {t:St} (ht:t.2.1=s) {cap:Int} {V:List (List Int)} {g:Gf} (ok:OkW s cap t.2.2.2.2.2.2.1 V g) {v:List Int} (hv:In s v) (flag:Int):kK t v flag=some (cq V v flag):=by
 unfold kK cq
 simp only [aP]
 rcases oX flag with hb | hb
 ·rw [if_pos hb,show (decide (flag<0)||decide (1<flag))=true by simpa using hb,cond_true]
 ·rw [if_neg (show ¬ (flag<0∨1<flag) by omega),show (decide (flag<0)||decide (1<flag))=false by rcases hb with rfl | rfl <;> rfl,cond_false,nW hs ht hv,ab,Da ok.d0 (nP hv.len),ab]
  by_cases hm:v∈V
  ·rw [decide_eq_true ((nG ok.ins hv).2 hm),if_pos hm];rfl
  ·rw [decide_eq_false (fun h=>hm ((nG ok.ins hv).1 h)),if_neg hm];rfl
theorem VH {s:List Fd} (hs:ey s) {t:St} {cap:Int} {V:List (List Int)} {g:Gf} (h:OkS t s cap V g) (v:List Int) (hl:v.length<100000000) (flag:Int):
  ∃ t',cC t v flag=some (t',lj s V v flag)∧OkS t' s cap V (Nh s V g v flag)∧t'.1=t.1:=by
 unfold Nh lj
 by_cases hc:inC s v=0
 ·rw [if_pos hc]
  have hv:=ed.1 hc
  have hin:=in0 hs.fds h.sch hv
  have hk:=nW hs.fds h.sch hv
  obtain ⟨k0,k1,k2,k3,_⟩:=GV flag hin
  rcases h.kind with ⟨e,ok,hcap⟩ | ⟨e,ok⟩ | ⟨e,ok⟩ | ⟨e,ok⟩
  ·rw [k0 e]
   unfold iN
   obtain ⟨f,h1,h2,h3⟩:=ML hs.fds ok hv flag
   rw [hk,ab,h1,ab]
   exact ⟨_,rfl,⟨h.sch,h.cap_,.inl ⟨e,h2,h3.trans hcap⟩⟩,rfl⟩
  ·rw [k1 e]
   unfold gS
   obtain ⟨f,h1,h2⟩:=LZ hs.fds ok hv flag
   rw [h.sch,h1,ab]
   exact ⟨_,rfl,⟨rfl,h.cap_,.inr (.inl ⟨e,h2⟩)⟩,rfl⟩
  ·rw [k2 e]
   unfold gT
   obtain ⟨f,h1,h2⟩:=MW hs ok hv flag
   rw [h.sch,h1,ab]
   exact ⟨_,rfl,⟨rfl,h.cap_,.inr (.inr (.inl ⟨e,h2⟩))⟩,rfl⟩
  ·rw [k3 e]
   unfold je
   have h1:=ok.cap1;have h2:=ok.few
   rw [CE hs.fds h.sch ok hv,ab]
   by_cases hc0:cq V v flag=0
   ·rw [if_pos hc0,hc0,show ((0:Int) != 0)=false from rfl,cond_false]
    have hb:flag=0∨flag=1:=by
     rcases oX flag with hb | hb
     ·unfold cq at hc0;rw [if_pos hb] at hc0;omega
     ·exact hb
    have hm:v∈V:=Decidable.byContradiction fun hm=>by
     unfold cq at hc0;rw [if_neg (show ¬ (flag<0∨1<flag) by omega),if_neg hm] at hc0;omega
    rcases hb with rfl | rfl
    ·obtain ⟨d',b,e1,e2⟩:=ok.d1.set ok.ins (by omega) hv hm
     rw [show (IntKind.i64.wrap (1+0)==0)=false from rfl,show (IntKind.i64.wrap (1+0)==1)=true from rfl,cond_false,cond_true,hk,ab,e1,ab,cond_false,cond_true]
     refine ⟨_,rfl,⟨h.sch,h.cap_,.inr (.inr (.inr ⟨e,⟨h1,h2,ok.ins,ok.nd,ok.d0,?_,?_⟩⟩))⟩,rfl⟩
     ·show FlD s d' V (fun u=>g false u||(false==(0==1)&&u==v))
      simpa using e2
     ·show FlD s _ V (fun u=>g true u||(true==((0:Int)==1)&&u==v))
      simpa using ok.d2
    ·obtain ⟨d',b,e1,e2⟩:=ok.d2.set ok.ins (by omega) hv hm
     rw [show (IntKind.i64.wrap (1+1)==0)=false from rfl,show (IntKind.i64.wrap (1+1)==1)=false from rfl,show (IntKind.i64.wrap (1+1)==2)=true from rfl,cond_false,cond_false,cond_true,hk,ab,e1,ab,cond_false,cond_false,cond_true]
     refine ⟨_,rfl,⟨h.sch,h.cap_,.inr (.inr (.inr ⟨e,⟨h1,h2,ok.ins,ok.nd,ok.d0,?_,?_⟩⟩))⟩,rfl⟩
     ·show FlD s _ V (fun u=>g false u||(false==((1:Int)==1)&&u==v))
      simpa using ok.d1
     ·show FlD s d' V (fun u=>g true u||(true==((1:Int)==1)&&u==v))
      simpa using e2
   ·rw [if_neg hc0,show (cq V v flag != 0)=true by simpa using hc0,cond_true]
    exact ⟨t,rfl,h,rfl⟩
 ·rw [if_neg hc]
  unfold cC
  rw [h.sch,jz s v hl,ab,show (inC s v != 0)=true by simpa using hc,cond_true,if_neg hc]
  exact ⟨t,rfl,h,rfl⟩
theorem Vu {s:List Fd} (hs:ey s) {t:St} {cap:Int} {V:List (List Int)} {g:Gf} (h:OkS t s cap V g) (v:List Int) (hl:v.length<100000000) (flag:Int):
  bU t v flag=some (Mi s V g v flag,lj s V v flag):=by
 unfold Mi lj
 by_cases hc:inC s v=0
 ·rw [if_pos hc]
  have hv:=ed.1 hc
  have hin:=in0 hs.fds h.sch hv
  have hk:=nW hs.fds h.sch hv
  obtain ⟨k0,k1,k2,k3,_⟩:=Hz flag hin
  rcases h.kind with ⟨e,ok,hcap⟩ | ⟨e,ok⟩ | ⟨e,ok⟩ | ⟨e,ok⟩
  ·rw [k0 e]
   unfold iX
   rw [hk,ab,Lx hs.fds ok hv flag,ab];rfl
  ·rw [k1 e]
   unfold gP
   rw [h.sch,MI hs.fds ok hv flag,ab];rfl
  ·rw [k2 e]
   unfold ig
   rw [h.sch,ME hs ok hv flag,ab];rfl
  ·rw [k3 e]
   unfold ja
   rw [CE hs.fds h.sch ok hv,ab]
   by_cases hc0:cq V v flag=0
   ·rw [if_pos hc0,hc0,show ((0:Int) != 0)=false from rfl,cond_false]
    have hb:flag=0∨flag=1:=by
     rcases oX flag with hb | hb
     ·unfold cq at hc0;rw [if_pos hb] at hc0;omega
     ·exact hb
    rcases hb with rfl | rfl
    ·rw [show (IntKind.i64.wrap (1+0)==0)=false from rfl,show (IntKind.i64.wrap (1+0)==1)=true from rfl,cond_false,cond_true,hk,ab,ok.d1.has ok.ins hv,ab];rfl
    ·rw [show (IntKind.i64.wrap (1+1)==0)=false from rfl,show (IntKind.i64.wrap (1+1)==1)=false from rfl,show (IntKind.i64.wrap (1+1)==2)=true from rfl,cond_false,cond_false,cond_true,hk,ab,ok.d2.has ok.ins hv,ab];rfl
   ·rw [if_neg hc0,show (cq V v flag != 0)=true by simpa using hc0,cond_true]
 ·rw [if_neg hc]
  unfold bU
  rw [h.sch,jz s v hl,ab,show (inC s v != 0)=true by simpa using hc,cond_true,if_neg hc]
end So
end Go.Proofs.YtgcgmclghbebjaaGreat
namespace Go.Proofs.YtgcgmclghbebjaaGreat
namespace So
theorem HE {l:List Fd} (h:l.length<1000000000):cJ l=some l:=by
 unfold cJ
 rw [aG (bg (by omega) (by omega))]
abbrev Op:=Int×Int×Int×Int×Int×Int
noncomputable def Nr:St:=(0,[],0,((0,[],[]),[]),([],(0,[],[]),[]),([],[]),((0,[],0,0,[]),(0,[],0,0,[]),(0,[],0,0,[])),(0,0,0,([],[],[])))
noncomputable def m9 (s:List Fd) (o:Op):St:=(o.1,s,o.2.1,((0,[],[]),[]),([],(0,[],[]),[]),([],[]),((0,[],0,0,[]),(0,[],0,0,[]),(0,[],0,0,[])),(0,0,0,([],[],[])))
noncomputable def thenS (x:Option (St×Int)):Option (St×Int):=x.bind fun r=>bif (r.2 != 0) then some (Nr,r.2) else some (r.1,0)
theorem xg {s:List Fd} (hf:FI s) (hs:ey s) (o:Op):
  (o.1=0→cn s o=thenS (eV () (m9 s o) o))∧(o.1=1→cn s o=thenS (dU () (m9 s o) o))∧(o.1=2→cn s o=thenS (dZ () (m9 s o) o))∧
  (o.1=3→cn s o=thenS (dE () (m9 s o) o))∧(o.1=4→cn s o=thenS (dG () (m9 s o) o)):=by
 have hl:=hs.few
 have k: ∀ n:Nat,(decide (((5:Nat):Int)≤o.1))=false→decide (o.1<0)=false→(aC).bind (fun r54=>idx r54 o.1)=some n→cn s o=
   (bif (Nat.beq n 133) then thenS (eV () (m9 s o) o) else bif (Nat.beq n 134) then thenS (dU () (m9 s o) o) else bif (Nat.beq n 135) then thenS (dZ () (m9 s o) o) else bif (Nat.beq n 136) then thenS (dE () (m9 s o) o) else bif (Nat.beq n 137) then thenS (dG () (m9 s o) o) else none):=by
  intro n h5 h0 hn
  unfold cn
  obtain ⟨l,hk,hi⟩:=eP hn
  have hkl:l.length=5:=by
   unfold aC at hk;cases hk;rfl
  simp only [aP]
  rw [Jy hf,ab,tR.2 hs,h0,hk,Bool.not_true,Bool.false_or,Bool.not_false,bP,ab,hkl,h5,Bool.false_or,cond_false,ab,hi,ab,HE (by omega),ab]
  rfl
 refine ⟨fun h=> ?_,fun h=> ?_,fun h=> ?_,fun h=> ?_,fun h=> ?_⟩
 ·rw [k 133 (by rw [h];rfl) (by rw [h];rfl) (by unfold aC;rw [h];rfl)];rfl
 ·rw [k 134 (by rw [h];rfl) (by rw [h];rfl) (by unfold aC;rw [h];rfl)];rfl
 ·rw [k 135 (by rw [h];rfl) (by rw [h];rfl) (by unfold aC;rw [h];rfl)];rfl
 ·rw [k 136 (by rw [h];rfl) (by rw [h];rfl) (by unfold aC;rw [h];rfl)];rfl
 ·rw [k 137 (by rw [h];rfl) (by rw [h];rfl) (by unfold aC;rw [h];rfl)];rfl
theorem Ue {s:List Fd} (hf:FI s) (o:Op) (h: ¬ (ey s∧0≤o.1∧o.1<5)):cn s o=some (Nr,1):=by
 unfold cn
 simp only [aP]
 rw [Jy hf,ab]
 cases hr:oI s
 ·rfl
 ·have hs:=tR.1 hr
  by_cases h0:o.1<0
  ·rw [decide_eq_true h0];rfl
  ·rw [decide_eq_false h0]
   have hx: ¬ (0≤o.1∧o.1<5):=fun x=>h ⟨hs,x⟩
   have e:decide ((5:Int)≤o.1)=true:=decide_eq_true (by omega)
   obtain ⟨l,hk,hkl⟩: ∃ l,aC=some l∧l.length=5:=⟨_,rfl,rfl⟩
   rw [hk,Bool.not_true,Bool.false_or,Bool.not_false,bP,ab,hkl]
   rw [show decide (((5:Nat):Int)≤o.1)=true from e];rfl
theorem Kh {s:List Fd} (hs:Fds s) (t:St) (ht:t.2.1=s) (o:Op) (h0:0≤o.2.1) (h1:o.2.1≤1048576):
  dE () t o=some ((t.1,t.2.1,t.2.2.1,t.2.2.2.1,t.2.2.2.2.1,t.2.2.2.2.2.1,(((cm s:Int),[],-1,0,[]),((cm s:Int),[],-1,0,[]),((cm s:Int),[],-1,0,[])),t.2.2.2.2.2.2.2),0):=by
 unfold dE
 simp only [aP]
 rw [decide_eq_false (show ¬ o.2.1<0 by omega),decide_eq_false (show ¬ 1048576<o.2.1 by omega),Bool.or_self,cond_false]
 have hB:jW t.2.1=some (cm s:Int):=by rw [ht];exact Hs hs
 have hN:=Df.Vw (K7 hs)
 obtain ⟨m,hm⟩: ∃ m,au=m+4:=⟨2^64-4,rfl⟩
 rw [hm,aE]
 generalize hF:eQ () t=F
 have hs0: ∀ k a1 a2 a3 a4 a5 b1 b2 b3 b4 b5 c1 c2 c3 c4 c5,F k (a1,a2,a3,a4,a5,b1,b2,b3,b4,b5,c1,c2,c3,c4,c5,0)=k ((cm s:Int),[],-1,0,[],b1,b2,b3,b4,b5,c1,c2,c3,c4,c5,1):=by
  intros;rw [← hF];unfold eQ;dsimp only;rw [hB,ab,hN,ab];rfl
 have hs1: ∀ k a1 a2 a3 a4 a5 b1 b2 b3 b4 b5 c1 c2 c3 c4 c5,F k (a1,a2,a3,a4,a5,b1,b2,b3,b4,b5,c1,c2,c3,c4,c5,1)=k (a1,a2,a3,a4,a5,(cm s:Int),[],-1,0,[],c1,c2,c3,c4,c5,2):=by
  intros;rw [← hF];unfold eQ;dsimp only;rw [hB,ab,hN,ab];rfl
 have hs2: ∀ k a1 a2 a3 a4 a5 b1 b2 b3 b4 b5 c1 c2 c3 c4 c5,F k (a1,a2,a3,a4,a5,b1,b2,b3,b4,b5,c1,c2,c3,c4,c5,2)=k (a1,a2,a3,a4,a5,b1,b2,b3,b4,b5,(cm s:Int),[],-1,0,[],3):=by
  intros;rw [← hF];unfold eQ;dsimp only;rw [hB,ab,hN,ab];rfl
 rw [hs0,aE,hs1,aE,hs2,aE,← hF]
 rfl
theorem Ld {s:List Fd} (hf:FI s) (hs:ey s) (o:Op) (hk:0≤o.1∧o.1<4):
  ((o.2.1<0∨1048576<o.2.1)→cn s o=some (Nr,1))∧(0≤o.2.1→o.2.1≤1048576→ ∃ t,cn s o=some (t,0)∧OkS t s o.2.1 [] (fun _ _=>false)∧t.1=o.1):=by
 obtain ⟨k0,k1,k2,k3,_⟩:=xg hf hs o
 have hko:o.1=0∨o.1=1∨o.1=2∨o.1=3:=by omega
 refine ⟨fun hb=> ?_,fun h0 h1=> ?_⟩
 ·rcases hko with h | h | h | h
  ·rw [k0 h];unfold eV;rw [CN,if_pos hb];rfl
  ·rw [k1 h];unfold dU
   rw [show (m9 s o).2.1=s from rfl,CK hs.fds,if_pos hb];rfl
  ·rw [k2 h];unfold dZ
   rw [show (m9 s o).2.1=s from rfl,C1 hs.fds,if_pos hb];rfl
  ·rw [k3 h];unfold dE
   simp only [aP]
   rw [show (decide (o.2.1<0)||decide (1048576<o.2.1))=true by simpa using hb];rfl
 ·have hb: ¬ (o.2.1<0∨1048576<o.2.1):=by omega
  rcases hko with h | h | h | h
  ·rw [k0 h];unfold eV;rw [CN,if_neg hb]
   exact ⟨_,rfl,⟨rfl,rfl,.inl ⟨h,Nn s h0 h1,rfl⟩⟩,rfl⟩
  ·rw [k1 h];unfold dU
   rw [show (m9 s o).2.1=s from rfl,CK hs.fds,if_neg hb]
   exact ⟨_,rfl,⟨rfl,rfl,.inr (.inl ⟨h,L3 s h0 h1⟩)⟩,rfl⟩
  ·rw [k2 h];unfold dZ
   rw [show (m9 s o).2.1=s from rfl,C1 hs.fds,if_neg hb]
   exact ⟨_,rfl,⟨rfl,rfl,.inr (.inr (.inl ⟨h,Ng s h0 h1⟩))⟩,rfl⟩
  ·rw [k3 h,Kh hs.fds (m9 s o) rfl o h0 h1]
   have hw:=K7 hs.fds
   exact ⟨_,rfl,⟨rfl,rfl,.inr (.inr (.inr ⟨h,⟨h1,h0,fun v hv=>by simp at hv,List.nodup_nil,Jo hw,⟨[],Jo hw,List.nodup_nil,fun v=>by simp,fun v hv=>by simp at hv⟩,⟨[],Jo hw,List.nodup_nil,fun v=>by simp,fun v hv=>by simp at hv⟩⟩⟩))⟩,rfl⟩
/-! as the document has it -/
theorem Pk {s:List Fd} (hf:FI s):im s=some (oI s):=by
 unfold im oI
 simp only [aP]
 by_cases h:1≤s.length∧s.length≤17
 ·rw [decide_eq_false (show ¬ (s.length:Int)<1 by omega),decide_eq_false (show ¬ (17:Int)<s.length by omega),Bool.or_self,cond_false,decide_eq_true h.1,decide_eq_true h.2,Bool.true_and,Bool.true_and]
  have step: ∀ i (hi:i<s.length) (k:Int→Option Bool),dQ s k (i:Int)=bif mO s[i] then k ((i+1:Nat):Int) else some false:=by
   intro i hi k
   have hI:=hf s[i] (List.getElem_mem hi)
   have hq:=NT hI.1 hI.2
   unfold dQ
   simp only [aP]
   rw [cj hi,cond_true,bA hi,ab,ab,nx (show i<9223372036854775807 by omega)]
   unfold mO
   by_cases h1:s[i].2<s[i].1
   ·rw [decide_eq_true h1,Bool.not_true,cU]
    simp only [Bool.true_or,Bool.not_true,cU,cond_true]
    rw [decide_eq_false (show ¬ s[i].1≤s[i].2 by omega),Bool.and_false,Bool.false_and,cond_false]
   ·rw [decide_eq_false h1,Bool.not_false,bP,ab,Bool.false_or]
    by_cases h2:s[i].1< -1073741824
    ·rw [decide_eq_true h2,Bool.not_true,cU]
     simp only [Bool.true_or,Bool.not_true,cU,cond_true]
     rw [decide_eq_false (show ¬ -1073741824≤s[i].1 by omega)]
     simp
    ·rw [decide_eq_false h2,Bool.not_false,bP,ab,Bool.false_or]
     by_cases h3:1073741824<s[i].2
     ·rw [decide_eq_true h3,Bool.not_true,cU,cU,Bool.true_or,cond_true,decide_eq_false (show ¬ s[i].2≤1073741824 by omega)]
      simp
     ·rw [decide_eq_false h3,Bool.not_false,bP,ab,bP,ab,Bool.false_or,w64 (by omega),decide_eq_true (show -1073741824≤s[i].1 by omega),decide_eq_true (show s[i].2≤1073741824 by omega),decide_eq_true (show s[i].1≤s[i].2 by omega)]
      by_cases h4:65535<s[i].2-s[i].1
      ·rw [decide_eq_true h4,decide_eq_false (show ¬ s[i].2-s[i].1≤65535 by omega)];rfl
      ·rw [decide_eq_false h4,decide_eq_true (show s[i].2-s[i].1≤65535 by omega)];rfl
  refine (findF (F:=dQ s) (fun i=>(i:Int)) (fun i=>if h:i<s.length then !mO s[i] else false) (r:=fun i=>if i<s.length then some false else some true) s.length (s:=0) rfl (by omega) (fun i hi hp k=> ?_) (fun i hi hp k=> ?_) (fun k=> ?_)).elim (fun ⟨i,h1,h2,h3,h4⟩=> ?_) (fun ⟨h1,h4⟩=> ?_)
  ·rw [dif_pos hi] at hp
   rw [step i hi,show mO s[i]=true by simpa using hp,cond_true]
  ·rw [dif_pos hi] at hp
   rw [step i hi,show mO s[i]=false by simpa using hp,cond_false,if_pos hi]
  ·unfold dQ
   rw [cT (Nat.lt_irrefl _),cond_false,if_neg (Nat.lt_irrefl _)]
  ·rw [h4,if_pos h1]
   rw [dif_pos h1] at h2
   congr 1
   rw [eq_comm,← Bool.not_eq_true]
   intro h
   have:=List.all_eq_true.1 h _ (List.getElem_mem h1)
   rw [this] at h2;cases h2
  ·rw [h4,if_neg (Nat.lt_irrefl _)]
   congr 1
   rw [eq_comm,List.all_eq_true]
   intro x hx
   obtain ⟨i,hi,e⟩:=List.getElem_of_mem hx
   have:=h1 i hi
   rw [dif_pos hi,e] at this
   simpa using this
 ·have e:(decide ((s.length:Int)<1)||decide ((17:Int)<(s.length:Int)))=true:=by simp;omega
  have e':(decide (1≤s.length)&&decide (s.length≤17))=false:=by
   rw [← Bool.not_eq_true,Bool.and_eq_true,decide_eq_true_eq,decide_eq_true_eq];omega
  rw [e,e',cond_true,Bool.false_and]
theorem CP (s:List Fd) (v:List Int) (hn:v.length<100000000):dj s v=some (inC s v):=by
 unfold dj
 by_cases hl:v.length=s.length
 ·rw [show ((v.length:Int) != (s.length:Int))=false by simp;omega,cond_false]
  have hsv: ∀ i,i<v.length→i<s.length:=fun i h=>by omega
  have step: ∀ i (hi:i<v.length) (k:Int→Option Int),fu s v k (i:Int)=bif (decide ((s[i]'(hsv i hi)).1≤v[i])&&decide (v[i]≤(s[i]'(hsv i hi)).2)) then k ((i+1:Nat):Int) else some 5:=by
   intro i hi k
   unfold fu
   simp only [aP]
   rw [cj hi,cond_true,bA hi,bA (hsv i hi),ab,ab,nx (show i<9223372036854775807 by omega)]
   by_cases h1:v[i]<(s[i]'(hsv i hi)).1
   ·rw [decide_eq_true h1,Bool.not_true,cU,cU,Bool.true_or,cond_true,decide_eq_false (show ¬ (s[i]'(hsv i hi)).1≤v[i] by omega)];rfl
   ·rw [decide_eq_false h1,Bool.not_false,bP,ab,bP,ab,Bool.false_or,decide_eq_true (show (s[i]'(hsv i hi)).1≤v[i] by omega),Bool.true_and]
    by_cases h2:(s[i]'(hsv i hi)).2<v[i]
    ·rw [decide_eq_true h2,decide_eq_false (show ¬ v[i]≤(s[i]'(hsv i hi)).2 by omega)];rfl
    ·rw [decide_eq_false h2,decide_eq_true (show v[i]≤(s[i]'(hsv i hi)).2 by omega)];rfl
  refine (findF (F:=fu s v) (fun i=>(i:Int)) (fun i=>if h:i<v.length then !(decide ((s[i]'(hsv i h)).1≤v[i])&&decide (v[i]≤(s[i]'(hsv i h)).2)) else false) (r:=fun i=>if i<v.length then some 5 else some 0) v.length (s:=0) rfl (by omega) (fun i hi hp k=> ?_) (fun i hi hp k=> ?_) (fun k=> ?_)).elim (fun ⟨i,h1,h2,h3,h4⟩=> ?_) (fun ⟨h1,h4⟩=> ?_)
  ·rw [dif_pos hi,Bool.not_eq_false'] at hp
   rw [step i hi,hp,cond_true]
  ·rw [dif_pos hi,Bool.not_eq_true'] at hp
   rw [step i hi,hp,cond_false,if_pos hi]
  ·unfold fu
   rw [cT (Nat.lt_irrefl _),cond_false,if_neg (Nat.lt_irrefl _)]
  ·rw [h4,if_pos h1,Jb hl i (by omega)]
   rw [dif_pos h1] at h2
   simp at h2;omega
  ·rw [h4,if_neg (by omega),ed.2 ⟨hl,fun i hi=> ?_⟩]
   have:=h1 i (by omega)
   rw [dif_pos (by omega)] at this
   simpa using this
 ·rw [show ((v.length:Int) != (s.length:Int))=true by simp;omega,cond_true]
  unfold inC;rw [if_neg hl]
theorem H4 (a b:List Int) (hn:a.length<100000000):gi a b=some (a==b):=by
 unfold gi
 by_cases hl:a.length=b.length
 ·rw [show ((a.length:Int) != (b.length:Int))=false by simp;omega,cond_false]
  have step: ∀ i (hi:i<a.length) (k:Int→Option Bool),eT a b k (i:Int)=bif (a[i] != b[i]'(by omega)) then some false else k ((i+1:Nat):Int):=by
   intro i hi k
   unfold eT
   rw [cj hi,cond_true,bA hi,bA (show i<b.length by omega),ab,ab,nx (show i<9223372036854775807 by omega)]
  refine (findF (F:=eT a b) (fun i=>(i:Int)) (fun i=>if h:i<a.length then a[i] != b[i]'(by omega) else false) (r:=fun i=>if i<a.length then some false else some true) a.length (s:=0) rfl (by omega) (fun i hi hp k=> ?_) (fun i hi hp k=> ?_) (fun k=> ?_)).elim (fun ⟨i,h1,h2,h3,h4⟩=> ?_) (fun ⟨h1,h4⟩=> ?_)
  ·rw [dif_pos hi] at hp
   rw [step i hi,hp,cond_false]
  ·rw [dif_pos hi] at hp
   rw [step i hi,hp,cond_true,if_pos hi]
  ·unfold eT
   rw [cT (Nat.lt_irrefl _),cond_false,if_neg (Nat.lt_irrefl _)]
  ·rw [h4,if_pos h1]
   rw [dif_pos h1] at h2
   congr 1
   rw [eq_comm,beq_eq_false_iff_ne]
   rintro rfl
   simp at h2
  ·rw [h4,if_neg (Nat.lt_irrefl _)]
   congr 1
   rw [eq_comm,beq_iff_eq]
   refine List.ext_getElem hl fun i h2 h3=> ?_
   have:=h1 i h2
   rw [dif_pos h2] at this
   simpa using this
 ·rw [show ((a.length:Int) != (b.length:Int))=true by simp;omega,cond_true]
  congr 1
  rw [eq_comm,beq_eq_false_iff_ne]
  rintro rfl
  exact hl rfl
end So
end Go.Proofs.YtgcgmclghbebjaaGreat
namespace Go.Proofs.YtgcgmclghbebjaaGreat
namespace So
noncomputable def ibs (l:List Bool):List Int:=l.map fun b=>((b.toNat:Nat):Int)
theorem rD (l:List Bool):(ibs l).length=l.length:=by simp [ibs]
theorem NP {l:List Bool} {i:Nat} {b:Bool} (h:l[i]? =some b):(ibs l)[i]? =some ((b.toNat:Nat):Int):=by
 unfold ibs;rw [List.getElem?_map,h];rfl
theorem Cu: ∀ (M n k:Nat),n<18446744073709551616→bl n<M→k+bl n<1000→aq jK M ((n:Int),(k:Int))=some ((k+bl n:Nat):Int)
 | 0,_,_,_,h,_=>by omega
 | M+1,n,k,hn,h,hk=>by
  rw [aE]
  unfold bl at h hk ⊢
  by_cases h0:n=0
  ·subst h0;rfl
  ·rw [if_neg h0] at h hk ⊢
   have:=Cu M (n/2) (k+1) (by omega) (by omega) (by omega)
   simp only [jK,decide_eq_true (show (0:Int)<(n:Int) by omega),cond_true,nx (show k<9223372036854775807 by omega)]
   rw [show Int.tdiv (n:Int) 2=((n/2:Nat):Int) from rfl,qx (by omega),this]
   congr 2;omega
theorem Qq {n:Nat} (h:n<18446744073709551616):jb (n:Int)=some (bl n:Int):=by
 unfold jb
 have hb:=C7 (n:=n) (w:=64) (by omega)
 have:=Cu au n 0 h (by show bl n<2^64;omega) (by omega)
 rw [Nat.zero_add] at this;exact this
theorem IW: ∀ (M n k:Nat),n<1000000→bl n<M→k+bl n<1000→aq j8 M ((k:Int),(n:Int))=some ((k+bl n:Nat):Int)
 | 0,_,_,_,h,_=>by omega
 | M+1,n,k,hn,h,hk=>by
  rw [aE]
  unfold bl at h hk ⊢
  by_cases h0:n=0
  ·subst h0;rfl
  ·rw [if_neg h0] at h hk ⊢
   have:=IW M (n/2) (k+1) (by omega) (by omega) (by omega)
   simp only [j8,decide_eq_true (show (0:Int)<(n:Int) by omega),cond_true,nx (show k<9223372036854775807 by omega)]
   rw [show Int.tdiv (n:Int) 2=((n/2:Nat):Int) from rfl,w64 (by omega),this]
   congr 2;omega
theorem OG {s:List Fd} (hs:Fds s) {f:Fd} (hf:f∈s):fG f=some (wd f:Int):=by
 have h:=hs.each f hf
 have hw:=GM (f:=f) (by omega)
 unfold fG
 rw [w64 (by omega)]
 unfold wd at hw ⊢
 obtain ⟨n,hn⟩:=Int.eq_ofNat_of_zero_le (show 0≤f.2-f.1 by omega)
 rw [hn,Int.toNat_natCast] at hw ⊢
 have:=IW au n 0 (by omega) (by show bl n<2^64;omega) (by omega)
 rw [Nat.zero_add] at this;exact this
theorem T0 (l:List Bool) (n:Int) {k:Nat} (hk:k<l.length) (hl:l.length<1000000):jG (pk l,n) (k:Int)=some (((bt l k).toNat:Nat):Int):=by
 unfold jG
 have hd:IntKind.i64.wrap (Int.tdiv (k:Int) 8)=((k/8:Nat):Int):=by rw [show Int.tdiv (k:Int) 8=((k/8:Nat):Int) from rfl,w64 (by omega)]
 have hr:=tO (l.drop (8*(k/8)))
 obtain ⟨N,hN⟩:=Int.eq_ofNat_of_zero_le hr.1
 have hg:=Ey (l.drop (8*(k/8))) (k%8) (by omega)
 rw [vO,Nat.div_add_mod,hN] at hg
 have hat:(pk l)[k/8]? =some (N:Int):=by rw [qa,if_pos (by omega),hN]
 dsimp only
 rw [hd,bL hat,ab,w64 (by omega)]
 have h7:IntKind.i64.wrap (7-Int.tmod (k:Int) 8)=((7-k%8:Nat):Int):=by
  rw [show Int.tmod (k:Int) 8=((k%8:Nat):Int) from rfl,w64 (by omega)];omega
 refine fw (fun i=>(((N/2^i:Nat):Int),(i:Int))) (7-k%8) (by simp) (by omega) (fun i hi K=> ?_) (fun K=> ?_)
 ·have hle:=Nat.div_le_self N (2^i)
  unfold kA
  dsimp only
  have e2:IntKind.i64.wrap ((N/2^i/2:Nat):Int)=((N/2^i/2:Nat):Int):=by
   generalize N/2^i=x at hle ⊢
   exact w64 (by omega)
  rw [h7,cj hi,cond_true,show Int.tdiv ((N/2^i:Nat):Int) 2=((N/2^i/2:Nat):Int) from rfl,e2,nx (by omega),Nat.div_div_eq_div_mul,← Nat.pow_succ]
 ·unfold kA
  dsimp only
  rw [h7,cT (Nat.lt_irrefl _),cond_false,show Int.tmod ((N/2^(7-k%8):Nat):Int) 2=((N/2^(7-k%8)%2:Nat):Int) from rfl,← hg]
  have:(N:Int)/2^(7-k%8)%2=((N/2^(7-k%8)%2:Nat):Int):=by simp
  rw [this]
  generalize N/2^(7-k%8)=x
  have:=Nat.mod_two_eq_zero_or_one x
  rcases this with h | h <;> rw [h] <;> rfl
theorem PV (l:List Bool) (hl:l.length<1000000):jg (pk l,(l.length:Int))=some (ibs l):=by
 unfold jg
 refine fw (fun i=>((ibs l).take i,(i:Int))) l.length rfl (by omega) (fun i hi K=> ?_) (fun K=> ?_)
 ·unfold ka
  dsimp only
  have hb:bt l i=l[i]:=by unfold bt;rw [List.getElem?_eq_getElem hi];cases l[i] <;> rfl
  have hlt:((ibs l).take i).length≤1000000:=by rw [List.length_take,rD];omega
  rw [cj hi,cond_true,T0 l _ hi hl,ab,aG (bg (by rw [List.length_singleton];omega) (by rw [List.length_singleton];omega)),nx (by omega),hb,
   List.take_add_one,NP (List.getElem?_eq_getElem hi)]
  rfl
 ·unfold ka
  dsimp only
  rw [cT (Nat.lt_irrefl _),cond_false,List.take_of_length_le (by rw [rD];omega)]
theorem Ol: ∀ m:List Bool,m.length<8→byt m+2^(7-m.length)=byt (m++[true])
 | [],_=>by decide
 | [a],_=>by cases a <;> decide
 | [a,b],_=>by cases a <;> cases b <;> decide
 | [a,b,c],_=>by cases a <;> cases b <;> cases c <;> decide
 | [a,b,c,d],_=>by cases a <;> cases b <;> cases c <;> cases d <;> decide
 | [a,b,c,d,e],_=>by cases a <;> cases b <;> cases c <;> cases d <;> cases e <;> decide
 | [a,b,c,d,e,f],_=>by cases a <;> cases b <;> cases c <;> cases d <;> cases e <;> cases f <;> decide
 | [a,b,c,d,e,f,g],_=>by cases a <;> cases b <;> cases c <;> cases d <;> cases e <;> cases f <;> cases g <;> decide
 | _::_::_::_::_::_::_::_::_,h=>by simp at h;omega
theorem Tf {m:List Bool} {j:Nat} (b:Bool) (h:m.length=j) (hj:j<8):byt m+((b.toNat:Nat):Int)*2^(7-j)=byt (m++[b]):=by
 subst h
 cases b
 ·rw [Dw m hj];simp
 ·rw [← Ol m hj];simp
theorem Wl (j:Nat):(2:Int)^(7-j)=((2^(7-j):Nat):Int)∧2^(7-j)≤128:=⟨by simp,by
 have:=Nat.pow_le_pow_right (n:=2) (by omega) (show 7-j≤7 by omega)
 simpa using this⟩
theorem To (L:List Int) (i:Nat) (again:List Int×Int→Option (List Int×Int)) (c:List Int) {e:Int} {b:Bool} (hi:i<1000000) (he:c[i/8]? =some e) (hx:L[i]? =some ((b.toNat:Nat):Int)) (h0:0≤e) (h1:e+((b.toNat:Nat):Int)*2^(7-i%8)≤255):
  gF L (i:Int) again c=again (c.set (i/8) (e+((b.toNat:Nat):Int)*2^(7-i%8)),((i+1:Nat):Int)):=by
 unfold gF
 have hd:IntKind.i64.wrap (Int.tdiv (i:Int) 8)=((i/8:Nat):Int):=by rw [show Int.tdiv (i:Int) 8=((i/8:Nat):Int) from rfl,w64 (by omega)]
 have h7:IntKind.i64.wrap (7-Int.tmod (i:Int) 8)=((7-i%8:Nat):Int):=by
  rw [show Int.tmod (i:Int) 8=((i%8:Nat):Int) from rfl,w64 (by omega)];omega
 have hp:=Wl (i%8)
 refine fw (fun j=>(((2^j:Nat):Int),(j:Int))) (7-i%8) rfl (by omega) (fun j hj K=> ?_) (fun K=> ?_)
 ·have:=Nat.pow_le_pow_right (n:=2) (by omega) (show j≤7 by omega)
  unfold ky
  dsimp only
  have e2:IntKind.i64.wrap (2*((2^j:Nat):Int))=((2^(j+1):Nat):Int):=by
   rw [Nat.pow_succ]
   generalize 2^j=x at this ⊢
   rw [w64 (by omega)];omega
  rw [h7,cj hj,cond_true,e2,nx (by omega)]
 ·have hb:b.toNat≤1:=by cases b <;> decide
  have hm:((b.toNat:Nat):Int)*((2^(7-i%8):Nat):Int)≤128∧0≤((b.toNat:Nat):Int)*((2^(7-i%8):Nat):Int):=by
   cases b
   ·simp
   ·rw [show ((true.toNat:Nat):Int)=1 from rfl,Int.one_mul]
    have hp2:=hp.2
    generalize (2^(7-i%8):Nat)=y at hp2 ⊢
    omega
  unfold ky
  dsimp only
  rw [hp.1] at h1 ⊢
  rw [h7,cT (Nat.lt_irrefl _),cond_false,hd,bL he,ab,bL hx,ab,ab,Int.toNat_natCast,nx (by omega)]
  generalize ((b.toNat:Nat):Int)*((2^(7-i%8):Nat):Int)=x at hm h1 ⊢
  have e3:IntKind.u8.wrap (e+IntKind.u8.wrap (IntKind.i64.wrap x))=e+x:=by
   rw [w64 (by omega),IntKind.wrap_u8,IntKind.wrap_u8];omega
  rw [e3]
theorem Tc (l:List Bool) (hl:l.length<1000000):jx (ibs l)=some (pk l,(l.length:Int)):=by
 unfold jx
 refine fw (fun i=>(pk (l.take i),(i:Int))) l.length (by rw [List.take_zero];rfl) (by omega) (fun i hi K=> ?_) (fun K=> ?_)
 ·have hlt:(l.take i).length=i:=by rw [List.length_take];omega
  have hx:=NP (List.getElem?_eq_getElem hi)
  have hdl:((l.take i).drop (8*(i/8))).length=i%8:=by rw [List.length_drop,hlt];omega
  have ha:=Tf l[i] hdl (by omega)
  have hr:=tO ((l.take i).drop (8*(i/8))++[l[i]])
  have hr0:=tO ((l.take i).drop (8*(i/8)))
  have hk: ∀ c:List Int,c[i/8]? =some (byt ((l.take i).drop (8*(i/8))))→gF (ibs l) (i:Int) K c=K (c.set (i/8) (byt ((l.take i).drop (8*(i/8))++[l[i]])),((i+1:Nat):Int)):=by
   intro c hc
   rw [To (ibs l) i K c (by omega) hc hx hr0.1 (by rw [ha];exact hr.2),ha]
  rw [show l.take (i+1)=l.take i++[l[i]] by rw [List.take_add_one,List.getElem?_eq_getElem hi];rfl]
  unfold kc
  simp only [aP]
  rw [rD,cj hi,cond_true,show Int.tmod (i:Int) 8=((i%8:Nat):Int) from rfl]
  by_cases h:i%8=0
  ·rw [h,show (((0:Nat):Int)==0)=true from rfl,cond_true,aG (bg (by simp [dW];omega) (by simp [dW];omega)),hk]
   ·rw [GZ _ _ (by rw [hlt];exact h)]
    have:i/8=(pk (l.take i)).length:=by rw [dW,hlt];omega
    rw [List.drop_eq_nil_of_le (by rw [hlt];omega),this,List.set_append_right _ _ (Nat.le_refl _),Nat.sub_self];rfl
   ·rw [List.getElem?_append_right (by rw [dW,hlt];omega),dW,hlt,show i/8-(i+7)/8=0 by omega,List.drop_eq_nil_of_le (by rw [hlt];omega)];rfl
  ·rw [show (((i%8:Nat):Int)==0)=false by simp;omega,cond_false,hk]
   ·rw [Ir _ _ (by rw [hlt];exact h),hlt]
   ·rw [qa,hlt,if_pos (by omega)]
 ·unfold kc
  dsimp only
  rw [rD,cT (Nat.lt_irrefl _),cond_false,List.take_length]
theorem tn2 (x:Nat):((x%2:Nat):Int)=(((decide (x%2=1)).toNat:Nat):Int):=by
 rcases Nat.mod_two_eq_zero_or_one x with h | h <;> rw [h] <;> rfl
theorem T3 (l:List Bool) (n w:Nat) (hl:l.length<100000) (hw:w≤64) (hn:n<2^w):jC (pk l,(l.length:Int)) (n:Int) (w:Int)=some ((pk (l++be n w),((l.length+w:Nat):Int)),0):=by
 have hn64:n<18446744073709551616:=Nat.lt_of_lt_of_le hn (Nat.le_trans (Nat.pow_le_pow_right (by omega) hw) (by decide))
 have hb:=C7 hn
 unfold jC
 simp only [aP]
 rw [decide_eq_false (show ¬ (w:Int)<0 by omega),decide_eq_false (show ¬ (64:Int)<(w:Int) by omega),Bool.or_self,cond_false,Qq hn64,ab,decide_eq_false (by omega),cond_false,
  aG (decide_eq_true (by omega)),Int.toNat_natCast,aG (bg (by omega) (by omega))]
 refine fw (fun j=>(((n/2^j:Nat):Int),List.replicate (w-j) 0++ibs ((be n w).drop (w-j)),(w:Int)-1-j)) w (by
  rw [w64 (by omega),Nat.sub_zero,List.drop_of_length_le (by rw [jY];exact Nat.le_refl _)];simp [ibs]) (by omega) (fun j hj K=> ?_) (fun K=> ?_)
 ·have hi:(w:Int)-1-j=((w-1-j:Nat):Int):=by omega
  have hlt:w-1-j<(List.replicate (w-j) (0:Int)++ibs ((be n w).drop (w-j))).length:=by
   rw [List.length_append,List.length_replicate];omega
  have hle:=Nat.div_le_self n (2^j)
  have hset:(List.replicate (w-j) (0:Int)++ibs ((be n w).drop (w-j))).set (w-1-j) (((decide (n/2^j%2=1)).toNat:Nat):Int)=List.replicate (w-(j+1)) 0++ibs ((be n w).drop (w-(j+1))):=by
   have hg:=zp n w (w-1-j) (by omega)
   rw [show w-1-(w-1-j)=j by omega] at hg
   have hlb:w-1-j<(be n w).length:=by rw [jY];omega
   rw [List.getElem?_eq_getElem hlb] at hg
   have hd:(be n w).drop (w-(j+1))=decide (n/2^j%2=1)::(be n w).drop (w-j):=by
    rw [show w-(j+1)=w-1-j by omega,List.drop_eq_getElem_cons hlb,Option.some.inj hg,show w-1-j+1=w-j by omega]
   rw [hd,List.set_append_left _ _ (by rw [List.length_replicate];omega)]
   have hr:(List.replicate (w-j) (0:Int))=List.replicate (w-(j+1)) 0++[0]:=by
    rw [← List.replicate_succ',show w-(j+1)+1=w-j by omega]
   rw [hr,List.set_append_right _ _ (by rw [List.length_replicate];omega),List.length_replicate,show w-1-j-(w-(j+1))=0 by omega,List.append_assoc]
   rfl
  have e1:IntKind.u64.wrap (Int.tdiv ((n/2^j:Nat):Int) 2)=((n/2^(j+1):Nat):Int):=by
   rw [show Int.tdiv ((n/2^j:Nat):Int) 2=((n/2^j/2:Nat):Int) from rfl,Nat.pow_succ,← Nat.div_div_eq_div_mul]
   generalize n/2^j=x at hle ⊢
   exact qx (by omega)
  have e2:IntKind.i64.wrap (Int.tmod ((n/2^j:Nat):Int) 2)=(((decide (n/2^j%2=1)).toNat:Nat):Int):=by
   rw [show Int.tmod ((n/2^j:Nat):Int) 2=((n/2^j%2:Nat):Int) from rfl,← tn2]
   generalize n/2^j=x
   exact w64 (by omega)
  unfold kG
  dsimp only
  rw [hi,decide_eq_true (show (0:Int)≤((w-1-j:Nat):Int) by omega),cond_true,bA hlt,ab,e1,e2,Int.toNat_natCast,hset,w64 (by omega)]
  congr 3;omega
 ·have hlr:(ibs l).length≤100000:=by rw [rD];omega
  have hlb:(ibs (be n w)).length≤64:=by rw [rD,jY];omega
  unfold kG
  dsimp only
  rw [decide_eq_false (by omega),cond_false,Nat.sub_self,List.replicate_zero,List.nil_append,List.drop_zero,PV l (by omega),ab,aG (bg (by omega) (by omega)),
   show ibs l++ibs (be n w)=ibs (l++be n w) by simp [ibs],Tc _ (by rw [List.length_append,jY];omega),ab,List.length_append,jY]
theorem Sb {s:List Fd} (hs:Fds s):iT s=some (dh s:Int):=by
 unfold iT
 have hn:=hs.few
 refine fw (fun i=>((dh (s.take i):Int),(i:Int))) s.length (by simp [dh]) (by omega) (fun i hi k=> ?_) (fun k=> ?_)
 ·have h1:=jo (hs.take (i+1))
  have h2:=ri hi
  have h3:(s.take (i+1)).length≤17:=by rw [List.length_take];omega
  unfold j9
  dsimp only
  rw [cj hi,cond_true,bA hi,ab,OG hs (List.getElem_mem hi),ab,nx (by omega),w64 (by omega),h2];rfl
 ·unfold j9
  dsimp only
  rw [cT (Nat.lt_irrefl _),cond_false,List.take_length]
theorem Fz {s:List Fd} (hs:Fds s):iv s=some (cm s:Int):=by
 unfold iv cm
 have h:=jo hs
 have:=hs.few
 rw [Sb hs,ab]
 by_cases h0:dh s=0
 ·rw [h0];rfl
 ·rw [show ((dh s:Int)==0)=false by simp;omega,cond_false,w64 (show _∧(dh s:Int)+7≤_ by omega),show Int.tdiv ((dh s:Int)+7) 8=(((dh s+7)/8:Nat):Int) from rfl,w64 (by omega)]
  congr 2;omega
theorem qR {s:List Fd} {v:List Int} (hs:Fds s) (hl:v.length<100000000):cL s v=some (if inC s v=0 then (enc s v,0) else ([],inC s v)):=by
 unfold cL
 rw [CP s v hl,ab]
 by_cases hc:inC s v=0
 ·rw [if_pos hc,hc,show ((0:Int) != 0)=false from rfl,cond_false]
  have hv:=ed.1 hc
  have hf:=hs.few
  have hl:=hv.len
  have hbn:=jo hs
  refine fw (fun i=>(pk (iu (s.take i) (v.take i)),((dh (s.take i):Nat):Int),(i:Int))) s.length (by simp [dh];rfl) (by omega) (fun i hi k=> ?_) (fun k=> ?_)
  ·have hi':i<v.length:=by omega
   have hfi:=hs.each s[i] (List.getElem_mem hi)
   have hvi:=hv.each i hi
   have hbl:=kb (s.take i) (v.take i) (by simp [hl])
   have hbi:=jo (hs.take i)
   have hP:=T3 (iu (s.take i) (v.take i)) (v[i]-s[i].1).toNat (wd s[i]) (by rw [hbl];simp at hbi;omega) (by have:=GM (f:=s[i]) (by omega);omega) (Dc hv hi hi')
   rw [hbl,← Dy hi hi',← ri hi] at hP
   rw [show (((v[i]-s[i].1).toNat:Nat):Int)=v[i]-s[i].1 by omega] at hP
   unfold iA
   dsimp only
   rw [cj hi',cond_true,bA hi',ab,bA hi,ab,ab,OG hs (List.getElem_mem hi),ab,w64 (by omega),qx (by omega),hP,ab,nx (by omega)]
  ·have hpl:(pk (iu s v)).length=(dh s+7)/8:=by rw [dW,kb s v hl]
   unfold iA
   dsimp only
   rw [cT (by omega),cond_false,List.take_length,List.take_of_length_le (by omega),List.nil_append,List.length_nil,aG (bg (by omega) (by omega))]
   refine fw (fun j=>pk (iu s v)++List.replicate j 0) (cm s-(pk (iu s v)).length) (by simp) (by unfold cm;omega) (fun j hj K=> ?_) (fun K=> ?_)
   ·unfold iy
    have hbb:cm s≤40:=by unfold cm;omega
    rw [Fz hs,ab,List.length_append,List.length_replicate,cj (by omega),cond_true,aG (bg (by rw [List.length_singleton];omega) (by rw [List.length_singleton];omega)),List.append_assoc,← List.replicate_succ']
   ·unfold iy
    rw [Fz hs,ab,List.length_append,List.length_replicate,cT (by omega),cond_false]
    rfl
 ·rw [if_neg hc,show (inC s v != 0)=true by simpa using hc,cond_true]
end So
end Go.Proofs.YtgcgmclghbebjaaGreat
namespace Go.Proofs.YtgcgmclghbebjaaGreat
namespace So
/-! bits of a byte -/
noncomputable def sS (e:Int) (k:Nat):Bool:=gC .u8 e (fT .u8 1 (k:Int)) != 0
theorem Qm: ∀ e:Fin 256,∀ j k:Fin 8,sS (orI .u8 (e.val:Int) (fT .u8 1 (j.val:Int))) k.val=(sS (e.val:Int) k.val||j.val==k.val)∧0≤orI .u8 (e.val:Int) (fT .u8 1 (j.val:Int))∧orI .u8 (e.val:Int) (fT .u8 1 (j.val:Int))≤255:=by decide+kernel
theorem O2 {e:Int} (h0:0≤e) (h1:e≤255) {j k:Nat} (hj:j<8) (hk:k<8):sS (orI .u8 e (fT .u8 1 (j:Int))) k=(sS e k||j==k)∧0≤orI .u8 e (fT .u8 1 (j:Int))∧orI .u8 e (fT .u8 1 (j:Int))≤255:=by
 obtain ⟨n,rfl⟩:=Int.eq_ofNat_of_zero_le h0
 exact Qm ⟨n,by omega⟩ ⟨j,hj⟩ ⟨k,hk⟩
theorem LY: ∀ k:Fin 8,sS 0 k.val=false:=by decide+kernel
noncomputable def pc (e:Int):Nat:=((List.range 8).filter (sS e)).length
theorem NJ: ∀ e:Fin 256,(e.val=0→pc (e.val:Int)=0)∧(0<e.val→pc (gC .u8 (e.val:Int) (IntKind.u8.wrap ((e.val:Int)-1)))+1=pc (e.val:Int)∧0≤gC .u8 (e.val:Int) (IntKind.u8.wrap ((e.val:Int)-1))∧gC .u8 (e.val:Int) (IntKind.u8.wrap ((e.val:Int)-1))≤255):=by decide+kernel
theorem Ss (e:Int):pc e≤8:=by
 unfold pc
 have:=List.length_filter_le (sS e) (List.range 8)
 simpa using this
/-! rows of bits -/
structure jl (row:List Int) (M:Nat) (p:Nat→Bool):Prop where
 len:row.length=(M+7)/8
 byt:By row
 bit: ∀ n e,row[n/8]? =some e→sS e (n%8)=p n
 low: ∀ n,p n=true→n<M
theorem jl.get {row:List Int} {M:Nat} {p:Nat→Bool} (h:jl row M p) {n:Nat} (hn:n<M): ∃ e,row[n/8]? =some e∧sS e (n%8)=p n∧0≤e∧e≤255:=by
 have hl:n/8<row.length:=by rw [h.len];omega
 have he:=List.getElem?_eq_getElem hl
 exact ⟨_,he,h.bit n _ he,h.byt _ (List.getElem_mem hl)⟩
theorem jl.zero (M:Nat):jl (List.replicate ((M+7)/8) 0) M (fun _=>false):=
 ⟨by simp,fun x hx=>by rw [(List.mem_replicate.1 hx).2];omega,fun n e h=>(by
  rw [List.getElem?_replicate] at h
  split at h
  ·rw [← Option.some.inj h];exact LY ⟨n%8,Nat.mod_lt _ (by omega)⟩
  ·cases h),fun n h=>(by cases h)⟩
theorem jl.set {row:List Int} {M:Nat} {p:Nat→Bool} (h:jl row M p) {n:Nat} (hn:n<M) {e:Int} (he:row[n/8]? =some e):
  jl (row.set (n/8) (orI .u8 e (fT .u8 1 ((n%8:Nat):Int)))) M (fun m=>p m||m==n):=by
 have hl:=fe he
 have hb:=h.byt e (List.mem_of_getElem? he)
 refine ⟨by rw [List.length_set];exact h.len,fun x hx=> ?_,fun m e' hm=> ?_,fun m hm=> ?_⟩
 ·rcases List.mem_or_eq_of_mem_set hx with hx | hx
  ·exact h.byt x hx
  ·rw [hx]
   have:=O2 hb.1 hb.2 (j:=n%8) (k:=0) (by omega) (by omega)
   exact this.2
 ·rw [dq hl] at hm
  split at hm
  ·rename_i e1
   rw [← Option.some.inj hm,(O2 hb.1 hb.2 (by omega) (by omega)).1,← h.bit m e (by rw [← e1];exact he)]
   congr 1
   rw [Bool.eq_iff_iff,beq_iff_eq,beq_iff_eq]
   omega
  ·rename_i e1
   rw [h.bit m e' hm]
   have:(m==n)=false:=beq_eq_false_iff_ne.2 (fun e2=>e1 (by rw [e2]))
   rw [this,Bool.or_false]
 ·rcases Bool.or_eq_true_iff.1 hm with hm | hm
  ·exact h.low m hm
  ·rw [beq_iff_eq] at hm;omega
/-! places of a key -/
noncomputable def pls (key:List Int) (seed:Int) (K M:Nat):List Nat:=(List.range K).map fun i:Nat=>(hsh key (IntKind.u64.wrap (seed+IntKind.u64.wrap (i:Int)))).toNat%M
theorem lz {key:List Int} {seed:Int} {K M:Nat} (hM:0<M): ∀ n∈pls key seed K M,n<M:=by
 intro n hn
 simp only [pls,List.mem_map] at hn
 obtain ⟨i,_,rfl⟩:=hn
 exact Nat.mod_lt _ hM
theorem OS {key:List Int} (hk:key.length<100000) (seed:Int) {K M:Nat} (hK:K≤16) (h0:0<M) (h1:M<1000000000):gu key seed (K:Int) (M:Int)=some ((pls key seed K M).map fun n:Nat=>(n:Int)):=by
 unfold gu
 refine fw (fun i=>(((pls key seed K M).take i).map fun n:Nat=>(n:Int),(i:Int))) K (by simp) (by omega) (fun i hi k=> ?_) (fun k=> ?_)
 ·have hl:((pls key seed K M).take i).length≤16:=by simp [pls];omega
  unfold qE
  dsimp only
  rw [decide_eq_true (show (i:Int)<max (K:Int) 0 by omega),cond_true,KC _ _ (by omega),ab,HZ _ _ h0 h1,ab,aG (bg (by simp only [List.length_map,List.length_singleton];omega) (by simp only [List.length_map,List.length_singleton];omega)),nx (by omega)]
  congr 2
  have hg:(pls key seed K M)[i]? =some ((hsh key (IntKind.u64.wrap (seed+IntKind.u64.wrap (i:Int)))).toNat%M):=by
   unfold pls;rw [List.getElem?_map,List.getElem?_range hi];rfl
  rw [List.take_add_one,hg,List.map_append];rfl
 ·unfold qE
  dsimp only
  rw [decide_eq_false (by omega),cond_false,List.take_of_length_le (by simp [pls])]
/-! the lossy store -/
abbrev Bl:=Int×Int×Int×(List Int×List Int×List Int)
structure OkB (b:Bl) (M K:Nat) (seed:Int) (p0 p1 p2:Nat→Bool):Prop where
 m:b.1=(M:Int)
 k:b.2.1=(K:Int)
 s:b.2.2.1=seed
 m1:1≤M∧M≤4194304
 k1:1≤K∧K≤16
 r0:jl b.2.2.2.1 M p0
 r1:jl b.2.2.2.2.1 M p1
 r2:jl b.2.2.2.2.2 M p2
noncomputable def orP (p:Nat→Bool) (l:List Nat):Nat→Bool:=fun n=>p n||l.contains n
theorem Jq (p:Nat→Bool) (l:List Nat) (n:Nat):(fun m=>orP p l m||m==n)=orP p (l++[n]):=by
 funext m
 unfold orP
 rw [List.contains_eq_any_beq,List.contains_eq_any_beq,List.any_append]
 simp only [List.any_cons,List.any_nil,Bool.or_false,Bool.or_assoc]
theorem Js {row:List Int} {M:Nat} {p:Nat→Bool} (h:jl row M p) {ps:List Nat} (hp: ∀ n∈ps,n<M) (_hM:M≤4194304) (hl:ps.length≤16) (F:(Bool×Int→Option Bool)→Bool×Int→Option Bool)
  (hs: ∀ k c (i:Nat) n e,ps[i]? =some n→row[n/8]? =some e→F k (c,(i:Int))=k (c&&sS e (n%8),((i+1:Nat):Int))) (he: ∀ k c,F k (c,(ps.length:Int))=some c):aq F au (true,0)=some (ps.all p):=by
 refine fw (fun i=>((ps.take i).all p,(i:Int))) ps.length (by simp) (by omega) (fun i hi k=> ?_) (fun k=>by rw [he,List.take_length])
 have hn:=List.getElem?_eq_getElem hi
 obtain ⟨e,e1,e2,_⟩:=h.get (hp _ (List.getElem_mem hi))
 rw [hs k _ i _ e hn e1,e2,List.take_add_one,hn,List.all_append]
 simp
theorem Cf {row:List Int} {M:Nat} {p:Nat→Bool} (h:jl row M p) {ps:List Nat} (hp: ∀ n∈ps,n<M) (hM:M≤4194304) (hl:ps.length≤16): ∃ row',aq (dJ (ps.map fun n:Nat=>(n:Int))) au (row,0)=some row'∧jl row' M (orP p ps):=by
 have key: ∀ (d i:Nat) (r:List Int) (m:Nat),i+d=ps.length→d<m→jl r M (orP p (ps.take i))→ ∃ row',aq (dJ (ps.map fun n:Nat=>(n:Int))) m (r,(i:Int))=some row'∧jl row' M (orP p ps):=by
  intro d
  induction d with
  | zero=>
   intro i r m hi hm hr
   obtain ⟨m,rfl⟩: ∃ k,m=k+1:=⟨m-1,by omega⟩
   rw [aE]
   have:i=ps.length:=by omega
   subst this
   refine ⟨r,?_,by rw [List.take_length] at hr;exact hr⟩
   unfold dJ
   dsimp only
   rw [List.length_map,cT (Nat.lt_irrefl _),cond_false]
  | succ d ih=>
   intro i r m hi hm hr
   obtain ⟨m,rfl⟩: ∃ k,m=k+1:=⟨m-1,by omega⟩
   rw [aE]
   have hil:i<ps.length:=by omega
   have hn:=List.getElem?_eq_getElem hil
   have hlt:=hp _ (List.getElem_mem hil)
   obtain ⟨e,e1,_⟩:=hr.get hlt
   have hr':=hr.set hlt e1
   rw [Jq] at hr'
   obtain ⟨row',s1,s2⟩:=ih (i+1) (r.set (ps[i]/8) (orI .u8 e (fT .u8 1 ((ps[i]%8:Nat):Int)))) m (by omega) (by omega) (by rw [List.take_add_one,hn];exact hr')
   refine ⟨row',?_,s2⟩
   rw [← s1]
   generalize aq (dJ (ps.map fun n:Nat=>(n:Int))) m=k
   unfold dJ
   dsimp only
   rw [List.length_map,cj hil,cond_true,jX,List.getElem?_map,hn,Option.map_some,ab,show Int.tdiv ((ps[i]:Nat):Int) 8=((ps[i]/8:Nat):Int) from rfl,w64 (by omega),bL e1,ab,show Int.tmod ((ps[i]:Nat):Int) 8=((ps[i]%8:Nat):Int) from rfl,aG (decide_eq_true (by omega)),Int.toNat_natCast,nx (by omega)]
 obtain ⟨row',s1,s2⟩:=key ps.length 0 row au (by omega) (by show ps.length<2^64;omega) (by
  have:orP p (ps.take 0)=p:=by funext n;simp [orP]
  rw [this];exact h)
 rw [show ((0:Nat):Int)=0 from rfl] at s1
 exact ⟨row',s1,s2⟩
variable {b : Bl} {M K : Nat} {seed : Int} {p0 p1 p2 : Nat → Bool}
theorem nB (key:List Int) (seed:Int) (K M:Nat):(pls key seed K M).length=K:=by simp [pls]
theorem OkB.pl (h:OkB b M K seed p0 p1 p2) {key:List Int} (hk:Key key):gu key b.2.2.1 b.2.1 b.1=some ((pls key seed K M).map fun n:Nat=>(n:Int)):=by
 rw [h.m,h.k,h.s]
 exact OS hk.short seed h.k1.2 (by have:=h.m1;omega) (by have:=h.m1;omega)
theorem Ek (h:OkB b M K seed p0 p1 p2) {key:List Int} (hk:Key key):kP b key=some ((pls key seed K M).all p0):=by
 have hm:=h.m1
 have hl:=nB key seed K M
 have hK:=h.k1
 unfold kP BT ze
 rw [h.pl hk,ab]
 rw [Js (ps:=pls key seed K M) h.r0 (lz (by omega)) hm.2 (by omega) _ (fun k c i n e hn he=> ?_) (fun k c=> ?_),ab,ab]
 ·have hlt:=lz (by omega) n (List.mem_of_getElem? hn)
  have:=fe hn
  unfold sg
  simp only [aP]
  rw [List.length_map,cj (fe hn),cond_true,jX,List.getElem?_map,hn,Option.map_some,ab,show Int.tdiv ((n:Nat):Int) 8=((n/8:Nat):Int) from rfl,w64 (by omega),bL he,ab,show Int.tmod ((n:Nat):Int) 8=((n%8:Nat):Int) from rfl,aG (decide_eq_true (by omega)),nx (by omega)]
  rfl
 ·unfold sg
  dsimp only
  rw [List.length_map,cT (Nat.lt_irrefl _),cond_false]
theorem TC (h:OkB b M K seed p0 p1 p2) {key:List Int} (hk:Key key): ∃ b',pT b key=some (b',!(pls key seed K M).all p0)∧OkB b' M K seed (orP p0 (pls key seed K M)) p1 p2:=by
 have hm:=h.m1
 have hl:=nB key seed K M
 have hK:=h.k1
 unfold pT
 rw [Ek h hk,ab]
 cases ha:(pls key seed K M).all p0
 ·obtain ⟨row',s1,s2⟩:=Cf h.r0 (lz (by omega)) hm.2 (by omega) (ps:=pls key seed K M)
  unfold Bq oa
  rw [cond_false,lW (by rw [h.r0.len];omega),ab]
  dsimp only
  rw [h.pl hk,ab,s1,ab,ab]
  exact ⟨_,rfl,⟨h.m,h.k,h.s,h.m1,h.k1,s2,h.r1,h.r2⟩⟩
 ·have:orP p0 (pls key seed K M)=p0:=by
   funext n
   unfold orP
   cases hn:p0 n
   ·rw [Bool.false_or,← Bool.not_eq_true]
    intro hc
    have:=List.all_eq_true.1 ha n (List.contains_iff_mem.1 hc)
    rw [hn] at this;cases this
   ·rfl
  rw [this,cond_true]
  exact ⟨b,rfl,h⟩
noncomputable def ia (key:List Int) (seed:Int) (K M:Nat) (p0:Nat→Bool) (flag:Int):Int:=if flag<0∨1<flag then 1 else if (pls key seed K M).all p0=true then 0 else 10
theorem O8 (h:OkB b M K seed p0 p1 p2) {key:List Int} (hk:Key key) (flag:Int):sh b key flag=some (ia key seed K M p0 flag):=by
 unfold sh ia
 simp only [aP]
 by_cases hb:flag<0∨1<flag
 ·rw [if_pos hb,show (decide (flag<0)||decide (1<flag))=true by simpa using hb,cond_true]
 ·rw [if_neg hb,show (decide (flag<0)||decide (1<flag))=false by simp;omega,cond_false,Ek h hk,ab]
  cases (pls key seed K M).all p0 <;> rfl
theorem V7: @tQ= @dJ:=rfl
theorem V4: @tx= @dJ:=rfl
theorem Uk (h:OkB b M K seed p0 p1 p2) {key:List Int} (hk:Key key) (flag:Int): ∃ b',wV b key flag=some (b',ia key seed K M p0 flag)∧
  OkB b' M K seed p0 (if ia key seed K M p0 flag=0∧flag=0 then orP p1 (pls key seed K M) else p1) (if ia key seed K M p0 flag=0∧flag=1 then orP p2 (pls key seed K M) else p2):=by
 have hm:=h.m1
 have hl:=nB key seed K M
 have hK:=h.k1
 unfold wV
 rw [O8 h hk,ab]
 by_cases hw:ia key seed K M p0 flag=0
 ·have hb:flag=0∨flag=1:=by
   unfold ia at hw
   split at hw
   ·omega
   ·omega
  rw [hw,show ((0:Int) != 0)=false from rfl,cond_false]
  rcases hb with rfl | rfl
  ·obtain ⟨row',s1,s2⟩:=Cf h.r1 (lz (by omega)) hm.2 (by omega) (ps:=pls key seed K M)
   unfold pS sR
   rw [show (IntKind.i64.wrap (1+0)==0)=false from rfl,show (IntKind.i64.wrap (1+0)==1)=true from rfl,cond_false,cond_true,lW (by rw [h.r1.len];omega),ab]
   dsimp only
   rw [h.pl hk,ab,V7,s1,ab,ab]
   refine ⟨_,rfl,?_⟩
   rw [if_pos ⟨rfl,rfl⟩,if_neg (by omega)]
   exact ⟨h.m,h.k,h.s,h.m1,h.k1,h.r0,s2,h.r2⟩
  ·obtain ⟨row',s1,s2⟩:=Cf h.r2 (lz (by omega)) hm.2 (by omega) (ps:=pls key seed K M)
   unfold pS sq
   rw [show (IntKind.i64.wrap (1+1)==0)=false from rfl,show (IntKind.i64.wrap (1+1)==1)=false from rfl,show (IntKind.i64.wrap (1+1)==2)=true from rfl,cond_false,cond_false,cond_true,lW (by rw [h.r2.len];omega),ab]
   dsimp only
   rw [h.pl hk,ab,V4,s1,ab,ab]
   refine ⟨_,rfl,?_⟩
   rw [if_neg (by omega),if_pos ⟨rfl,rfl⟩]
   exact ⟨h.m,h.k,h.s,h.m1,h.k1,h.r0,h.r1,s2⟩
 ·rw [show (ia key seed K M p0 flag != 0)=true by simpa using hw,cond_true,if_neg (fun e=>hw e.1),if_neg (fun e=>hw e.1)]
  exact ⟨b,rfl,h⟩
theorem Uq (h:OkB b M K seed p0 p1 p2) {key:List Int} (hk:Key key) (flag:Int):w9 b key flag=some (if ia key seed K M p0 flag=0 then (pls key seed K M).all (if flag=1 then p2 else p1) else false,ia key seed K M p0 flag):=by
 have hm:=h.m1
 have hl:=nB key seed K M
 have hK:=h.k1
 unfold w9
 rw [O8 h hk,ab]
 by_cases hw:ia key seed K M p0 flag=0
 ·have hb:flag=0∨flag=1:=by
   unfold ia at hw
   split at hw
   ·omega
   ·omega
  rw [if_pos hw,hw,show ((0:Int) != 0)=false from rfl,cond_false]
  have key2: ∀ (row:List Int) (p:Nat→Bool) (r:Int),jl row M p→(∀ (k:_→Option Bool) c (i:Nat) (n:Nat) e,(pls key seed K M)[i]? =some n→row[n/8]? =some e→iP b r true ((pls key seed K M).map fun n:Nat=>(n:Int)) k (c,(i:Int))=k (c&&sS e (n%8),((i+1:Nat):Int)))→
    pQ b key r=some ((pls key seed K M).all p):=by
   intro row p r hr hs
   unfold pQ rH
   rw [h.pl hk,ab,Js (ps:=pls key seed K M) hr (lz (by omega)) hm.2 (by omega) _ hs (fun k c=> ?_),ab]
   unfold iP
   dsimp only
   rw [List.length_map,cT (Nat.lt_irrefl _),cond_false]
  rcases hb with rfl | rfl
  ·rw [key2 b.2.2.2.2.1 p1 _ h.r1 (fun k c i n e hn he=> ?_),ab]
   ·rfl
   ·have hlt:=lz (by omega) n (List.mem_of_getElem? hn)
    have:=fe hn
    unfold iP
    simp only [aP]
    rw [List.length_map,cj (fe hn),cond_true,jX,List.getElem?_map,hn,Option.map_some,ab,show (IntKind.i64.wrap (1+0)==0)=false from rfl,show (IntKind.i64.wrap (1+0)==1)=true from rfl,cond_false,cond_true,show Int.tdiv ((n:Nat):Int) 8=((n/8:Nat):Int) from rfl,w64 (by omega),bL he,ab,show Int.tmod ((n:Nat):Int) 8=((n%8:Nat):Int) from rfl,aG (decide_eq_true (by omega)),nx (by omega)]
    rfl
  ·rw [key2 b.2.2.2.2.2 p2 _ h.r2 (fun k c i n e hn he=> ?_),ab]
   ·rfl
   ·have hlt:=lz (by omega) n (List.mem_of_getElem? hn)
    have:=fe hn
    unfold iP
    simp only [aP]
    rw [List.length_map,cj (fe hn),cond_true,jX,List.getElem?_map,hn,Option.map_some,ab,show (IntKind.i64.wrap (1+1)==0)=false from rfl,show (IntKind.i64.wrap (1+1)==1)=false from rfl,show (IntKind.i64.wrap (1+1)==2)=true from rfl,cond_false,cond_false,cond_true,show Int.tdiv ((n:Nat):Int) 8=((n/8:Nat):Int) from rfl,w64 (by omega),bL he,ab,show Int.tmod ((n:Nat):Int) 8=((n%8:Nat):Int) from rfl,aG (decide_eq_true (by omega)),nx (by omega)]
    rfl
 ·rw [if_neg hw,show (ia key seed K M p0 flag != 0)=true by simpa using hw,cond_true]
/-! how many bits are 1 -/
theorem Su {t:Int} {k:Int×Int→Option Int}: ∀ (m:Nat) (e n:Int) (M:Nat),pc e=m→m<M→0≤e→e≤255→0≤n→n+(m:Int)<1000000000→aq (jT t k) M (n,e)=k (n+(m:Int),IntKind.i64.wrap (t+1))
 | m,e,n,M,hp,hM,h0,h1,hn0,hn1=>by
  obtain ⟨M,rfl⟩: ∃ k,M=k+1:=⟨M-1,by omega⟩
  rw [aE]
  obtain ⟨x,rfl⟩:=Int.eq_ofNat_of_zero_le h0
  have hf:=NJ ⟨x,by omega⟩
  by_cases hx:x=0
  ·subst hx
   have:m=0:=by rw [← hp];exact hf.1 rfl
   subst this
   generalize aq (jT t k) M=kk
   unfold jT
   dsimp only
   rw [show decide ((0:Int)<((0:Nat):Int))=false from rfl,cond_false]
   simp
  ·obtain ⟨f1,f2,f3⟩:=hf.2 (by show 0<x;omega)
   simp only at f1 f2 f3
   obtain ⟨m,rfl⟩: ∃ k,m=k+1:=⟨m-1,by omega⟩
   have ih:=Su (t:=t) (k:=k) m _ (n+1) M (by omega) (by omega) f2 f3 (by omega) (by omega)
   generalize aq (jT t k) M=kk at ih ⊢
   unfold jT
   dsimp only
   rw [decide_eq_true (show (0:Int)<(x:Int) by omega),cond_true,w64 (show _∧n+1≤_ by omega),ih]
   congr 2;omega
noncomputable def sC (row:List Int):Nat:=(row.map pc).sum
theorem SV (row:List Int):sC row≤8*row.length:=by
 induction row with
 | nil=>simp [sC]
 | cons e r ih=>
  have:=Ss e
  simp only [sC,List.map_cons,List.sum_cons,List.length_cons] at *; omega
theorem TA {b:Bl} (hb:By b.2.2.2.1) (hl:b.2.2.2.1.length<1000000):tu b=some (sC b.2.2.2.1:Int):=by
 unfold tu
 refine fw (fun i=>((sC (b.2.2.2.1.take i):Int),(i:Int))) b.2.2.2.1.length (by simp [sC]) (by omega) (fun i hi k=> ?_) (fun k=> ?_)
 ·have he:=hb _ (List.getElem_mem hi)
  have h1:=SV (b.2.2.2.1.take i)
  have h2:=Ss (b.2.2.2.1[i])
  have h3:(b.2.2.2.1.take i).length≤1000000:=by rw [List.length_take];omega
  unfold sP
  dsimp only
  rw [cj hi,cond_true,bA hi,ab,Su (pc b.2.2.2.1[i]) _ _ au rfl (by show _<2^64;omega) he.1 he.2 (by omega) (by omega),nx (by omega)]
  congr 2
  unfold sC
  rw [List.take_add_one,List.getElem?_eq_getElem hi,List.map_append,List.sum_append]
  simp
 ·unfold sP
  dsimp only
  rw [cT (Nat.lt_irrefl _),cond_false,List.take_length]
/-! the store -/
structure OkL (t:St) (s:List Fd) (M K:Nat) (seed:Int) (p0 p1 p2:Nat→Bool):Prop where
 sch:t.2.1=s
 kind:t.1=4
 ok:OkB t.2.2.2.2.2.2.2 M K seed p0 p1 p2
noncomputable def plS (s:List Fd) (v:List Int) (seed:Int) (K M:Nat):List Nat:=pls (enc s v) seed K M
noncomputable def Vy (s:List Fd) (v:List Int) (seed:Int) (K M:Nat) (p0:Nat→Bool):Bool:=(plS s v seed K M).all p0
variable {s : List Fd} {t : St}
theorem Ti (hs:Fds s) (h:OkL t s M K seed p0 p1 p2) (v:List Int) (hl:v.length<100000000):
  ∃ t',aZ t v=some (t',if inC s v=0 then (!Vy s v seed K M p0,0) else (false,inC s v))∧OkL t' s M K seed (if inC s v=0 then orP p0 (plS s v seed K M) else p0) p1 p2:=by
 by_cases hc:inC s v=0
 ·have hv:=ed.1 hc
  rw [if_pos hc,if_pos hc,(H7 (in0 hs h.sch hv)).2.2.2.2 h.kind]
  unfold fI
  obtain ⟨b',e1,e2⟩:=TC h.ok (iG hs hv)
  rw [nW hs h.sch hv,ab,e1,ab]
  exact ⟨_,rfl,⟨h.sch,h.kind,e2⟩⟩
 ·rw [if_neg hc,if_neg hc]
  unfold aZ
  rw [h.sch,jz s v hl,ab,show (inC s v != 0)=true by simpa using hc,cond_true]
  exact ⟨t,rfl,h⟩
theorem S7 (hs:Fds s) (h:OkL t s M K seed p0 p1 p2) (v:List Int) (hl:v.length<100000000):
  bu t v=some (if inC s v=0 then (Vy s v seed K M p0,0) else (false,inC s v)):=by
 by_cases hc:inC s v=0
 ·have hv:=ed.1 hc
  rw [if_pos hc,(HO (in0 hs h.sch hv)).2.2.2.2 h.kind]
  unfold fE
  rw [nW hs h.sch hv,ab,Ek h.ok (iG hs hv),ab,ab];rfl
 ·rw [if_neg hc]
  unfold bu
  rw [h.sch,jz s v hl,ab,show (inC s v != 0)=true by simpa using hc,cond_true]
noncomputable def qS (s:List Fd) (v:List Int) (seed:Int) (K M:Nat) (p0:Nat→Bool) (flag:Int):Int:=if inC s v=0 then ia (enc s v) seed K M p0 flag else inC s v
theorem SR (hs:Fds s) (h:OkL t s M K seed p0 p1 p2) (v:List Int) (hl:v.length<100000000) (flag:Int):
  ∃ t',cC t v flag=some (t',qS s v seed K M p0 flag)∧OkL t' s M K seed p0 (if qS s v seed K M p0 flag=0∧flag=0 then orP p1 (plS s v seed K M) else p1) (if qS s v seed K M p0 flag=0∧flag=1 then orP p2 (plS s v seed K M) else p2):=by
 unfold qS
 by_cases hc:inC s v=0
 ·have hv:=ed.1 hc
  rw [if_pos hc,(GV flag (in0 hs h.sch hv)).2.2.2.2 h.kind]
  unfold iJ
  obtain ⟨b',e1,e2⟩:=Uk h.ok (iG hs hv) flag
  rw [nW hs h.sch hv,ab,e1,ab]
  exact ⟨_,rfl,⟨h.sch,h.kind,e2⟩⟩
 ·rw [if_neg hc,if_neg (fun e=>hc e.1),if_neg (fun e=>hc e.1)]
  unfold cC
  rw [h.sch,jz s v hl,ab,show (inC s v != 0)=true by simpa using hc,cond_true]
  exact ⟨t,rfl,h⟩
theorem Uc (hs:Fds s) (h:OkL t s M K seed p0 p1 p2) (v:List Int) (hl:v.length<100000000) (flag:Int):
  bU t v flag=some (if qS s v seed K M p0 flag=0 then (plS s v seed K M).all (if flag=1 then p2 else p1) else false,qS s v seed K M p0 flag):=by
 unfold qS
 by_cases hc:inC s v=0
 ·have hv:=ed.1 hc
  rw [if_pos hc,(Hz flag (in0 hs h.sch hv)).2.2.2.2 h.kind]
  unfold iU
  rw [nW hs h.sch hv,ab,Uq h.ok (iG hs hv) flag,ab];rfl
 ·rw [if_neg hc,if_neg hc]
  unfold bU
  rw [h.sch,jz s v hl,ab,show (inC s v != 0)=true by simpa using hc,cond_true]
theorem P0 (h:OkL t s M K seed p0 p1 p2):bZ t=some (sC t.2.2.2.2.2.2.2.2.2.2.1:Int):=by
 have hm:=h.ok.m1
 rw [(Fp (t:=t)).2.2.2.2 h.kind]
 unfold gQ
 rw [TA h.ok.r0.byt (by rw [h.ok.r0.len];omega),ab]
theorem L0 {M K:Nat} (hM:1≤M∧M≤4194304) (hK:1≤K∧K≤16) (seed:Int):pg (M:Int) (K:Int) seed=some (((M:Int),(K:Int),seed,(List.replicate ((M+7)/8) 0,List.replicate ((M+7)/8) 0,List.replicate ((M+7)/8) 0)),0):=by
 unfold pg
 simp only [aP]
 rw [decide_eq_false (show ¬ (M:Int)<1 by omega),decide_eq_false (show ¬ (4194304:Int)<(M:Int) by omega),decide_eq_false (show ¬ (K:Int)<1 by omega),decide_eq_false (show ¬ (16:Int)<(K:Int) by omega)]
 simp only [Bool.or_self,cond_false]
 have hb:IntKind.i64.wrap (Int.tdiv (IntKind.i64.wrap ((M:Int)+7)) 8)=(((M+7)/8:Nat):Int):=by
  rw [w64 (show _∧(M:Int)+7≤_ by omega),show Int.tdiv ((M:Int)+7) 8=(((M+7)/8:Nat):Int) from rfl,w64 (by omega)]
 obtain ⟨m,hm⟩: ∃ m,au=m+4:=⟨2^64-4,rfl⟩
 rw [hm,aE]
 generalize hF:mH (M:Int) (K:Int) seed=F
 have c1:aw ((M+7)/8) 1=true:=bg (by omega) (by omega)
 have c0:decide ((0:Int)≤(((M+7)/8:Nat):Int))=true:=decide_eq_true (by omega)
 have hs0: ∀ k a1 a2 a3,F k (a1,a2,a3,0)=k (List.replicate ((M+7)/8) 0,a2,a3,1):=by
  intros;rw [← hF];unfold mH;dsimp only;rw [hb,Int.toNat_natCast,c0,c1];rfl
 have hs1: ∀ k a1 a2 a3,F k (a1,a2,a3,1)=k (a1,List.replicate ((M+7)/8) 0,a3,2):=by
  intros;rw [← hF];unfold mH;dsimp only;rw [hb,Int.toNat_natCast,c0,c1];rfl
 have hs2: ∀ k a1 a2 a3,F k (a1,a2,a3,2)=k (a1,a2,List.replicate ((M+7)/8) 0,3):=by
  intros;rw [← hF];unfold mH;dsimp only;rw [hb,Int.toNat_natCast,c0,c1];rfl
 rw [hs0,aE,hs1,aE,hs2,aE,← hF]
 rfl
theorem Tq (hf:FI s) (hs:ey s) {M K:Nat} (hM:1≤M∧M≤4194304) (hK:1≤K∧K≤16) (o:Op) (h4:o.1=4) (hcap:0≤o.2.1∧o.2.1≤1048576) (hm:o.2.2.2.2.1=(M:Int)) (hk:o.2.2.2.2.2=(K:Int)):
  ∃ t,cn s o=some (t,0)∧OkL t s M K o.2.2.2.1 (fun _=>false) (fun _=>false) (fun _=>false):=by
 rw [(xg hf hs o).2.2.2.2 h4]
 unfold dG
 simp only [aP]
 rw [decide_eq_false (show ¬ o.2.1<0 by omega),decide_eq_false (show ¬ 1048576<o.2.1 by omega),Bool.or_self,cond_false,hm,hk,L0 hM hK,ab]
 exact ⟨_,rfl,⟨rfl,h4,⟨rfl,rfl,rfl,hM,hK,jl.zero M,jl.zero M,jl.zero M⟩⟩⟩
end So
end Go.Proofs.YtgcgmclghbebjaaGreat
namespace Go.Proofs.YtgcgmclghbebjaaGreat
namespace So
theorem L6:kU=some true:=by
 show _=_
 kernel_rfl
end So
end Go.Proofs.YtgcgmclghbebjaaGreat
namespace Go.Proofs.YtgcgmclghbebjaaGreat
namespace So
noncomputable def unO (t:St) (i:Int):=(t.1,t.2.1,t.2.2.1,t.2.2.2.1.1.1,t.2.2.2.1.1.2.1,t.2.2.2.1.1.2.2,t.2.2.2.1.2,t.2.2.2.2.1.1,t.2.2.2.2.1.2.1.1,t.2.2.2.2.1.2.1.2.1,t.2.2.2.2.1.2.1.2.2,t.2.2.2.2.1.2.2,t.2.2.2.2.2.1.1,t.2.2.2.2.2.1.2,t.2.2.2.2.2.2.1.1.1,t.2.2.2.2.2.2.1.1.2.1,t.2.2.2.2.2.2.1.1.2.2.1,t.2.2.2.2.2.2.1.1.2.2.2.1,t.2.2.2.2.2.2.1.1.2.2.2.2,t.2.2.2.2.2.2.1.2.1.1,t.2.2.2.2.2.2.1.2.1.2.1,t.2.2.2.2.2.2.1.2.1.2.2.1,t.2.2.2.2.2.2.1.2.1.2.2.2.1,t.2.2.2.2.2.2.1.2.1.2.2.2.2,t.2.2.2.2.2.2.1.2.2.1,t.2.2.2.2.2.2.1.2.2.2.1,t.2.2.2.2.2.2.1.2.2.2.2.1,t.2.2.2.2.2.2.1.2.2.2.2.2.1,t.2.2.2.2.2.2.1.2.2.2.2.2.2,t.2.2.2.2.2.2.2.1,t.2.2.2.2.2.2.2.2.1,t.2.2.2.2.2.2.2.2.2.1,t.2.2.2.2.2.2.2.2.2.2.1,t.2.2.2.2.2.2.2.2.2.2.2.1,t.2.2.2.2.2.2.2.2.2.2.2.2,i)
abbrev OIn:=List Fd×Int×List (List Int)×List Int×Int
noncomputable def lastF (v:List Int) (f:Int) (t:St):Option Bool:=
 (bu t v).bind fun r147=>(bZ t).bind fun r150=>(aZ t v).bind fun r153=>
 bif (r147.2 != r153.2.2||(r147.2==0&&r153.2.1==r147.1)) then some false else (
 (bU t v f).bind fun r189=>(cC r153.1 v f).bind fun r192=>(bU r192.1 v f).bind fun r217=>(bU t v f).bind fun r220=>(bu t v).bind fun r223=>
 bif (r147.2 != 0) then some (true&&(r189.2==r147.2)&&(r192.2==r147.2)&&(r217.2==r147.2))
 else cf (true&&(r223.1==r147.1)) default (bZ t) fun r243=>some (true&&(r223.1==r147.1)&&(r243==r150)&&(r192.2==0)&&(r217.2==0)&&r217.1&&(r189.1==r220.1)&&(r189.2==r220.2)&&((r189.2==0)==r147.1)))
end So
end Go.Proofs.YtgcgmclghbebjaaGreat
namespace Go.Proofs.YtgcgmclghbebjaaGreat
namespace So
theorem NX (a b:Int):0≤gM .u64 a b∧gM .u64 a b<18446744073709551616:=tN _
theorem C6: ∀ (l:List Int) (x:Int),0≤x→x<18446744073709551616→0≤l.foldl hst x∧l.foldl hst x<18446744073709551616
 | [],_,h0,h1=>⟨h0,h1⟩
 | c::l,x,_,_=>by
  have:=tN ((gM .u64 x (IntKind.u64.wrap c))*1099511628211)
  exact C6 l _ this.1 this.2
theorem Lj {x:Int} (h0:0≤x) (h1:x<18446744073709551616):IntKind.u64.wrap (Int.tdiv x 536870912)=ar .u64 x 29∧IntKind.u64.wrap (Int.tdiv x 4294967296)=ar .u64 x 32:=by
 obtain ⟨n,rfl⟩:=Int.eq_ofNat_of_zero_le h0
 have a:ar .u64 (n:Int) 29=((n/536870912:Nat):Int):=Me rfl n 29 (by omega)
 have b:ar .u64 (n:Int) 32=((n/4294967296:Nat):Int):=Me rfl n 32 (by omega)
 rw [a,b,show Int.tdiv (n:Int) 536870912=((n/536870912:Nat):Int) from rfl,show Int.tdiv (n:Int) 4294967296=((n/4294967296:Nat):Int) from rfl]
 exact ⟨qx (by omega),qx (by omega)⟩
theorem Qe (b:List Int) (seed:Int) (hl:b.length<100000000):iV b seed=some (hsh b seed):=by
 unfold iV
 refine fw (fun i=>((b.take i).foldl hst (gM .u64 seed 11400714819323198485),(i:Int))) b.length rfl (by omega) (fun i hi k=> ?_) (fun k=> ?_)
 ·unfold jN
  dsimp only
  rw [cj hi,cond_true,bA hi,ab,nx (by omega),List.take_add_one,List.getElem?_eq_getElem hi,List.foldl_append]
  rfl
 ·unfold jN
  dsimp only
  have h0:=NX seed 11400714819323198485
  have h1:=C6 b _ h0.1 h0.2
  rw [cT (Nat.lt_irrefl _),cond_false,List.take_length]
  unfold hsh
  dsimp only
  rw [(Lj h1.1 h1.2).1]
  have h2:=tN ((gM .u64 (b.foldl hst (gM .u64 seed 11400714819323198485)) (ar .u64 (b.foldl hst (gM .u64 seed 11400714819323198485)) 29))*13787848793156543929)
  rw [(Lj h2.1 h2.2).2]
theorem OM (b:List Int) (seed:Int) {n:Nat} (h0:0<n) (hn:n<1000000000):ix (hsh b seed) (n:Int)=some (((hsh b seed).toNat%n:Nat):Int):=by
 unfold ix
 have h:=Fc b seed
 rw [decide_eq_false (by omega),cond_false,qx (by omega),aG (by simp;omega)]
 have:Int.tmod (hsh b seed) (n:Int)=(((hsh b seed).toNat%n:Nat):Int):=by
  obtain ⟨m,hm⟩:=Int.eq_ofNat_of_zero_le h.1
  rw [hm];rfl
 have hlt:=Nat.mod_lt (hsh b seed).toNat h0
 rw [this,w64 (by omega)]
theorem MD {key:List Int} (hk:key.length<100000) (seed:Int) {K M:Nat} (hK:K≤16) (h0:0<M) (h1:M<1000000000):bf key seed (K:Int) (M:Int)=some ((pls key seed K M).map fun n:Nat=>(n:Int)):=by
 unfold bf
 refine fw (fun i=>(((pls key seed K M).take i).map fun n:Nat=>(n:Int),(i:Int))) K (by simp) (by omega) (fun i hi k=> ?_) (fun k=> ?_)
 ·have hl:((pls key seed K M).take i).length≤16:=by simp [pls];omega
  unfold iz
  dsimp only
  rw [cj hi,cond_true,qx (show _∧(i:Int)≤_ by omega),Qe _ _ (by omega),ab,OM _ _ h0 h1,ab,aG (bg (by simp only [List.length_map,List.length_singleton];omega) (by simp only [List.length_map,List.length_singleton];omega)),nx (by omega)]
  congr 2
  have hg:(pls key seed K M)[i]? =some ((hsh key (IntKind.u64.wrap (seed+(i:Int)))).toNat%M):=by
   unfold pls;rw [List.getElem?_map,List.getElem?_range hi,Option.map_some,qx (show _∧(i:Int)≤_ by omega)]
  rw [List.take_add_one,hg,List.map_append];rfl
 ·unfold iz
  dsimp only
  rw [cT (Nat.lt_irrefl _),cond_false,List.take_of_length_le (by simp [pls])]
/-! rows of places -/
noncomputable def nI (P:List Nat):List Int:=P.map fun n:Nat=>(n:Int)
theorem mP (P:List Nat):(nI P).length=P.length:=by simp [nI]
theorem DC {P:List Nat} {i:Nat} (h:i<P.length):idx (nI P) (i:Int)=some ((P[i]:Nat):Int):=by
 rw [jX,nI,List.getElem?_map,List.getElem?_eq_getElem h];rfl
theorem UU (P:List Nat) (n:Nat) (hl:P.length<100000000):fy (nI P) (n:Int)=some (P.contains n):=by
 unfold fy
 refine (findF (F:=fp (nI P) (n:Int)) (fun i=>(i:Int)) (fun i=>if h:i<P.length then P[i]==n else false) (r:=fun i=>if i<P.length then some true else some false) P.length (s:=0) rfl (by omega) (fun i hi hp k=> ?_) (fun i hi hp k=> ?_) (fun k=> ?_)).elim (fun ⟨i,h1,h2,h3,h4⟩=> ?_) (fun ⟨h1,h4⟩=> ?_)
 ·rw [dif_pos hi] at hp
  unfold fp
  rw [mP,cj hi,cond_true,DC hi,ab,show (((P[i]:Nat):Int)==(n:Int))=false from beq_eq_false_iff_ne.2 (fun e=>(beq_eq_false_iff_ne.1 hp) (Int.ofNat.inj e)),cond_false,nx (by omega)]
 ·rw [dif_pos hi] at hp
  unfold fp
  rw [mP,cj hi,cond_true,DC hi,ab,show (((P[i]:Nat):Int)==(n:Int))=true from beq_iff_eq.2 (congrArg _ (beq_iff_eq.1 hp)),cond_true,if_pos hi]
 ·unfold fp
  rw [mP,cT (Nat.lt_irrefl _),cond_false,if_neg (Nat.lt_irrefl _)]
 ·rw [h4,if_pos h1]
  rw [dif_pos h1,beq_iff_eq] at h2
  rw [List.contains_iff_mem.2 (by rw [← h2];exact List.getElem_mem h1)]
 ·rw [h4,if_neg (Nat.lt_irrefl _)]
  congr 1
  rw [eq_comm,← Bool.not_eq_true]
  intro hc
  obtain ⟨i,hi,e⟩:=List.getElem_of_mem (List.contains_iff_mem.1 hc)
  have:=h1 i hi
  rw [dif_pos hi,e] at this
  simp at this
theorem V5:kR=fy:=rfl
structure ml (row:List Int) (M:Nat) (p:Nat→Bool):Prop where
 ex: ∃ P:List Nat,row=nI P∧P.Nodup∧(∀ n,n∈P↔p n=true)
 low: ∀ n,p n=true→n<M
theorem Fv {P:List Nat} {M:Nat} (hn:P.Nodup) (h: ∀ n∈P,n<M):P.length≤M:=by
 have:=DA hn (m:=List.range M) (fun n hm=>List.mem_range.2 (h n hm))
 rwa [List.length_range] at this
theorem ml.in_ {row:List Int} {M:Nat} {p:Nat→Bool} (h:ml row M p) (hM:M≤4194304) (n:Nat):fy row (n:Int)=some (p n):=by
 obtain ⟨⟨P,rfl,h2,h3⟩,h4⟩:=h
 have:=Fv h2 (fun n hn=>h4 n ((h3 n).1 hn))
 rw [UU P n (by omega)]
 congr 1
 rw [Bool.eq_iff_iff,List.contains_iff_mem,h3]
theorem ml.len {row:List Int} {M:Nat} {p:Nat→Bool} (h:ml row M p):row.length≤M:=by
 obtain ⟨⟨P,rfl,h2,h3⟩,h4⟩:=h
 rw [mP]
 exact Fv h2 (fun n hn=>h4 n ((h3 n).1 hn))
theorem DM {row:List Int} {M:Nat} {p:Nat→Bool} (h:ml row M p) (hM:M≤4194304) (ps:List Nat) (hl:ps.length≤16):dD row (nI ps)=some (ps.all p):=by
 unfold dD
 refine (findF (F:=eN row (nI ps)) (fun i=>(i:Int)) (fun i=>if h:i<ps.length then !p ps[i] else false) (r:=fun i=>if i<ps.length then some false else some true) ps.length (s:=0) rfl (by omega) (fun i hi hp k=> ?_) (fun i hi hp k=> ?_) (fun k=> ?_)).elim (fun ⟨i,h1,h2,h3,h4⟩=> ?_) (fun ⟨h1,h4⟩=> ?_)
 ·rw [dif_pos hi] at hp
  unfold eN
  rw [mP,cj hi,cond_true,DC hi,ab,h.in_ hM,ab,hp,cond_false,nx (by omega)]
 ·rw [dif_pos hi] at hp
  unfold eN
  rw [mP,cj hi,cond_true,DC hi,ab,h.in_ hM,ab,hp,cond_true,if_pos hi]
 ·unfold eN
  rw [mP,cT (Nat.lt_irrefl _),cond_false,if_neg (Nat.lt_irrefl _)]
 ·rw [h4,if_pos h1]
  rw [dif_pos h1,Bool.not_eq_true'] at h2
  congr 1
  rw [eq_comm,← Bool.not_eq_true]
  intro hc
  have:=List.all_eq_true.1 hc _ (List.getElem_mem h1)
  rw [this] at h2;cases h2
 ·rw [h4,if_neg (Nat.lt_irrefl _)]
  congr 1
  rw [eq_comm,List.all_eq_true]
  intro x hx
  obtain ⟨i,hi,e⟩:=List.getElem_of_mem hx
  have:=h1 i hi
  rw [dif_pos hi,e,Bool.not_eq_false'] at this
  exact this
theorem E9 {M:Nat} (hM:M≤4194304) {p:Nat→Bool} {ps:List Nat} (hp: ∀ n∈ps,n<M) (hl:ps.length≤16): ∀ (d i:Nat) (row:List Int) (m:Nat),i+d=ps.length→d<m→ml row M (orP p (ps.take i))→
  ∃ row',aq (df (nI ps)) m (row,(i:Int))=some row'∧ml row' M (orP p ps)
 | 0,i,row,m,hi,hm,h=>by
  obtain ⟨m,rfl⟩: ∃ k,m=k+1:=⟨m-1,by omega⟩
  rw [aE]
  refine ⟨row,?_,by rw [List.take_of_length_le (by omega)] at h;exact h⟩
  unfold df
  dsimp only
  rw [mP,cT (by omega),cond_false]
 | d+1,i,row,m,hi,hm,h=>by
  obtain ⟨m,rfl⟩: ∃ k,m=k+1:=⟨m-1,by omega⟩
  have hil:i<ps.length:=by omega
  have hlt:=hp _ (List.getElem_mem hil)
  have hrl:=h.len
  have hin:=h.in_ hM ps[i]
  have key: ∀ row2,ml row2 M (orP p (ps.take (i+1)))→ ∃ row',aq (df (nI ps)) m (row2,((i+1:Nat):Int))=some row'∧ml row' M (orP p ps):=fun row2 h2=>E9 hM hp hl d (i+1) row2 m (by omega) (by omega) h2
  rw [aE]
  generalize aq (df (nI ps)) m=K at key ⊢
  have hs:orP p (ps.take (i+1))=fun n=>orP p (ps.take i) n||n==ps[i]:=by
   rw [Jq,List.take_add_one,List.getElem?_eq_getElem hil];rfl
  unfold df
  dsimp only
  rw [mP,cj hil,cond_true,DC hil,ab,V5,hin,ab]
  cases hc:orP p (ps.take i) ps[i]
  ·rw [Bool.not_false,cond_true,ab,aG (bg (by rw [List.length_singleton];omega) (by rw [List.length_singleton];omega)),nx (by omega)]
   refine key _ ?_
   rw [hs]
   obtain ⟨⟨P,h1,h2,h3⟩,h4⟩:=h
   refine ⟨⟨P++[ps[i]],by rw [h1];simp [nI],?_,fun n=> ?_⟩,fun n hn=> ?_⟩
   ·rw [List.nodup_append]
    refine ⟨h2,by simp,fun a ha b hb=> ?_⟩
    rw [List.mem_singleton.1 hb]
    rintro rfl
    have:=(h3 ps[i]).1 ha
    rw [hc] at this;cases this
   ·rw [List.mem_append,List.mem_singleton,h3,Bool.or_eq_true,beq_iff_eq]
   ·rcases Bool.or_eq_true_iff.1 hn with hn | hn
    ·exact h4 n hn
    ·rw [beq_iff_eq] at hn;omega
  ·rw [Bool.not_true,cond_false,nx (by omega)]
   refine key _ ?_
   have:(fun n=>orP p (ps.take i) n||n==ps[i])=orP p (ps.take i):=by
    funext n
    by_cases e:n=ps[i]
    ·rw [e,hc,Bool.true_or]
    ·rw [beq_eq_false_iff_ne.2 e,Bool.or_false]
   rw [hs,this];exact h
theorem Ci {M:Nat} (hM:M≤4194304) {p:Nat→Bool} {row:List Int} (h:ml row M p) {ps:List Nat} (hp: ∀ n∈ps,n<M) (hl:ps.length≤16): ∃ row',dn row (nI ps)=some row'∧ml row' M (orP p ps):=by
 unfold dn
 have hrl:=h.len
 rw [List.nil_append,List.length_nil,aG (bg (by omega) (by omega))]
 have:=E9 hM hp hl ps.length 0 row au (by omega) (by show _<2^64;omega) (by
  have:orP p (ps.take 0)=p:=by funext n;simp [orP]
  rw [this];exact h)
 rw [show ((0:Nat):Int)=0 from rfl] at this
 exact this
/-! as many bits as places -/
noncomputable def cnt (p:Nat→Bool) (n:Nat):Nat:=((List.range n).filter p).length
theorem TY (p:Nat→Bool) (a b:Nat):cnt p (a+b)=cnt p a+cnt (fun j=>p (a+j)) b:=by
 unfold cnt
 rw [List.range_add,List.filter_append,List.length_append,List.filter_map,List.length_map]
 rfl
theorem Gb {p q:Nat→Bool} (h: ∀ j,j<8→p j=q j):(List.range 8).filter p=(List.range 8).filter q:=List.filter_congr fun x hx=>h x (List.mem_range.1 hx)
theorem IE {row:List Int} {M:Nat} {p:Nat→Bool} (h:jl row M p): ∀ i,i≤row.length→sC (row.take i)=cnt p (8*i)
 | 0,_=>rfl
 | i+1,hi=>by
  have hil:i<row.length:=by omega
  have he:=List.getElem?_eq_getElem hil
  have ih:=IE h i (by omega)
  have h8:pc row[i]=cnt (fun j=>p (8*i+j)) 8:=by
   unfold pc cnt
   rw [Gb fun j hj=> ?_]
   have:=h.bit (8*i+j) row[i] (by rw [show (8*i+j)/8=i by omega];exact he)
   rw [show (8*i+j)%8=j by omega] at this
   exact this
  rw [show 8*(i+1)=8*i+8 by omega,TY,← ih,← h8]
  unfold sC
  rw [List.take_add_one,he,List.map_append,List.sum_append]
  simp
theorem Qg {row:List Int} {M:Nat} {p:Nat→Bool} (h:jl row M p) {row':List Int} (h':ml row' M p):sC row=row'.length:=by
 have h1:=IE h row.length (Nat.le_refl _)
 rw [List.take_length] at h1
 obtain ⟨⟨P,rfl,h2,h3⟩,h4⟩:=h'
 rw [h1,mP]
 unfold cnt
 have hl:=h.len
 have hm: ∀ n,n∈(List.range (8*row.length)).filter p↔n∈P:=by
  intro n
  rw [List.mem_filter,List.mem_range,h3]
  exact ⟨fun x=>x.2,fun x=>⟨by have:=h4 n x;omega,x⟩⟩
 have hn:((List.range (8*row.length)).filter p).Nodup:=List.nodup_range.filter _
 exact Nat.le_antisymm (DA hn fun n x=>(hm n).1 x) (DA h2 fun n x=>(hm n).2 x)
end So
end Go.Proofs.YtgcgmclghbebjaaGreat
namespace Go.Proofs.YtgcgmclghbebjaaGreat
namespace So
abbrev RS:=List Fd×Int×List (List Int)×List (Bool×Bool)
structure OkR (u:RS) (s:List Fd) (cap:Int) (V:List (List Int)) (g:Gf) (n:Nat):Prop where
 e1:u.1=s
 e2:u.2.1=cap
 e3:u.2.2.1=V
 len:u.2.2.2.length=V.length
 at_: ∀ (i:Nat) v,V[i]? =some v→u.2.2.2[i]? =some (g false v,g true v)
 nd:V.Nodup
 ins: ∀ v∈V,In s v
 out: ∀ b v,v∉V→g b v=false
 few:V.length≤n
variable {s : List Fd} {u : RS} {cap : Int} {V : List (List Int)} {g : Gf} {n : Nat}
theorem yA (hs:Fds s) (h:OkR u s cap V g n) (hn:n<100000) (v:List Int):(v∉V∧cR u v=some (-1))∨ ∃ i:Nat,V[i]? =some v∧cR u v=some (i:Int):=by
 have hf:=h.few
 have hl: ∀ i (hi:i<V.length),V[i].length<100000000:=fun i hi=>by
  have:=(h.ins _ (List.getElem_mem hi)).len
  have:=hs.few
  omega
 unfold cR
 refine (findF (F:=dN u v) (fun i=>(i:Int)) (fun i=>if h:i<V.length then V[i]==v else false) (r:=fun i=>if i<V.length then some (i:Int) else some (-1)) V.length (s:=0) rfl (by omega) (fun i hi hp k=> ?_) (fun i hi hp k=> ?_) (fun k=> ?_)).elim (fun ⟨i,h1,h2,h3,h4⟩=> ?_) (fun ⟨h1,h4⟩=> ?_)
 ·rw [dif_pos hi] at hp
  unfold dN
  rw [h.e3,cj hi,cond_true,bA hi,ab,H4 _ _ (hl i hi),ab,hp,cond_false,nx (by omega)]
 ·rw [dif_pos hi] at hp
  unfold dN
  rw [h.e3,cj hi,cond_true,bA hi,ab,H4 _ _ (hl i hi),ab,hp,cond_true,if_pos hi]
 ·unfold dN
  rw [h.e3,cT (Nat.lt_irrefl _),cond_false,if_neg (Nat.lt_irrefl _)]
 ·rw [dif_pos h1,beq_iff_eq] at h2
  refine .inr ⟨i,?_,?_⟩
  ·rw [List.getElem?_eq_getElem h1,h2]
  ·rw [h4,if_pos h1]
 ·refine .inl ⟨fun hm=> ?_,?_⟩
  ·obtain ⟨i,hi,e⟩:=List.getElem_of_mem hm
   have:=h1 i hi
   rw [dif_pos hi,e] at this
   simp at this
  ·rw [h4,if_neg (Nat.lt_irrefl _)]
theorem TM (hs:Fds s) (h:OkR u s cap V g n) (hn:n<100000) (v:List Int) (hv:v.length<100000000):gE u v=some (Na s V v):=by
 unfold gE Na
 rw [h.e1,CP s v hv,ab]
 by_cases hc:inC s v=0
 ·rw [if_pos hc,hc,show ((0:Int) != 0)=false from rfl,cond_false]
  rcases yA hs h hn v with ⟨h1,h2⟩ | ⟨i,h1,h2⟩
  ·rw [h2,ab,decide_eq_false h1];rfl
  ·rw [h2,ab,decide_eq_true (List.mem_of_getElem? h1),decide_eq_true (by omega)]
 ·rw [if_neg hc,show (inC s v != 0)=true by simpa using hc,cond_true]
theorem TH (hs:Fds s) (h:OkR u s cap V g n) (hn:n<100000) (v:List Int) (hv:v.length<100000000): ∃ u',gB u v=some (u',(yP s cap V v).2)∧OkR u' s cap (yP s cap V v).1 g (n+1):=by
 have hf:=h.few
 have hup:OkR u s cap V g (n+1):=⟨h.e1,h.e2,h.e3,h.len,h.at_,h.nd,h.ins,h.out,by omega⟩
 unfold gB yP
 rw [h.e1,CP s v hv,ab]
 by_cases hc:inC s v=0
 ·have hi:=ed.1 hc
  rw [if_pos hc,hc,show ((0:Int) != 0)=false from rfl,cond_false]
  unfold oh
  rcases yA hs h hn v with ⟨h1,h2⟩ | ⟨i,h1,h2⟩
  ·rw [h2,ab,show decide ((0:Int)≤ -1)=false from rfl,cond_false,if_neg h1,h.e2,h.e3]
   by_cases hfull:cap≤(V.length:Int)
   ·rw [if_pos hfull,decide_eq_true hfull,cond_true]
    exact ⟨u,rfl,hup⟩
   ·have hvl:=hi.len
    have hsf:=hs.few
    rw [if_neg hfull,decide_eq_false hfull,cond_false]
    simp only [List.nil_append,List.length_nil,List.length_singleton]
    rw [aG (bg (by omega) (by omega)),aG (bg (by omega) (by omega)),aG (bg (by omega) (by omega)),h.len,aG (bg (by omega) (by omega)),aG (bg (by omega) (by omega))]
    refine ⟨_,rfl,⟨rfl,rfl,rfl,?_,?_,?_,?_,?_,?_⟩⟩
    ·simp only [List.length_append,List.length_singleton,h.len]
    ·intro i x hx
     dsimp only at hx ⊢
     rcases Nat.lt_or_ge i V.length with hi | hi
     ·rw [List.getElem?_append_left hi] at hx
      rw [List.getElem?_append_left (by rw [h.len];exact hi)]
      exact h.at_ i x hx
     ·have:=fe hx
      simp only [List.length_append,List.length_singleton] at this
      have e:i=V.length:=by omega
      rw [List.getElem?_append_right hi,e,Nat.sub_self] at hx
      rw [List.getElem?_append_right (by rw [h.len];exact hi),e,h.len,Nat.sub_self]
      rw [← Option.some.inj hx,h.out _ _ h1,h.out _ _ h1];rfl
    ·rw [List.nodup_append]
     refine ⟨h.nd,by simp,fun a ha b hb=> ?_⟩
     rw [List.mem_singleton.1 hb]
     rintro rfl
     exact h1 ha
    ·intro x hx
     rcases List.mem_append.1 hx with hx | hx
     ·exact h.ins x hx
     ·rw [List.mem_singleton.1 hx];exact hi
    ·intro b x hx
     exact h.out b x (fun hm=>hx (List.mem_append_left _ hm))
    ·simp only [List.length_append,List.length_singleton];omega
  ·rw [h2,ab,decide_eq_true (by omega),cond_true,if_pos (List.mem_of_getElem? h1)]
   exact ⟨u,rfl,hup⟩
 ·rw [if_neg hc,show (inC s v != 0)=true by simpa using hc,cond_true]
  exact ⟨u,rfl,hup⟩
theorem O5 (hs:Fds s) (h:OkR u s cap V g n) (hn:n<100000) (v:List Int) (hv:v.length<100000000) (f:Int):(lj s V v f≠0∧ ∃ j,fC u v f=some (j,lj s V v f))∨(lj s V v f=0∧(f=0∨f=1)∧ ∃ i:Nat,V[i]? =some v∧fC u v f=some ((i:Int),0)):=by
 unfold fC lj
 simp only [aP]
 rw [h.e1,CP s v hv,ab]
 by_cases hc:inC s v=0
 ·rw [if_pos hc,hc,show ((0:Int) != 0)=false from rfl,cond_false]
  unfold cq
  by_cases hff:f<0∨1<f
  ·rw [if_pos hff,show (decide (f<0)||decide (1<f))=true by simpa using hff,cond_true]
   exact .inl ⟨by omega,0,rfl⟩
  ·rw [if_neg hff,show (decide (f<0)||decide (1<f))=false by simp;omega,cond_false]
   rcases yA hs h hn v with ⟨h1,h2⟩ | ⟨i,h1,h2⟩
   ·rw [h2,ab,if_neg h1]
    exact .inl ⟨by omega,0,rfl⟩
   ·rw [h2,ab,if_pos (List.mem_of_getElem? h1),decide_eq_false (by omega),cond_false]
    exact .inr ⟨rfl,by omega,i,h1,rfl⟩
 ·rw [if_neg hc,show (inC s v != 0)=true by simpa using hc,cond_true]
  exact .inl ⟨hc,0,rfl⟩
theorem Ud (hs:Fds s) (h:OkR u s cap V g n) (hn:n<100000) (v:List Int) (hv:v.length<100000000) (f:Int):jA u v f=some (Mi s V g v f,lj s V v f):=by
 unfold jA Mi
 rcases O5 hs h hn v hv f with ⟨h1,j,h2⟩ | ⟨h1,hf,i,h2,h3⟩
 ·rw [h2,ab,if_neg h1]
  dsimp only
  rw [show (lj s V v f != 0)=true by simpa using h1,cond_true]
 ·rw [h3,ab,if_pos h1,h1]
  dsimp only
  rw [show ((0:Int) != 0)=false from rfl,cond_false,bL (h.at_ i v h2),ab]
  rcases hf with rfl | rfl <;> rfl
theorem T5 (hs:Fds s) (h:OkR u s cap V g n) (hn:n<100000) (v:List Int) (hv:v.length<100000000) (f:Int): ∃ u',jB u v f=some (u',lj s V v f)∧OkR u' s cap V (Nh s V g v f) n:=by
 have hfew:=h.few
 unfold jB Nh
 rcases O5 hs h hn v hv f with ⟨h1,j,h2⟩ | ⟨h1,hf,i,h2,h3⟩
 ·rw [h2,ab,if_neg h1]
  dsimp only
  rw [show (lj s V v f != 0)=true by simpa using h1,cond_true]
  exact ⟨u,rfl,h⟩
 ·have hil:=fe h2
  have hm:=List.mem_of_getElem? h2
  rw [h3,ab,if_pos h1,h1]
  dsimp only
  rw [show ((0:Int) != 0)=false from rfl,cond_false,List.nil_append,List.length_nil,h.len,aG (bg (by omega) (by omega)),bL (h.at_ i v h2),ab,Int.toNat_natCast]
  have uniq: ∀ (j:Nat) x,V[j]? =some x→j≠i→x≠v:=by
   intro j x hx hne e
   rw [e] at hx
   have hj:=fe hx
   rw [List.getElem?_eq_getElem hj] at hx
   rw [List.getElem?_eq_getElem hil] at h2
   have hvv:=(Option.some.inj hx).trans (Option.some.inj h2).symm
   rcases Nat.lt_or_gt_of_ne hne with hlt | hlt
   ·exact List.pairwise_iff_getElem.1 h.nd j i hj hil hlt hvv
   ·exact List.pairwise_iff_getElem.1 h.nd i j hil hj hlt hvv.symm
  have outs: ∀ b b' x,x∉V→upd g b v b' x=false:=by
   intro b b' x hx
   unfold upd
   rw [h.out b' x hx,Bool.false_or,Bool.and_eq_false_imp]
   intro _
   exact beq_eq_false_iff_ne.2 (fun e=>hx (e▸hm))
  rcases hf with rfl | rfl
  ·rw [show ((0:Int)==0)=true from rfl,cond_true,show ((0:Int)==1)=false from rfl]
   refine ⟨_,rfl,⟨h.e1,h.e2,h.e3,by rw [List.length_set];exact h.len,fun j x hx=> ?_,h.nd,h.ins,outs false,h.few⟩⟩
   dsimp only
   rw [dq (by rw [h.len];exact hil)]
   by_cases e:i=j
   ·subst e
    rw [h2] at hx
    rw [if_pos rfl,← Option.some.inj hx];simp [upd]
   ·rw [if_neg e,h.at_ j x hx]
    have:=uniq j x hx (fun e'=>e e'.symm)
    simp [upd,this]
  ·rw [show ((1:Int)==0)=false from rfl,cond_false,show ((1:Int)==1)=true from rfl,cond_true]
   refine ⟨_,rfl,⟨h.e1,h.e2,h.e3,by rw [List.length_set];exact h.len,fun j x hx=> ?_,h.nd,h.ins,outs true,h.few⟩⟩
   dsimp only
   rw [dq (by rw [h.len];exact hil)]
   by_cases e:i=j
   ·subst e
    rw [h2] at hx
    rw [if_pos rfl,← Option.some.inj hx];simp [upd]
   ·rw [if_neg e,h.at_ j x hx]
    have:=uniq j x hx (fun e'=>e e'.symm)
    simp [upd,this]
/-! the lossy ones -/
structure OkQ (b:Bl) (M K:Nat) (seed:Int) (p0 p1 p2:Nat→Bool):Prop where
 m:b.1=(M:Int)
 k:b.2.1=(K:Int)
 s:b.2.2.1=seed
 m1:1≤M∧M≤4194304
 k1:1≤K∧K≤16
 r0:ml b.2.2.2.1 M p0
 r1:ml b.2.2.2.2.1 M p1
 r2:ml b.2.2.2.2.2 M p2
variable {b : Bl} {M K : Nat} {seed : Int} {p0 p1 p2 : Nat → Bool}
theorem OkQ.pl (h:OkQ b M K seed p0 p1 p2) {key:List Int} (hk:Key key):bf key b.2.2.1 b.2.1 b.1=some (nI (pls key seed K M)):=by
 rw [h.m,h.k,h.s]
 exact MD hk.short seed h.k1.2 (by have:=h.m1;omega) (by have:=h.m1;omega)
theorem rz (h:OkQ b M K seed p0 p1 p2) {key:List Int} (hk:Key key):cH b key=some ((pls key seed K M).all p0):=by
 have hK:=h.k1
 unfold cH
 rw [h.pl hk,ab,DM h.r0 h.m1.2 _ (by rw [nB];omega),ab]
theorem Uz (h:OkQ b M K seed p0 p1 p2) {key:List Int} (hk:Key key): ∃ b',gw b key=some (b',!(pls key seed K M).all p0)∧OkQ b' M K seed (orP p0 (pls key seed K M)) p1 p2:=by
 have hm:=h.m1
 have hK:=h.k1
 obtain ⟨r,e1,e2⟩:=Ci hm.2 h.r0 (lz (key:=key) (seed:=seed) (K:=K) (by omega)) (by rw [nB];omega)
 unfold gw
 rw [rz h hk,ab,h.pl hk,ab,e1,ab]
 exact ⟨_,rfl,⟨h.m,h.k,h.s,h.m1,h.k1,e2,h.r1,h.r2⟩⟩
theorem Cz (key:List Int) (f:Int):(ia key seed K M p0 f=1∧(f<0∨1<f))∨(ia key seed K M p0 f=10∧ ¬ (f<0∨1<f)∧(pls key seed K M).all p0=false)∨(ia key seed K M p0 f=0∧(f=0∨f=1)∧(pls key seed K M).all p0=true):=by
 unfold ia
 by_cases hff:f<0∨1<f
 ·rw [if_pos hff];exact .inl ⟨rfl,hff⟩
 ·rw [if_neg hff]
  cases h:(pls key seed K M).all p0
  ·exact .inr (.inl ⟨rfl,hff,rfl⟩)
  ·exact .inr (.inr ⟨rfl,by omega,rfl⟩)
theorem Tk (h:OkQ b M K seed p0 p1 p2) {key:List Int} (hk:Key key) (f:Int):jH b key f=some (if ia key seed K M p0 f=0 then (pls key seed K M).all (if f=1 then p2 else p1) else false,ia key seed K M p0 f):=by
 have hK:=h.k1
 have hl:(pls key seed K M).length≤16:=by rw [nB];omega
 unfold jH
 simp only [aP]
 rcases Cz (seed:=seed) (K:=K) (M:=M) (p0:=p0) key f with ⟨h1,h2⟩ | ⟨h1,h2,h3⟩ | ⟨h1,h2,h3⟩
 ·rw [h1,show (decide (f<0)||decide (1<f))=true by simpa using h2];rfl
 ·rw [h1,show (decide (f<0)||decide (1<f))=false by simp;omega,cond_false,rz h hk,ab,h3];rfl
 ·rw [h1,show (decide (f<0)||decide (1<f))=false by simp;omega,cond_false,rz h hk,ab,h3,if_pos rfl,Bool.not_true,cond_false]
  rcases h2 with rfl | rfl
  ·rw [show (IntKind.i64.wrap (0+1)==0)=false from rfl,show (IntKind.i64.wrap (0+1)==1)=true from rfl,cond_false,cond_true,h.pl hk,ab,DM h.r1 h.m1.2 _ hl,ab,if_neg (by omega)]
  ·rw [show (IntKind.i64.wrap (1+1)==0)=false from rfl,show (IntKind.i64.wrap (1+1)==1)=false from rfl,show (IntKind.i64.wrap (1+1)==2)=true from rfl,cond_false,cond_false,cond_true,h.pl hk,ab,DM h.r2 h.m1.2 _ hl,ab,if_pos rfl]
theorem SS (h:OkQ b M K seed p0 p1 p2) {key:List Int} (hk:Key key) (f:Int): ∃ b',jF b key f=some (b',ia key seed K M p0 f)∧
  OkQ b' M K seed p0 (if ia key seed K M p0 f=0∧f=0 then orP p1 (pls key seed K M) else p1) (if ia key seed K M p0 f=0∧f=1 then orP p2 (pls key seed K M) else p2):=by
 have hm:=h.m1
 have hK:=h.k1
 have hl:(pls key seed K M).length≤16:=by rw [nB];omega
 unfold jF
 simp only [aP]
 rcases Cz (seed:=seed) (K:=K) (M:=M) (p0:=p0) key f with ⟨h1,h2⟩ | ⟨h1,h2,h3⟩ | ⟨h1,h2,h3⟩
 ·rw [h1,show (decide (f<0)||decide (1<f))=true by simpa using h2,if_neg (by omega),if_neg (by omega)]
  exact ⟨b,rfl,h⟩
 ·rw [h1,show (decide (f<0)||decide (1<f))=false by simp;omega,cond_false,rz h hk,ab,h3,if_neg (by omega),if_neg (by omega)]
  exact ⟨b,rfl,h⟩
 ·rw [h1,show (decide (f<0)||decide (1<f))=false by simp;omega,cond_false,rz h hk,ab,h3,Bool.not_true,cond_false]
  rcases h2 with rfl | rfl
  ·obtain ⟨r,e1,e2⟩:=Ci hm.2 h.r1 (lz (key:=key) (seed:=seed) (K:=K) (by omega)) hl
   rw [show (IntKind.i64.wrap (0+1)==0)=false from rfl,show (IntKind.i64.wrap (0+1)==1)=true from rfl,cond_false,cond_true,h.pl hk,ab,e1,ab,cond_false,cond_true,if_pos ⟨rfl,rfl⟩,if_neg (by omega)]
   exact ⟨_,rfl,⟨h.m,h.k,h.s,h.m1,h.k1,h.r0,e2,h.r2⟩⟩
  ·obtain ⟨r,e1,e2⟩:=Ci hm.2 h.r2 (lz (key:=key) (seed:=seed) (K:=K) (by omega)) hl
   rw [show (IntKind.i64.wrap (1+1)==0)=false from rfl,show (IntKind.i64.wrap (1+1)==1)=false from rfl,show (IntKind.i64.wrap (1+1)==2)=true from rfl,cond_false,cond_false,cond_true,h.pl hk,ab,e1,ab,cond_false,cond_false,cond_true,if_neg (by omega),if_pos ⟨rfl,rfl⟩]
   exact ⟨_,rfl,⟨h.m,h.k,h.s,h.m1,h.k1,h.r0,h.r1,e2⟩⟩
end So
end Go.Proofs.YtgcgmclghbebjaaGreat
namespace Go.Proofs.YtgcgmclghbebjaaGreat
namespace So
abbrev Act:=Int×List Int×Int
noncomputable def DK (l:List Act) (n:Nat):Bool:=decide (l.length≤n)&&l.all fun e=>decide (e.2.1.length≤40)
theorem UD (l:List Act) (n:Nat) (hn:n<1000000):ga l (n:Int)=some (DK l n):=by
 unfold ga DK
 by_cases h:n<l.length
 ·rw [cj h,cond_true,decide_eq_false (by omega),Bool.false_and]
 ·rw [cT h,cond_false,decide_eq_true (by omega),Bool.true_and]
  have step: ∀ i (hi:i<l.length) (k:Int→Option Bool),eK l k (i:Int)=bif decide (l[i].2.1.length≤40) then k ((i+1:Nat):Int) else some false:=by
   intro i hi k
   unfold eK
   rw [cj hi,cond_true,bA hi,ab,nx (by omega)]
   by_cases h40:l[i].2.1.length≤40
   ·rw [decide_eq_true h40,decide_eq_false (show ¬ (40:Int)<(l[i].2.1.length:Int) by omega)];rfl
   ·rw [decide_eq_false h40,decide_eq_true (show (40:Int)<(l[i].2.1.length:Int) by omega)];rfl
  refine (findF (F:=eK l) (fun i=>(i:Int)) (fun i=>if h:i<l.length then !decide (l[i].2.1.length≤40) else false) (r:=fun i=>if i<l.length then some false else some true) l.length (s:=0) rfl (by omega) (fun i hi hp k=> ?_) (fun i hi hp k=> ?_) (fun k=> ?_)).elim (fun ⟨i,h1,h2,h3,h4⟩=> ?_) (fun ⟨h1,h4⟩=> ?_)
  ·rw [dif_pos hi,Bool.not_eq_false'] at hp
   rw [step i hi,hp,cond_true]
  ·rw [dif_pos hi,Bool.not_eq_true'] at hp
   rw [step i hi,hp,cond_false,if_pos hi]
  ·unfold eK
   rw [cT (Nat.lt_irrefl _),cond_false,if_neg (Nat.lt_irrefl _)]
  ·rw [h4,if_pos h1]
   rw [dif_pos h1,Bool.not_eq_true'] at h2
   congr 1
   rw [eq_comm,← Bool.not_eq_true]
   intro h
   have:=List.all_eq_true.1 h _ (List.getElem_mem h1)
   rw [this] at h2;cases h2
  ·rw [h4,if_neg (Nat.lt_irrefl _)]
   congr 1
   rw [eq_comm,List.all_eq_true]
   intro x hx
   obtain ⟨i,hi,e⟩:=List.getElem_of_mem hx
   have:=h1 i hi
   rw [dif_pos hi,e,Bool.not_eq_false'] at this
   exact this
theorem Ta {l:List Act} {n:Nat}:DK l n=true↔l.length≤n∧ ∀ e∈l,e.2.1.length≤40:=by
 unfold DK
 rw [Bool.and_eq_true,decide_eq_true_eq,List.all_eq_true]
 simp only [decide_eq_true_eq]
end So
end Go.Proofs.YtgcgmclghbebjaaGreat
namespace Go.Proofs.YtgcgmclghbebjaaGreat
namespace So
abbrev T11:=List Fd×Bool×RS×Bl
noncomputable def unT (t:St) (u:T11) (i:Int):=(t.1,t.2.1,t.2.2.1,t.2.2.2.1.1.1,t.2.2.2.1.1.2.1,t.2.2.2.1.1.2.2,t.2.2.2.1.2,t.2.2.2.2.1.1,t.2.2.2.2.1.2.1.1,t.2.2.2.2.1.2.1.2.1,t.2.2.2.2.1.2.1.2.2,t.2.2.2.2.1.2.2,t.2.2.2.2.2.1.1,t.2.2.2.2.2.1.2,t.2.2.2.2.2.2.1.1.1,t.2.2.2.2.2.2.1.1.2.1,t.2.2.2.2.2.2.1.1.2.2.1,t.2.2.2.2.2.2.1.1.2.2.2.1,t.2.2.2.2.2.2.1.1.2.2.2.2,t.2.2.2.2.2.2.1.2.1.1,t.2.2.2.2.2.2.1.2.1.2.1,t.2.2.2.2.2.2.1.2.1.2.2.1,t.2.2.2.2.2.2.1.2.1.2.2.2.1,t.2.2.2.2.2.2.1.2.1.2.2.2.2,t.2.2.2.2.2.2.1.2.2.1,t.2.2.2.2.2.2.1.2.2.2.1,t.2.2.2.2.2.2.1.2.2.2.2.1,t.2.2.2.2.2.2.1.2.2.2.2.2.1,t.2.2.2.2.2.2.1.2.2.2.2.2.2,t.2.2.2.2.2.2.2.1,t.2.2.2.2.2.2.2.2.1,t.2.2.2.2.2.2.2.2.2.1,t.2.2.2.2.2.2.2.2.2.2.1,t.2.2.2.2.2.2.2.2.2.2.2.1,t.2.2.2.2.2.2.2.2.2.2.2.2,u.1,u.2.1,u.2.2.1.1,u.2.2.1.2.1,u.2.2.1.2.2.1,u.2.2.1.2.2.2,u.2.2.2.1,u.2.2.2.2.1,u.2.2.2.2.2.1,u.2.2.2.2.2.2.1,u.2.2.2.2.2.2.2.1,u.2.2.2.2.2.2.2.2,i)
theorem Sz (t:St):(t.1,t.2.1,t.2.2.1,((t.2.2.2.1.1.1,t.2.2.2.1.1.2.1,t.2.2.2.1.1.2.2),t.2.2.2.1.2),(t.2.2.2.2.1.1,(t.2.2.2.2.1.2.1.1,t.2.2.2.2.1.2.1.2.1,t.2.2.2.2.1.2.1.2.2),t.2.2.2.2.1.2.2),(t.2.2.2.2.2.1.1,t.2.2.2.2.2.1.2),((t.2.2.2.2.2.2.1.1.1,t.2.2.2.2.2.2.1.1.2.1,t.2.2.2.2.2.2.1.1.2.2.1,t.2.2.2.2.2.2.1.1.2.2.2.1,t.2.2.2.2.2.2.1.1.2.2.2.2),(t.2.2.2.2.2.2.1.2.1.1,t.2.2.2.2.2.2.1.2.1.2.1,t.2.2.2.2.2.2.1.2.1.2.2.1,t.2.2.2.2.2.2.1.2.1.2.2.2.1,t.2.2.2.2.2.2.1.2.1.2.2.2.2),(t.2.2.2.2.2.2.1.2.2.1,t.2.2.2.2.2.2.1.2.2.2.1,t.2.2.2.2.2.2.1.2.2.2.2.1,t.2.2.2.2.2.2.1.2.2.2.2.2.1,t.2.2.2.2.2.2.1.2.2.2.2.2.2)),(t.2.2.2.2.2.2.2.1,t.2.2.2.2.2.2.2.2.1,t.2.2.2.2.2.2.2.2.2.1,(t.2.2.2.2.2.2.2.2.2.2.1,t.2.2.2.2.2.2.2.2.2.2.2.1,t.2.2.2.2.2.2.2.2.2.2.2.2)))=t:=rfl
theorem Sw (u:T11):(u.1,u.2.1,(u.2.2.1.1,u.2.2.1.2.1,u.2.2.1.2.2.1,u.2.2.1.2.2.2),(u.2.2.2.1,u.2.2.2.2.1,u.2.2.2.2.2.1,(u.2.2.2.2.2.2.1,u.2.2.2.2.2.2.2.1,u.2.2.2.2.2.2.2.2)))=u:=rfl
noncomputable def K2T (s:List Fd) (i:Int) (k:_→Option Bool) (e:Act) (t:St) (u:T11):=fK s i k e t.1 t.2.1 t.2.2.1 t.2.2.2.1.1.1 t.2.2.2.1.1.2.1 t.2.2.2.1.1.2.2 t.2.2.2.1.2 t.2.2.2.2.1.1 t.2.2.2.2.1.2.1.1 t.2.2.2.2.1.2.1.2.1 t.2.2.2.2.1.2.1.2.2 t.2.2.2.2.1.2.2 t.2.2.2.2.2.1.1 t.2.2.2.2.2.1.2 t.2.2.2.2.2.2.1.1.1 t.2.2.2.2.2.2.1.1.2.1 t.2.2.2.2.2.2.1.1.2.2.1 t.2.2.2.2.2.2.1.1.2.2.2.1 t.2.2.2.2.2.2.1.1.2.2.2.2 t.2.2.2.2.2.2.1.2.1.1 t.2.2.2.2.2.2.1.2.1.2.1 t.2.2.2.2.2.2.1.2.1.2.2.1 t.2.2.2.2.2.2.1.2.1.2.2.2.1 t.2.2.2.2.2.2.1.2.1.2.2.2.2 t.2.2.2.2.2.2.1.2.2.1 t.2.2.2.2.2.2.1.2.2.2.1 t.2.2.2.2.2.2.1.2.2.2.2.1 t.2.2.2.2.2.2.1.2.2.2.2.2.1 t.2.2.2.2.2.2.1.2.2.2.2.2.2 t.2.2.2.2.2.2.2.1 t.2.2.2.2.2.2.2.2.1 t.2.2.2.2.2.2.2.2.2.1 t.2.2.2.2.2.2.2.2.2.2.1 t.2.2.2.2.2.2.2.2.2.2.2.1 t.2.2.2.2.2.2.2.2.2.2.2.2 u.1 u.2.1 u.2.2.1.1 u.2.2.1.2.1 u.2.2.1.2.2.1 u.2.2.1.2.2.2 u.2.2.2.1 u.2.2.2.2.1 u.2.2.2.2.2.1 u.2.2.2.2.2.2.1 u.2.2.2.2.2.2.2.1 u.2.2.2.2.2.2.2.2
theorem Vo (s:List Fd) (i:Int) (k:_→Option Bool) (e:Act) (t:St) (u:T11) {a:Bool×Int} {m:Int} (h1:bu t e.2.1=some a) (h2:dv u e.2.1=some a) (h3:bZ t=some m) (h4:dY u=some m):
  K2T s i k e t u=k (unT t u (IntKind.i64.wrap (i+1))):=by
 unfold K2T fK
 simp only [aP]
 rw [Sz t,Sw u,h1,ab,h2,ab]
 simp only [bne_self_eq_false,Bool.or_self,Bool.not_false,bP]
 rw [h3,ab,h4,ab]
 simp only [bne_self_eq_false]
 rfl
theorem OQ (s:List Fd) (l:List Act) (t:St) (u:T11) (i:Nat) (hi: ¬ i<l.length) (k:_→Option Bool):bF s l true k (unT t u (i:Int))=some true:=by
 unfold bF
 dsimp only [unT]
 rw [cT hi,cond_false]
theorem LC (s:List Fd) (l:List Act) (t:St) (u:T11) (i:Nat) {e:Act} (he:l[i]? =some e) (k:_→Option Bool):bF s l true k (unT t u (i:Int))=
  bif (Int.tmod e.1 3==0) then (aZ t e.2.1).bind fun x=>(dy u e.2.1).bind fun y=>bif (x.2.1 != y.2.1||x.2.2 != y.2.2) then some false else K2T s (i:Int) k e x.1 y.1
  else bif (Int.tmod e.1 3==1) then (cC t e.2.1 e.2.2).bind fun x=>(dV u e.2.1 e.2.2).bind fun y=>bif (x.2 != y.2) then some false else K2T s (i:Int) k e x.1 y.1
  else bif (Int.tmod e.1 3==2) then (bU t e.2.1 e.2.2).bind fun x=>(eW u e.2.1 e.2.2).bind fun y=>bif (x.1 != y.1||x.2 != y.2) then some false else K2T s (i:Int) k e t u
  else K2T s (i:Int) k e t u:=by
 unfold bF
 dsimp only [unT]
 rw [cj (fe he),cond_true,bL he,ab,Sz t,Sw u]
 rfl
noncomputable def qz (t:St) (u:T11) (s:List Fd) (n:Nat):Prop:=
 (∃ cap V g,OkS t s cap V g∧u.1=s∧u.2.1=false∧OkR u.2.2.1 s cap V g n)∨
 (∃ M K seed p0 p1 p2,OkL t s M K seed p0 p1 p2∧u.1=s∧u.2.1=true∧OkQ u.2.2.2 M K seed p0 p1 p2)
variable {s : List Fd} {t : St} {u : T11} {n : Nat}
theorem VR (hs:ey s) (h:qz t u s n) (hn:n<1000) (v:List Int) (hv:v.length<100000000): ∃ t' a u',aZ t v=some (t',a)∧dy u v=some (u',a)∧qz t' u' s (n+1):=by
 rcases h with ⟨cap,V,g,h1,h2,h3,h4⟩ | ⟨M,K,seed,p0,p1,p2,h1,h2,h3,h4⟩
 ·obtain ⟨t',a1,a2,_⟩:=Vd hs h1 v hv
  obtain ⟨u',b1,b2⟩:=TH hs.fds h4 (by omega) v hv
  refine ⟨t',_,(u.1,u.2.1,u',u.2.2.2),a1,?_,.inl ⟨cap,_,g,a2,h2,h3,b2⟩⟩
  unfold dy
  rw [h3,Bool.not_false,cond_true,b1,ab]
 ·obtain ⟨t',a1,a2⟩:=Ti hs.fds h1 v hv
  unfold dy
  rw [h2,h3,Bool.not_true,cond_false,qR hs.fds hv,ab]
  by_cases hc:inC s v=0
  ·have hi:=ed.1 hc
   obtain ⟨b',b1,b2⟩:=Uz h4 (iG hs.fds hi)
   rw [if_pos hc] at a1 a2 ⊢
   dsimp only
   rw [show ((0:Int) != 0)=false from rfl,cond_false,b1,ab]
   exact ⟨t',_,_,a1,rfl,.inr ⟨M,K,seed,_,p1,p2,a2,rfl,rfl,b2⟩⟩
  ·rw [if_neg hc] at a1 a2 ⊢
   dsimp only
   rw [show (inC s v != 0)=true by simpa using hc,cond_true]
   exact ⟨t',_,u,a1,rfl,.inr ⟨M,K,seed,p0,p1,p2,a2,h2,h3,h4⟩⟩
theorem V2 (hs:ey s) (h:qz t u s n) (hn:n<1000) (v:List Int) (hv:v.length<100000000) (f:Int): ∃ t' a u',cC t v f=some (t',a)∧dV u v f=some (u',a)∧qz t' u' s n:=by
 rcases h with ⟨cap,V,g,h1,h2,h3,h4⟩ | ⟨M,K,seed,p0,p1,p2,h1,h2,h3,h4⟩
 ·obtain ⟨t',a1,a2,_⟩:=VH hs h1 v hv f
  obtain ⟨u',b1,b2⟩:=T5 hs.fds h4 (by omega) v hv f
  refine ⟨t',_,(u.1,u.2.1,u',u.2.2.2),a1,?_,.inl ⟨cap,_,_,a2,h2,h3,b2⟩⟩
  unfold dV
  rw [h3,Bool.not_false,cond_true,b1,ab]
 ·obtain ⟨t',a1,a2⟩:=SR hs.fds h1 v hv f
  unfold dV
  rw [h2,h3,Bool.not_true,cond_false,qR hs.fds hv,ab]
  unfold qS at a1 a2
  by_cases hc:inC s v=0
  ·have hi:=ed.1 hc
   obtain ⟨b',b1,b2⟩:=SS h4 (iG hs.fds hi) f
   rw [if_pos hc] at a1 a2 ⊢
   dsimp only
   rw [show ((0:Int) != 0)=false from rfl,cond_false,b1,ab]
   exact ⟨t',_,_,a1,rfl,.inr ⟨M,K,seed,p0,_,_,a2,rfl,rfl,b2⟩⟩
  ·rw [if_neg hc] at a1 a2 ⊢
   rw [if_neg (fun e=>hc e.1),if_neg (fun e=>hc e.1)] at a2
   dsimp only
   rw [show (inC s v != 0)=true by simpa using hc,cond_true]
   exact ⟨t',_,u,a1,rfl,.inr ⟨M,K,seed,p0,p1,p2,a2,h2,h3,h4⟩⟩
theorem V1 (hs:ey s) (h:qz t u s n) (hn:n<1000) (v:List Int) (hv:v.length<100000000) (f:Int): ∃ a,bU t v f=some a∧eW u v f=some a:=by
 rcases h with ⟨cap,V,g,h1,h2,h3,h4⟩ | ⟨M,K,seed,p0,p1,p2,h1,h2,h3,h4⟩
 ·refine ⟨_,Vu hs h1 v hv f,?_⟩
  unfold eW
  rw [h3,Bool.not_false,cond_true,Ud hs.fds h4 (by omega) v hv f,ab]
 ·refine ⟨_,Uc hs.fds h1 v hv f,?_⟩
  unfold eW qS
  rw [h2,h3,Bool.not_true,cond_false,qR hs.fds hv,ab]
  by_cases hc:inC s v=0
  ·have hi:=ed.1 hc
   rw [if_pos hc,if_pos hc]
   dsimp only
   rw [show ((0:Int) != 0)=false from rfl,cond_false,Tk h4 (iG hs.fds hi) f,ab]
   rfl
  ·rw [if_neg hc,if_neg hc]
   dsimp only
   rw [show (inC s v != 0)=true by simpa using hc,cond_true,if_neg hc]
theorem VT (hs:ey s) (h:qz t u s n) (hn:n<1000) (v:List Int) (hv:v.length<100000000): ∃ a,bu t v=some a∧dv u v=some a:=by
 rcases h with ⟨cap,V,g,h1,h2,h3,h4⟩ | ⟨M,K,seed,p0,p1,p2,h1,h2,h3,h4⟩
 ·refine ⟨_,Va hs h1 v hv,?_⟩
  unfold dv
  rw [h3,Bool.not_false,cond_true,TM hs.fds h4 (by omega) v hv,ab]
 ·refine ⟨_,S7 hs.fds h1 v hv,?_⟩
  unfold dv
  rw [h2,h3,Bool.not_true,cond_false,qR hs.fds hv,ab]
  by_cases hc:inC s v=0
  ·have hi:=ed.1 hc
   rw [if_pos hc,if_pos hc]
   dsimp only
   rw [show ((0:Int) != 0)=false from rfl,cond_false,rz h4 (iG hs.fds hi),ab]
   rfl
  ·rw [if_neg hc,if_neg hc]
   dsimp only
   rw [show (inC s v != 0)=true by simpa using hc,cond_true]
theorem UW (h:qz t u s n): ∃ m,bZ t=some m∧dY u=some m:=by
 rcases h with ⟨cap,V,g,h1,h2,h3,h4⟩ | ⟨M,K,seed,p0,p1,p2,h1,h2,h3,h4⟩
 ·refine ⟨_,Uo h1,?_⟩
  unfold dY
  rw [h3,cond_false,h4.e3]
 ·refine ⟨_,P0 h1,?_⟩
  unfold dY
  rw [h3,cond_true,Qg h1.ok.r0 h4.r0]
theorem Ct (hs:ey s) {l:List Act} (hl:l.length≤40) (hf: ∀ e∈l,e.2.1.length≤40): ∀ (d i:Nat) (t:St) (u:T11) (N:Nat),i+d=l.length→d<N→qz t u s i→
  aq (bF s l true) N (unT t u (i:Int))=some true
 | 0,i,t,u,N,hi,hN,h=>by
  obtain ⟨m,rfl⟩: ∃ m,N=m+1:=⟨N-1,by omega⟩
  rw [aE,OQ s l t u i (by omega)]
 | d+1,i,t,u,N,hi,hN,h=>by
  obtain ⟨m,rfl⟩: ∃ m,N=m+1:=⟨N-1,by omega⟩
  have hil:i<l.length:=by omega
  have he:=hf _ (List.getElem_mem hil)
  have hg:=List.getElem?_eq_getElem hil
  rw [aE,LC s l t u i hg]
  generalize l[i]=e at he hg
  have next: ∀ t' u',qz t' u' s (i+1)→K2T s (i:Int) (aq (bF s l true) m) e t' u'=some true:=by
   intro t' u' h'
   obtain ⟨a,m1,m2⟩:=VT hs h' (by omega) e.2.1 (by omega)
   obtain ⟨c,n1,n2⟩:=UW h'
   rw [Vo s (i:Int) _ e t' u' m1 m2 n1 n2,nx (by omega)]
   exact Ct hs hl hf d (i+1) t' u' m (by omega) (by omega) h'
  have up: ∀ {t' u'},qz t' u' s i→qz t' u' s (i+1):=by
   rintro t' u' (⟨cap,V,g,h1,h2,h3,h4⟩ | h')
   ·exact .inl ⟨cap,V,g,h1,h2,h3,⟨h4.e1,h4.e2,h4.e3,h4.len,h4.at_,h4.nd,h4.ins,h4.out,by have:=h4.few;omega⟩⟩
   ·exact .inr h'
  cases (Int.tmod e.1 3==0)
  ·rw [cond_false]
   cases (Int.tmod e.1 3==1)
   ·rw [cond_false]
    cases (Int.tmod e.1 3==2)
    ·rw [cond_false]
     exact next t u (up h)
    ·obtain ⟨a,g1,g2⟩:=V1 hs h (by omega) e.2.1 (by omega) e.2.2
     rw [cond_true,g1,ab,g2,ab,bne_self_eq_false,bne_self_eq_false,Bool.or_self,cond_false]
     exact next t u (up h)
   ·obtain ⟨t',a,u',g1,g2,g3⟩:=V2 hs h (by omega) e.2.1 (by omega) e.2.2
    rw [cond_true,g1,ab,g2,ab]
    dsimp only
    rw [bne_self_eq_false,cond_false]
    exact next t' u' (up g3)
  ·obtain ⟨t',a,u',g1,g2,g3⟩:=VR hs h (by omega) e.2.1 (by omega)
   rw [cond_true,g1,ab,g2,ab]
   dsimp only
   rw [bne_self_eq_false,bne_self_eq_false,Bool.or_self,cond_false]
   exact next t' u' g3
theorem Kk {m k:Int} (h:m<1∨4194304<m∨k<1∨16<k) (seed:Int):pg m k seed=some ((0,0,0,([],[],[])),1)∧eX m k seed=some ((0,0,0,([],[],[])),1):=by
 unfold pg eX
 simp only [aP]
 rw [show (decide (m<1)||decide (4194304<m)||decide (k<1)||decide (16<k))=true by
  simp only [Bool.or_eq_true,decide_eq_true_eq];omega]
 exact ⟨rfl,rfl⟩
theorem V0 (hf:FI s) (o:Op):(∃ u,cn s o=some (Nr,1)∧gf s o=some (u,1))∨(ey s∧ ∃ t u,cn s o=some (t,0)∧gf s o=some (u,0)∧qz t u s 0):=by
 unfold gf
 simp only [aP]
 rw [Pk hf,ab]
 by_cases hr:ey s∧0≤o.1∧o.1<5
 ·obtain ⟨hs,k0,k5⟩:=hr
  rw [tR.2 hs,decide_eq_false (show ¬ o.1<0 by omega),decide_eq_false (show ¬ 4<o.1 by omega),Bool.not_true,Bool.or_self,Bool.or_self,cond_false]
  unfold mw
  simp only [aP]
  by_cases hcap:o.2.1<0∨1048576<o.2.1
  ·left
   rw [show (decide (o.2.1<0)||decide (1048576<o.2.1))=true by simpa using hcap,cond_true,ab]
   refine ⟨_,?_,rfl⟩
   by_cases h4:o.1=4
   ·rw [(xg hf hs o).2.2.2.2 h4]
    unfold dG
    simp only [aP]
    rw [show (decide (o.2.1<0)||decide (1048576<o.2.1))=true by simpa using hcap];rfl
   ·exact (Ld hf hs o (by omega)).1 hcap
  ·rw [show (decide (o.2.1<0)||decide (1048576<o.2.1))=false by simp;omega,cond_false,ab]
   dsimp only
   rw [show ((0:Int) != 0)=false from rfl,cond_false]
   by_cases h4:o.1<4
   ·right
    rw [decide_eq_true h4,cond_true]
    obtain ⟨t,n1,n2,_⟩:=(Ld hf hs o (by omega)).2 (by omega) (by omega)
    refine ⟨hs,t,_,n1,rfl,.inl ⟨_,_,_,n2,rfl,rfl,⟨rfl,rfl,rfl,rfl,fun i v h=>by simp at h,List.nodup_nil,fun v h=>by simp at h,fun _ _ _=>rfl,Nat.le_refl _⟩⟩⟩
   ·rw [decide_eq_false h4,cond_false]
    by_cases hb:o.2.2.2.2.1<1∨4194304<o.2.2.2.2.1∨o.2.2.2.2.2<1∨16<o.2.2.2.2.2
    ·left
     obtain ⟨b1,b2⟩:=Kk hb o.2.2.2.1
     rw [b2,ab]
     refine ⟨_,?_,rfl⟩
     rw [(xg hf hs o).2.2.2.2 (by omega)]
     unfold dG
     simp only [aP]
     rw [show (decide (o.2.1<0)||decide (1048576<o.2.1))=false by simp;omega,cond_false,b1,ab]
     rfl
    ·right
     obtain ⟨M,hM⟩:=Int.eq_ofNat_of_zero_le (show 0≤o.2.2.2.2.1 by omega)
     obtain ⟨K,hK⟩:=Int.eq_ofNat_of_zero_le (show 0≤o.2.2.2.2.2 by omega)
     obtain ⟨t,n1,n2⟩:=Tq hf hs (M:=M) (K:=K) (by omega) (by omega) o (by omega) (by omega) hM hK
     have e:eX o.2.2.2.2.1 o.2.2.2.2.2 o.2.2.2.1=some ((o.2.2.2.2.1,o.2.2.2.2.2,o.2.2.2.1,([],[],[])),0):=by
      unfold eX
      simp only [aP]
      rw [decide_eq_false (show ¬ o.2.2.2.2.1<1 by omega),decide_eq_false (show ¬ 4194304<o.2.2.2.2.1 by omega),decide_eq_false (show ¬ o.2.2.2.2.2<1 by omega),decide_eq_false (show ¬ 16<o.2.2.2.2.2 by omega)];rfl
     rw [e,ab]
     have emp:ml [] M (fun _=>false):=⟨⟨[],rfl,List.nodup_nil,fun n=>by simp⟩,fun n h=>by cases h⟩
     exact ⟨hs,t,_,n1,rfl,.inr ⟨M,K,_,_,_,_,n2,rfl,rfl,⟨hM,hK,rfl,by omega,by omega,emp,emp,emp⟩⟩⟩
 ·left
  rw [Ue hf o hr]
  have:(!oI s||decide (o.1<0)||decide (4<o.1))=true:=by
   cases hb:oI s
   ·rfl
   ·have hs:=tR.1 hb
    rw [Bool.not_true,Bool.false_or,Bool.or_eq_true,decide_eq_true_eq,decide_eq_true_eq]
    have: ¬ (0≤o.1∧o.1<5):=fun x=>hr ⟨hs,x⟩
    omega
  rw [this]
  exact ⟨_,rfl,rfl⟩
theorem LS (s:List Fd) (o:Op) (l:List Act) (hf:FI s):eM s o l=some true:=by
 unfold eM
 rw [L6,ab]
 simp only [aP]
 rw [show ga l 40=some (DK l 40) from UD l 40 (by omega)]
 by_cases h40:40<s.length
 ·rw [decide_eq_true (show (40:Int)<(s.length:Int) by omega)];rfl
 ·rw [decide_eq_false (show ¬ (40:Int)<(s.length:Int) by omega),Bool.not_false,bP,ab,Bool.false_or]
  cases hw:DK l 40
  ·rfl
  ·obtain ⟨h1,h2⟩:=Ta.1 hw
   rw [Bool.not_true,Bool.false_or]
   cases (decide (3000<o.2.2.2.2.1)&&decide (o.2.2.2.2.1≤4194304))
   ·rw [cond_false]
    rcases V0 hf o with ⟨u,e1,e2⟩ | ⟨hs,t,u,e1,e2,e3⟩
    ·rw [e1,ab,e2,ab];rfl
    ·rw [e1,ab,e2,ab]
     have:=Ct hs h1 h2 l.length 0 t u au (by omega) (by show _<2^64;omega) e3
     rw [show ((0:Nat):Int)=0 from rfl] at this
     exact this
   ·rfl
end So
end Go.Proofs.YtgcgmclghbebjaaGreat
namespace Go.Proofs.YtgcgmclghbebjaaGreat
namespace So
noncomputable def un (t:St) (x:List (List Int)) (i:Int):=(t.1,t.2.1,t.2.2.1,t.2.2.2.1.1.1,t.2.2.2.1.1.2.1,t.2.2.2.1.1.2.2,t.2.2.2.1.2,t.2.2.2.2.1.1,t.2.2.2.2.1.2.1.1,t.2.2.2.2.1.2.1.2.1,t.2.2.2.2.1.2.1.2.2,t.2.2.2.2.1.2.2,t.2.2.2.2.2.1.1,t.2.2.2.2.2.1.2,t.2.2.2.2.2.2.1.1.1,t.2.2.2.2.2.2.1.1.2.1,t.2.2.2.2.2.2.1.1.2.2.1,t.2.2.2.2.2.2.1.1.2.2.2.1,t.2.2.2.2.2.2.1.1.2.2.2.2,t.2.2.2.2.2.2.1.2.1.1,t.2.2.2.2.2.2.1.2.1.2.1,t.2.2.2.2.2.2.1.2.1.2.2.1,t.2.2.2.2.2.2.1.2.1.2.2.2.1,t.2.2.2.2.2.2.1.2.1.2.2.2.2,t.2.2.2.2.2.2.1.2.2.1,t.2.2.2.2.2.2.1.2.2.2.1,t.2.2.2.2.2.2.1.2.2.2.2.1,t.2.2.2.2.2.2.1.2.2.2.2.2.1,t.2.2.2.2.2.2.1.2.2.2.2.2.2,t.2.2.2.2.2.2.2.1,t.2.2.2.2.2.2.2.2.1,t.2.2.2.2.2.2.2.2.2.1,t.2.2.2.2.2.2.2.2.2.2.1,t.2.2.2.2.2.2.2.2.2.2.2.1,t.2.2.2.2.2.2.2.2.2.2.2.2,x,i)
abbrev FIn:=List Fd×Int×Int×List (List Int)
theorem Ca (w:FIn) (t:St) (V:List (List Int)) (i:Nat) (v:List Int) (hv:w.2.2.2[i]? =some v) (hV:V.length<1000000) (hl: ∀ u∈V,u.length<100000000) {r:Option Bool} {again:_→Option Bool}
  (h: ∀ k,(fun ⟨c45,c46,c48,c49,c50,c52,c54,c56,c58,c59,c61,c63,c65,c67,c69,c70,c72,c73,c74,c76,c77,c79,c80,c81,c83,c84,c86,c87,c88,c90,c91,c92,c93,c95,c97,in99,i102⟩=>fY w c45 c46 c48 c49 c50 c52 c54 c56 c58 c59 c61 c63 c65 c67 c69 c70 c72 c73 c74 c76 c77 c79 c80 c81 c83 c84 c86 c87 c88 c90 c91 c92 c93 c95 c97 in99 i102 again k (decide (v∈V),(V.length:Int))) (un t V (i:Int))=r):
  (fun ⟨c45,c46,c48,c49,c50,c52,c54,c56,c58,c59,c61,c63,c65,c67,c69,c70,c72,c73,c74,c76,c77,c79,c80,c81,c83,c84,c86,c87,c88,c90,c91,c92,c93,c95,c97,in99,i102⟩=>aq (fY w c45 c46 c48 c49 c50 c52 c54 c56 c58 c59 c61 c63 c65 c67 c69 c70 c72 c73 c74 c76 c77 c79 c80 c81 c83 c84 c86 c87 c88 c90 c91 c92 c93 c95 c97 in99 i102 again) au (false,0)) (un t V (i:Int))=r:=by
 refine fw (fun j=>(decide (v∈V.take j),(j:Int))) V.length (by simp) (by omega) (fun j hj k=> ?_) (fun k=>by rw [List.take_length];exact h k)
 unfold fY
 dsimp only [un]
 rw [cj hj,cond_true,nx (show j<9223372036854775807 by omega),List.take_add_one,List.getElem?_eq_getElem hj]
 simp only [aP]
 by_cases hm:v∈V.take j
 ·rw [decide_eq_true hm,Bool.not_true,cU,cU,cU,Bool.true_or,decide_eq_true (List.mem_append_left _ hm)]
 ·rw [decide_eq_false hm,Bool.not_false,bP,bA hj,ab,bP,bL hv,ab,bP,H4 _ _ (hl _ (List.getElem_mem hj)),ab,Bool.false_or]
  congr 2
  rw [Bool.eq_iff_iff,beq_iff_eq,decide_eq_true_eq,List.mem_append]
  simp only [Option.toList_some,List.mem_singleton]
  exact ⟨fun e=> .inr e.symm,fun e=>(e.resolve_left hm).symm⟩
end So
end Go.Proofs.YtgcgmclghbebjaaGreat
namespace Go.Proofs.YtgcgmclghbebjaaGreat
open Go.Lib Go.ChangeAt Go.ChangeShapes Go.WideShapes Go.RowKit
theorem DO {P:Program} {w:World}: ∀ (l:List (String×DataW Unit)) (ps:List MemPlace),DataW.LaidVars P w l ps→ ∀ (i:Nat) (n:String) (d:DataW Unit),l[i]? =some (n,d)→
  ∃ g t cs fuel p,P.globalNamed n=some g∧(P.globals[g]?).map (·.type)=some t∧w.var? P n=some cs∧DataW.trod (fun _=>()) P w 0 (fun _=>true) false fuel t cs.toList=some (d,p)
 | [],_,_,i,n,d,h=>by simp at h
 | (n0,d0)::l,ps,h,i,n,d,hi=>by
  obtain ⟨g,t,cs,fuel,p,q,h1,h2,h3,h4,h5,_⟩:=h
  cases i with
  | zero=>
   simp only [List.getElem?_cons_zero,Option.some.injEq,Prod.mk.injEq] at hi
   obtain ⟨rfl,rfl⟩:=hi
   exact ⟨g,t,cs,fuel,p,h1,h2,h3,h4⟩
  | succ i=>exact DO l q h5 i n d (by simpa using hi)
theorem Gv {H:Type} {enc:TypeId×Value→H} {P:Program} {w:World} {base:Nat} {sp:Nat→Bool} {held:Bool} {fuel:Nat} {t e:TypeId} {n:Nat} {cs:List Value} {zs:List Str} {p:List MemPlace}
  (ht:P.underlying t=some (.array n e)) (he:P.underlying e=some .string) (hce:P.cellsOf e=1) (hct:P.cellsOf t=n)
  (h:DataW.trod enc P w base sp held fuel t cs=some (.agg (zs.map fun z=> .lit (.string z)),p)):cs=zs.map S:=by
 cases fuel with
 | zero=>simp [DataW.trod] at h
 | succ fuel=>
  simp only [DataW.trod,ht,hce,hct,Nat.mul_one] at h
  split at h
  ·rename_i hl
   obtain ⟨xs,hm,hx⟩:=Option.map_eq_some_iff.1 h
   have hxs:xs.map (·.1)=zs.map fun z=>(DataW.lit (.string z):DataW H):=by
    have:=congrArg Prod.fst hx
    simpa using this
   have hxl:xs.length=n:=by simpa using mapM_length hm
   have hzl:zs.length=n:=by
    have:=congrArg List.length hxs
    simp at this
    omega
   apply List.ext_getElem?
   intro i
   by_cases hi:i<n
   ·obtain ⟨b,hb,hf⟩:=mapM_at hm i i (by simp [hi])
    obtain ⟨z,hc,rfl,_⟩:=DataW.trod_string he hf
    have h1:cs[i]? =some (.string z):=by
     have:=congrArg (·[0]?) hc
     simpa [List.getElem?_take,List.getElem?_drop] using this
    have h2:(xs.map (·.1))[i]? =some (DataW.lit (.string z.data.toList):DataW H):=by simp [hb]
    rw [hxs] at h2
    simp only [List.getElem?_map,Option.map_eq_some_iff,DataW.lit.injEq,Lit.string.injEq] at h2
    obtain ⟨z',hz',hz2⟩:=h2
    subst hz2
    simp [h1,hz',S]
   ·rw [List.getElem?_eq_none (by omega),List.getElem?_eq_none (by simp;omega)]
  ·cases h
theorem laidMet_of {P:Program} {laid:List (String×DataW Unit)} {w:World} (hf:(laid.filter fun x=>x.2.handleName?.isSome)=[]) (h:laidMetH P laid w):laidMet P laid w:=by
 unfold laidMetH at h
 rw [hf] at h
 exact h
theorem gl_strs {P:Program} {laid:List (String×DataW Unit)} {w:World} {Γ:Ctx} (h:laidMet P laid w) (i:Nat) {n:String} {zs:List Str} {g:Nat} {t e:TypeId} {k:Nat}
  (hi:laid[i]? =some (n,.agg (zs.map fun z=> .lit (.string z)))) (hg:P.globalNamed n=some g) (hty:(P.globals[g]?).map (·.type)=some t)
  (ht:P.underlying t=some (.array k e)) (he:P.underlying e=some .string) (hce:P.cellsOf e=1) (hct:P.cellsOf t=k) (hM: ¬ Γ.M g):(gl g (zs.map S)).P Γ.M w:=by
 obtain ⟨ps,hl,_⟩:=h
 obtain ⟨g',t',cs,fuel,p,hg',ht',hv,hd⟩:=DO _ _ hl i n _ hi
 obtain rfl:=Option.some.inj (hg.symm.trans hg')
 obtain rfl:=Option.some.inj (hty.symm.trans ht')
 have e1:=Gv ht he hce hct hd
 refine ⟨hM,?_⟩
 unfold World.var? at hv
 rw [hg] at hv
 simp only [Option.bind_some] at hv
 split at hv
 ·rename_i c ty fr hb
  obtain rfl:=Option.some.inj hv
  exact ⟨ty,fr,by rw [hb,← e1]⟩
 ·cases hv
theorem gl_ints {P:Program} {laid:List (String×DataW Unit)} {w:World} {Γ:Ctx} (h:laidMet P laid w) (i:Nat) {n:String} {kd:IntKind} {zs:List Int} {g:Nat} {t e:TypeId} {k:Nat}
  (hi:laid[i]? =some (n,tabData kd zs)) (hg:P.globalNamed n=some g) (hty:(P.globals[g]?).map (·.type)=some t)
  (ht:P.underlying t=some (.array k e)) (he:P.underlying e=some (.int kd)) (hce:P.cellsOf e=1) (hct:P.cellsOf t=k) (hM: ¬ Γ.M g):(gl g (zs.map (Value.int kd))).P Γ.M w:=by
 obtain ⟨ps,hl,_⟩:=h
 obtain ⟨g',t',cs,fuel,p,hg',ht',hv,hd⟩:=DO _ _ hl i n _ hi
 obtain rfl:=Option.some.inj (hg.symm.trans hg')
 obtain rfl:=Option.some.inj (hty.symm.trans ht')
 have e1:=cells_of_tab ht he hce hct hd
 refine ⟨hM,?_⟩
 unfold World.var? at hv
 rw [hg] at hv
 simp only [Option.bind_some] at hv
 split at hv
 ·rename_i c ty fr hb
  obtain rfl:=Option.some.inj hv
  exact ⟨ty,fr,by rw [hb,← e1]⟩
 ·cases hv
/-! the row at the start: nothing is owned -/
def NoM (Γ:Ctx):Prop:= ∀ b,¬ Γ.M b
theorem Ky:NoM []:=fun b h=>by obtain ⟨it,h,_⟩:=h;cases h
theorem QR {it:Item} {Γ:Ctx} (hp:it.own=[]) (h:NoM Γ):NoM (it::Γ):=fun b hb=>by
 rcases Ctx.p9.1 hb with h1 | h1
 ·rw [hp] at h1;cases h1
 ·exact h b h1
theorem O6 (w:World):Sat [kept w (fun _=>False)] w:=Sat.nil.add rfl ⟨dA.refl w,Nat.le_refl _,fun b _ _=>⟨Ky b,rfl⟩⟩
theorem Oz (w:World):NoM [kept w (fun _=>False)]:=QR rfl Ky
theorem PW {w:World} {Γ:Ctx} (h:NoM Γ):Mv (fun _=>False) w Γ.M w:=⟨Nat.le_refl _,fun b _ _=>⟨h b,rfl⟩⟩
theorem Oq {w w':World} {Γ:Ctx} {i:Nat} (h:Sat Γ w') (hi:Γ[i]? =some (kept w (fun _=>False))):Below w.heap.size w w':=by
 obtain ⟨h1,h2,h3⟩:=h.kept hi
 exact ⟨h1.os,h1.tape,h1.output,h2,fun k hk=>(h3 k hk (fun h=>h)).2⟩
end Go.Proofs.YtgcgmclghbebjaaGreat
namespace Go.Proofs.YtgcgmclghbebjaaGreat
open Go.Lib Go.ChangeAt Go.ChangeShapes Go.WideShapes Go.RowKit
theorem CG {Y:Type} (R:Nat→Y→Ex→Prop): ∀ (ys:List Y),(∀ i y,ys[i]? =some y→ ∃ e,R i y e)→ ∃ l:List Ex,l.length=ys.length∧ ∀ i y e,ys[i]? =some y→l[i]? =some e→R i y e
 | [],_=>⟨[],rfl,fun i y e h=>by simp at h⟩
 | y::ys,h=>by
  obtain ⟨e,he⟩:=h 0 y rfl
  obtain ⟨l,hl,hr⟩:=CG (fun i=>R (i+1)) ys (fun i y hy=>h (i+1) y (by simpa using hy))
  refine ⟨e::l,by simp [hl],fun i y' e' hy hx=> ?_⟩
  cases i with
  | zero=>
   simp only [List.getElem?_cons_zero,Option.some.injEq] at hy hx
   subst hy;subst hx;exact he
  | succ i=>exact hr i y' e' (by simpa using hy) (by simpa using hx)
theorem Oh {H:Type}: ∀ (l:List Ex) (ds:List (DataW H)),l.length=ds.length→(∀ (i:Nat) (e:Ex) (d:DataW H),l[i]? =some e→ds[i]? =some d→e.sz≤Rows.uptoBulk d)→szL l≤Rows.uptoBulkAll ds
 | [],[],_,_=>Nat.le_refl _
 | e::l,d::ds,hl,h=>by
  have h1:=h 0 e d rfl rfl
  have h2:=Oh l ds (by simpa using hl) (fun i e d he hd=>h (i+1) e d (by simpa using he) (by simpa using hd))
  simp only [szL,Rows.uptoBulkAll]
  omega
 | [],_::_,h,_=>by simp at h
 | _::_,[],h,_=>by simp at h
theorem BN {H:Type} (d:DataW H):1≤Rows.uptoBulk d:=by
 cases d with
 | lit l=>cases l <;> simp [Rows.uptoBulk]
 | nil=>simp [Rows.uptoBulk]
 | ptr d=>simp [Rows.uptoBulk]
 | slice elems spare=>simp [Rows.uptoBulk]
 | agg parts=>simp [Rows.uptoBulk]
 | iface t d=>simp [Rows.uptoBulk]
 | map entries=>simp [Rows.uptoBulk]
 | held h=>simp [Rows.uptoBulk]
theorem tv {H:Type} {d:DataW H}: ∀ {l:List (DataW H)},d∈l→Rows.uptoBulk d≤Rows.uptoBulkAll l
 | x::r,h=>by
  simp only [Rows.uptoBulkAll]
  rcases List.mem_cons.1 h with rfl | h
  ·omega
  ·have:=tv h;omega
structure Pa (P:Program) (t:TypeId):Prop where
 fields: ∃ (fs:Array Field) (f0 f1 f2 f3:Field),P.underlying t=some (.struct fs)∧fs.size=4∧fs[0]? =some f0∧fs[1]? =some f1∧fs[2]? =some f2∧fs[3]? =some f3∧
  (f0.offset=0∧P.underlying f0.type=some (.int .i64)∧P.cellsOf f0.type=1)∧(f1.offset=1∧P.underlying f1.type=some (.int .i64)∧P.cellsOf f1.type=1)∧
  (f2.offset=2∧P.underlying f2.type=some (.int .i64)∧P.cellsOf f2.type=1)∧(f3.offset=3∧P.underlying f3.type=some (.slice t)∧P.cellsOf f3.type=1)
 cells:P.cellsOf t=4
theorem UO {P:Program} {w:World} {base:Nat} {t:TypeId} {v:Value} {fs:Array Field} (ht:P.underlying t=some (.struct fs)) (h:Value.okWide P w .any base t v):
  ∃ cs,v= .agg cs∧cs.size=P.cellsOf t∧Row.okWide P w .any base t cs:=by
 unfold Value.okWide at h
 rw [ht] at h
 exact h
theorem Lu {w:World} {a:Addr} {v:Value} (h:w.cell? a=some v):a.spot=none∧ ∃ cs e fr,w.heap[a.block]? =some (.cells cs e fr)∧cs[a.off]? =some v:=by
 unfold World.cell? at h
 split at h
 ·rename_i cs e fr hb
  split at h
  ·cases h
  ·rename_i hs
   exact ⟨by simpa using hs,cs,e,fr,hb,h⟩
 ·cases h
theorem LF {H:Type} {enc:TypeId×Value→H} {P:Program} {W:World} {t:TypeId} (L:Pa P t): ∀ (fuel:Nat) (cs:List Value) (x:DataW H×List MemPlace),
  DataW.trod enc P W 0 (fun _=>true) true fuel t cs=some x→ ∃ e,ox (fun _=>False) W cs e∧e.sz≤Rows.uptoBulk x.1:=by
 intro fuel
 induction fuel using Nat.strongRecOn with
 | ind fuel ih=>
 intro cs x h
 obtain ⟨⟨fs,f0,f1,f2,f3,hT,hsz,g0,g1,g2,g3,⟨o0,u0,c0⟩,⟨o1,u1,c1⟩,⟨o2,u2,c2⟩,⟨o3,u3,c3⟩⟩,hc⟩:=L
 obtain ⟨xs,n,rfl,rfl,hl,hxs,hf⟩:=DataW.trod_struct hT h
 rw [hc] at hl
 rw [hsz] at hxs
 obtain ⟨a0,a1,a2,a3,rfl⟩: ∃ a0 a1 a2 a3,cs=[a0,a1,a2,a3]:=by
  match cs,hl with
  | [a,b,c,d],_=>exact ⟨a,b,c,d,rfl⟩
 obtain ⟨x0,x1,x2,x3,rfl⟩: ∃ a0 a1 a2 a3,xs=[a0,a1,a2,a3]:=by
  match xs,hxs with
  | [a,b,c,d],_=>exact ⟨a,b,c,d,rfl⟩
 have t0:=hf 0 f0 g0
 have t1:=hf 1 f1 g1
 have t2:=hf 2 f2 g2
 have t3:=hf 3 f3 g3
 rw [o0,c0] at t0;rw [o1,c1] at t1;rw [o2,c2] at t2;rw [o3,c3] at t3
 simp only [List.drop_zero,List.take_succ_cons,List.take_zero,List.drop_succ_cons,List.getElem?_cons_zero,List.getElem?_cons_succ] at t0 t1 t2 t3
 obtain ⟨z0,e0,_,_⟩:=DataW.trod_int u0 t0
 obtain ⟨z1,e1,_,_⟩:=DataW.trod_int u1 t1
 obtain ⟨z2,e2,_,_⟩:=DataW.trod_int u2 t2
 obtain rfl:a0= .int .i64 z0:=by simpa using e0
 obtain rfl:a1= .int .i64 z1:=by simpa using e1
 obtain rfl:a2= .int .i64 z2:=by simpa using e2
 have hb: ∀ d,x3.1=d→Rows.uptoBulk d+1≤Rows.uptoBulk (DataW.agg ([x0,x1,x2,x3].map (·.1))):=fun d hd=>by
  subst hd
  have:=tv (d:=x3.1) (l:=[x0,x1,x2,x3].map (·.1)) (by simp)
  simp only [Rows.uptoBulk]
  omega
 rcases DataW.trod_slice u3 t3 with ⟨h3,hx3⟩ | ⟨a,len,cap,elems,rest,m,rfl,h3,hx3,_,hlc,_,hlen,hel,hsp,_⟩
 ·obtain rfl:a3= .slice none 0 0:=by simpa using h3
  refine ⟨.mk z0 z1 z2 [],.nil z0 z1 z2 none,?_⟩
  have:=hb _ rfl
  have:=BN x3.1
  simp only [Ex.sz,szL]
  omega
 ·obtain rfl:a3= .slice (some a) len cap:=by simpa using h3
  obtain ⟨hrl,hre⟩:=hsp rfl
  rw [hc] at hel hre
  -- all of it is there
  have cell: ∀ i,i<cap→ ∃ us y,W.cells? 0 (a.add (i*4)) 4=some us∧us.length=4∧(∀ j,j<4→W.cell? ((a.add (i*4)).add j)=us[j]?)∧DataW.trod enc P W 0 (fun _=>true) true m t us=some y∧(i<len→elems[i]? =some y):=fun i hi=>by
   by_cases hil:i<len
   ·obtain ⟨y,hy⟩: ∃ y,elems[i]? =some y:=⟨elems[i]'(by omega),List.getElem?_eq_getElem _⟩
    have:=hel i hil
    rw [hy,Option.bind_eq_some_iff] at this
    obtain ⟨us,h1,h2⟩:=this
    obtain ⟨_,h3,h4⟩:=World.cells?_some h1
    exact ⟨us,y,h1,h3,h4,h2,fun _=>hy⟩
   ·obtain ⟨y,hy⟩: ∃ y,rest[i-len]? =some y:=⟨rest[i-len]'(by omega),List.getElem?_eq_getElem _⟩
    have:=hre (i-len) (by omega)
    rw [hy,Option.bind_eq_some_iff] at this
    obtain ⟨us,h1,h2⟩:=this
    have e:len+(i-len)=i:=by omega
    rw [e] at h1
    obtain ⟨_,h3,h4⟩:=World.cells?_some h1
    exact ⟨us,y,h1,h3,h4,h2,fun h=>absurd h hil⟩
  by_cases hcap:cap=0
  ·subst hcap
   obtain rfl:len=0:=by omega
   refine ⟨.mk z0 z1 z2 [],.nil z0 z1 z2 (some a),?_⟩
   have:=hb _ rfl
   have:=BN x3.1
   simp only [Ex.sz,szL]
   omega
  ·obtain ⟨us0,_,_,hl0,hc0,_⟩:=cell 0 (by omega)
   have h00:=hc0 0 (by omega)
   rw [List.getElem?_eq_getElem (by omega)] at h00
   obtain ⟨hs,cs',e',fr,hblk,_⟩:=Lu h00
   have hs':a.spot=none:=by simpa [Addr.add] using hs
   have hblk':W.heap[a.block]? =some (.cells cs' e' fr):=by simpa [Addr.add] using hblk
   obtain ⟨b,off,sp⟩:=a
   simp only at hs' hblk'
   subst hs'
   have at_: ∀ i j,((⟨b,off,none⟩:Addr).add (i*4)).add j=⟨b,off+i*4+j,none⟩:=fun i j=>by
    unfold Addr.add
    split <;> split <;> simp_all
   have cellx: ∀ i,i<cap→ ∃ us y,us.length=4∧(∀ j,j<4→cs'[off+i*4+j]? =us[j]?)∧DataW.trod enc P W 0 (fun _=>true) true m t us=some y∧(i<len→elems[i]? =some y):=fun i hi=>by
    obtain ⟨us,y,_,h3,h4,h5,h6⟩:=cell i hi
    refine ⟨us,y,h3,fun j hj=> ?_,h5,h6⟩
    have:=h4 j hj
    rw [at_] at this
    simpa [World.cell?,hblk'] using this
   have hsize:off+cap*4≤cs'.size:=by
    obtain ⟨us,_,h3,h4,_⟩:=cellx (cap-1) (by omega)
    have:=h4 3 (by omega)
    rw [List.getElem?_eq_getElem (by omega)] at this
    have:=(Array.getElem?_eq_some_iff.1 this).1
    omega
   have hel': ∀ i y,elems[i]? =some y→ ∃ e,(ox (fun _=>False) W (((cs'.toList.drop off).drop (i*4)).take 4) e∧e.sz≤Rows.uptoBulk y.1):=fun i y hy=>by
    have hi:i<len:=by rw [← hlen];exact (List.getElem?_eq_some_iff.1 hy).1
    obtain ⟨us,y',h3,h4,h5,h6⟩:=cellx i (by omega)
    obtain rfl:y'=y:=by have:=h6 hi;rw [hy] at this;exact (Option.some.inj this).symm
    have hus:((cs'.toList.drop off).drop (i*4)).take 4=us:=by
     apply List.ext_getElem?
     intro j
     by_cases hj:j<4
     ·rw [List.getElem?_take,if_pos hj,List.getElem?_drop,List.getElem?_drop,← h4 j hj]
      simp [Nat.add_assoc]
     ·rw [List.getElem?_take,if_neg hj,List.getElem?_eq_none (by omega)]
    rw [hus]
    exact ih m (by omega) us y' h5
   obtain ⟨l,hll,hR⟩:=CG (fun i y e=>ox (fun _=>False) W (((cs'.toList.drop off).drop (i*4)).take 4) e∧e.sz≤Rows.uptoBulk y.1) elems hel'
   have hll':l.length=len:=by omega
   refine ⟨.mk z0 z1 z2 l,?_,?_⟩
   ·rw [← hll']
    refine .some z0 z1 z2 l b off cap cs' e' fr (fun h=>h) hblk' (by omega) (by omega) ?_ (fun i hi=> ?_)
    ·simp only [List.length_take,List.length_drop,Array.length_toList]
     omega
    ·obtain ⟨y,hy⟩: ∃ y,elems[i]? =some y:=⟨elems[i]'(by omega),List.getElem?_eq_getElem _⟩
     have:=(hR i y l[i] hy (List.getElem?_eq_getElem _)).1
     rw [List.drop_take,List.take_take]
     have e4:min 4 (l.length*4-i*4)=4:=by omega
     rw [e4]
     exact this
   ·have h1:=Oh l (elems.map (·.1)) (by simp [hll]) (fun i e d he hd=>by
     rw [List.getElem?_map,Option.map_eq_some_iff] at hd
     obtain ⟨y,hy,rfl⟩:=hd
     exact (hR i y e hy he).2)
    have h2:x3.1= .slice (elems.map (·.1)) (rest.map (·.1)):=by rw [hx3]
    have h3:=hb _ h2
    simp only [Ex.sz]
    have h4:Rows.uptoBulk (DataW.slice (elems.map (·.1)) (rest.map (·.1)))=Rows.uptoBulkAll (elems.map (·.1))+Rows.uptoBulkAll (rest.map (·.1))+1:=by simp only [Rows.uptoBulk]
    omega
end Go.Proofs.YtgcgmclghbebjaaGreat
namespace Go.Proofs.YtgcgmclghbebjaaGreat
open Go.Lib Go.ChangeAt Go.ChangeShapes Go.WideShapes Go.RowKit
open Go.ChangeMaps (open_string)
def mL:Ty→List (Option TypeId)
 | .p a b=>mL a++mL b
 | .l _ | .ex=>[none]
 | _=>[]
def VI:Ty→Pt
 | .i k=> .int k
 | .bo=> .bool
 | .s=> .str
 | .l t=> .sli t
 | t=> .dat t (mL t)
def Dom (Q:Nat→Prop):(t:Ty)→t.T→Prop
 | .i k,x=>(Lit.int k x).wf=true
 | .s,x=>x.length≤9223372036854775807
 | .p a b,x=>Dom Q a x.1∧Dom Q b x.2
 | .l t,x=>(List.length (α:=t.T) x≤9223372036854775807∧Q (List.length (α:=t.T) x))∧ ∀ y:t.T,List.Mem y x→Dom Q t y
 | .ex,x=>Q x.sz
 | _,_=>True
/-! the program's types and codes -/
def zl (P:Program) (t:TypeId):Bool:=(match P.underlying t with
 | some (.int .i64)=>true
 | _=>false)&&P.cellsOf t==1
def exB (P:Program) (t:TypeId):Bool:=(match P.underlying t with
 | some (.struct fs)=>(match fs.toList with
  | [f0,f1,f2,f3]=>f0.offset==0&&zl P f0.type&&(f1.offset==1&&zl P f1.type)&&(f2.offset==2&&zl P f2.type)&&(f3.offset==3&&P.cellsOf f3.type==1&&(match P.underlying f3.type with
   | some (.slice e)=>e==t
   | _=>false))
  | _=>false)
 | _=>false)&&P.cellsOf t==4
def rh (P:Program) (fit:TypeId→Ty→Bool) (tot:Nat):List Field→Nat→Ty→Bool
 | [],_,_=>false
 | [f],off,t=>f.offset==off&&off+P.cellsOf f.type==tot&&P.cellsOf f.type==t.rep.n&&fit f.type t
 | f::g::fs,off,t=>match t with
  | .p a b=>f.offset==off&&P.cellsOf f.type==a.rep.n&&fit f.type a&&rh P fit tot (g::fs) (off+P.cellsOf f.type) b
  | _=>false
def fits (P:Program):Nat→TypeId→Ty→Bool
 | 0,_,_=>false
 | n+1,i,t=>match P.underlying i with
  | some (.int k)=>(match t with
   | .i k'=>decide (k=k')
   | _=>false)
  | some .bool=>(match t with
   | .bo=>true
   | _=>false)
  | some .string=>(match t with
   | .s=>true
   | _=>false)
  | some (.slice e)=>(match t with
   | .l u=>P.cellsOf e==u.rep.n&&Nat.blt 0 u.rep.n&&fits P n e u
   | _=>false)
  | some (.struct fs)=>(match t with
   | .ex=>exB P i
   | .p a b=>rh P (fits P n) (P.cellsOf i) fs.toList 0 (.p a b)
   | _=>false)
  | _=>false
def noN:Ty→Bool
 | .n=>false
 | .p a b=>noN a&&noN b
 | _=>true
theorem zf {P:Program} {fit:TypeId→Ty→Bool} (h: ∀ i t,fit i t=true→noN t=true) {tot:Nat}: ∀ (fs:List Field) (off:Nat) (t:Ty),rh P fit tot fs off t=true→noN t=true
 | [],_,_,e=>by cases e
 | [f],off,t,e=>by
  simp only [rh,Bool.and_eq_true] at e
  exact h _ _ e.2
 | f::g::fs,off,t,e=>by
  unfold rh at e
  split at e
  ·rename_i a b
   simp only [Bool.and_eq_true] at e
   simp only [noN,Bool.and_eq_true]
   exact ⟨h _ _ e.1.2,zf h (g::fs) _ b e.2⟩
  ·cases e
theorem Jv {P:Program}: ∀ (n:Nat) (i:TypeId) (t:Ty),fits P n i t=true→noN t=true
 | 0,_,_,e=>by cases e
 | n+1,i,t,e=>by
  unfold fits at e
  split at e <;> (try cases e)
  ·split at e
   ·rfl
   ·cases e
  ·split at e
   ·rfl
   ·cases e
  ·split at e
   ·rfl
   ·cases e
  ·split at e
   ·rfl
   ·cases e
  ·split at e
   ·rfl
   ·exact zf (fun i t=>Jv n i t) _ _ _ e
   ·cases e
theorem nK {P:Program} {t:TypeId} (h:zl P t=true):P.underlying t=some (.int .i64)∧P.cellsOf t=1:=by
 unfold zl at h
 simp only [Bool.and_eq_true,beq_iff_eq] at h
 refine ⟨?_,h.2⟩
 revert h
 split
 ·rename_i h;intro _;exact h
 ·intro h;cases h.1
theorem UJ {P:Program} {t:TypeId} (h:exB P t=true):Pa P t:=by
 unfold exB at h
 simp only [Bool.and_eq_true,beq_iff_eq] at h
 obtain ⟨h1,h2⟩:=h
 split at h1
 ·rename_i fs hfs
  split at h1
  ·rename_i f0 f1 f2 f3 hl
   simp only [Bool.and_eq_true,beq_iff_eq] at h1
   obtain ⟨⟨⟨⟨a0,b0⟩,a1,b1⟩,a2,b2⟩,⟨a3,c3⟩,b3⟩:=h1
   have g: ∀ i:Nat,fs[i]? =[f0,f1,f2,f3][i]? :=fun i=>by rw [← hl,Array.getElem?_toList]
   have u3:P.underlying f3.type=some (.slice t):=by
    revert b3
    split
    ·rename_i e he
     intro hb
     rw [he,(by simpa using hb:e=t)]
    ·intro hb;cases hb
   refine ⟨⟨fs,f0,f1,f2,f3,hfs,?_,g 0,g 1,g 2,g 3,⟨a0,(nK b0).1,(nK b0).2⟩,⟨a1,(nK b1).1,(nK b1).2⟩,⟨a2,(nK b2).1,(nK b2).2⟩,⟨a3,u3,c3⟩⟩,h2⟩
   rw [← Array.length_toList,hl];rfl
  ·cases h1
 ·cases h1
theorem PJ {w:World} {a:Addr} {v:Value} (h:w.cell? a=some v):a.spot=none∧ ∃ cs e fr,w.heap[a.block]? =some (.cells cs e fr)∧cs[a.off]? =some v:=by
 unfold World.cell? at h
 split at h
 ·rename_i cs e fr hb
  split at h
  ·cases h
  ·rename_i hs
   exact ⟨by simpa using hs,cs,e,fr,hb,h⟩
 ·cases h
theorem A7 {Y α:Type} (R:Nat→Y→α→Prop): ∀ (ys:List Y),(∀ i y,ys[i]? =some y→ ∃ e,R i y e)→ ∃ l:List α,l.length=ys.length∧ ∀ i y e,ys[i]? =some y→l[i]? =some e→R i y e
 | [],_=>⟨[],rfl,fun i y e h=>by simp at h⟩
 | y::ys,h=>by
  obtain ⟨e,he⟩:=h 0 y rfl
  obtain ⟨l,hl,hr⟩:=A7 (fun i=>R (i+1)) ys (fun i y hy=>h (i+1) y (by simpa using hy))
  refine ⟨e::l,by simp [hl],fun i y' e' hy hx=> ?_⟩
  cases i with
  | zero=>
   simp only [List.getElem?_cons_zero,Option.some.injEq] at hy hx
   subst hy;subst hx;exact he
  | succ i=>exact hr i y' e' (by simpa using hy) (by simpa using hx)
theorem A3 {H:Type}: ∀ (l:List (DataW H)),l.length≤Rows.uptoBulkAll l
 | []=>Nat.zero_le _
 | d::l=>by
  have:=A3 l
  have:=BN d
  simp only [List.length_cons,Rows.uptoBulkAll]
  omega
theorem Pg {H α:Type} {enc:TypeId×Value→H} {P:Program} {W:World} {t e:TypeId} {A:Rep α} {Q:Nat→Prop} {D:α→Prop} (ht:P.underlying t=some (.slice e)) (hA:P.cellsOf e=A.n) (hn:0<A.n)
  (fuel:Nat) (cs:List Value) (x:DataW H×List MemPlace) (hQ: ∀ n,n≤Rows.uptoBulk x.1→Q n)
  (he: ∀ (fuel:Nat) (us:List Value) (y:DataW H×List MemPlace),(∀ n,n≤Rows.uptoBulk y.1→Q n)→DataW.trod enc P W 0 (fun _=>true) true fuel e us=some y→ ∃ z,A.rd (fun _=>False) W us z∧D z)
  (h:DataW.trod enc P W 0 (fun _=>true) true fuel t cs=some x):
  ∃ (u:SLV) (zs:List α),cs=[sl u]∧SRd A (fun _=>False) W (sl u) zs∧(zs.length≤9223372036854775807∧Q zs.length)∧ ∀ z∈zs,D z:=by
 rcases DataW.trod_slice ht h with ⟨h3,_⟩ | ⟨a,len,cap,elems,rest,m,rfl,h3,hx,_,hlc,hmx,hlen,hel,hsp,_⟩
 ·exact ⟨(none,0,0),[],h3,SRd.nil,⟨by simp,hQ _ (Nat.zero_le _)⟩,by simp⟩
 ·obtain ⟨hrl,hre⟩:=hsp rfl
  rw [hA] at hel hre
  have hmx:cap≤9223372036854775807:=hmx
  have hb:Rows.uptoBulk x.1=Rows.uptoBulkAll (elems.map (·.1))+Rows.uptoBulkAll (rest.map (·.1))+1:=by rw [hx];simp only [Rows.uptoBulk]
  have hlb:len≤Rows.uptoBulk x.1:=by
   have:=A3 (elems.map (·.1))
   simp only [List.length_map] at this
   omega
  have hQe: ∀ y∈elems,∀ n,n≤Rows.uptoBulk y.1→Q n:=fun y hy n hn=>hQ n (by
   have:=tv (d:=y.1) (l:=elems.map (·.1)) (List.mem_map.2 ⟨y,hy,rfl⟩)
   omega)
  have cell: ∀ i,i<cap→ ∃ us y,us.length=A.n∧(∀ j,j<A.n→W.cell? ((a.add (i*A.n)).add j)=us[j]?)∧DataW.trod enc P W 0 (fun _=>true) true m e us=some y∧(i<len→elems[i]? =some y):=fun i hi=>by
   by_cases hil:i<len
   ·obtain ⟨y,hy⟩: ∃ y,elems[i]? =some y:=⟨elems[i]'(by omega),List.getElem?_eq_getElem _⟩
    have:=hel i hil
    rw [hy,Option.bind_eq_some_iff] at this
    obtain ⟨us,h1,h2⟩:=this
    obtain ⟨_,h3,h4⟩:=World.cells?_some h1
    exact ⟨us,y,h3,h4,h2,fun _=>hy⟩
   ·obtain ⟨y,hy⟩: ∃ y,rest[i-len]? =some y:=⟨rest[i-len]'(by omega),List.getElem?_eq_getElem _⟩
    have:=hre (i-len) (by omega)
    rw [hy,Option.bind_eq_some_iff,show len+(i-len)=i by omega] at this
    obtain ⟨us,h1,h2⟩:=this
    obtain ⟨_,h3,h4⟩:=World.cells?_some h1
    exact ⟨us,y,h3,h4,h2,fun h=>absurd h hil⟩
  by_cases hcap:cap=0
  ·subst hcap
   obtain rfl:len=0:=by omega
   exact ⟨(some a,0,0),[],h3,SRd.emp,⟨by simp,hQ _ (Nat.zero_le _)⟩,by simp⟩
  ·obtain ⟨us0,_,hl0,hc0,_⟩:=cell 0 (by omega)
   have h00:=hc0 0 hn
   rw [List.getElem?_eq_getElem (by omega)] at h00
   obtain ⟨hs,cs',e',fr,hblk,_⟩:=PJ h00
   have hs':a.spot=none:=by simpa [Addr.add] using hs
   have hblk':W.heap[a.block]? =some (.cells cs' e' fr):=by simpa [Addr.add] using hblk
   obtain ⟨b,off,sp⟩:=a
   simp only at hs' hblk'
   subst hs'
   have at_: ∀ i j,((⟨b,off,none⟩:Addr).add (i*A.n)).add j=⟨b,off+i*A.n+j,none⟩:=fun i j=>by
    unfold Addr.add
    split <;> split <;> simp_all
   have cellx: ∀ i,i<cap→ ∃ us y,us.length=A.n∧(∀ j,j<A.n→cs'[off+i*A.n+j]? =us[j]?)∧DataW.trod enc P W 0 (fun _=>true) true m e us=some y∧(i<len→elems[i]? =some y):=fun i hi=>by
    obtain ⟨us,y,h3,h4,h5,h6⟩:=cell i hi
    refine ⟨us,y,h3,fun j hj=> ?_,h5,h6⟩
    have:=h4 j hj
    rw [at_] at this
    simpa [World.cell?,hblk'] using this
   have hsize:off+cap*A.n≤cs'.size:=by
    obtain ⟨us,_,h3,h4,_⟩:=cellx (cap-1) (by omega)
    have:=h4 (A.n-1) (by omega)
    rw [List.getElem?_eq_getElem (by omega)] at this
    have:=(Array.getElem?_eq_some_iff.1 this).1
    have e1:cap*A.n=(cap-1)*A.n+A.n:=by
     have:cap=(cap-1)+1:=by omega
     conv=>lhs;rw [this]
     rw [Nat.add_mul,Nat.one_mul]
    omega
   have hel': ∀ i y,elems[i]? =some y→ ∃ z,(A.rd (fun _=>False) W (((cs'.toList.drop off).drop (i*A.n)).take A.n) z∧D z):=fun i y hy=>by
    have hi:i<len:=by rw [← hlen];exact (List.getElem?_eq_some_iff.1 hy).1
    obtain ⟨us,y',h3,h4,h5,h6⟩:=cellx i (by omega)
    obtain rfl:y'=y:=by have:=h6 hi;rw [hy] at this;exact (Option.some.inj this).symm
    have hus:((cs'.toList.drop off).drop (i*A.n)).take A.n=us:=by
     apply List.ext_getElem?
     intro j
     by_cases hj:j<A.n
     ·rw [List.getElem?_take,if_pos hj,List.getElem?_drop,List.getElem?_drop,← h4 j hj]
      simp [Nat.add_assoc]
     ·rw [List.getElem?_take,if_neg hj,List.getElem?_eq_none (by omega)]
    rw [hus]
    exact he m us y' (hQe y' (List.mem_of_getElem? hy)) h5
   obtain ⟨l,hll,hR⟩:=A7 (fun i y z=>A.rd (fun _=>False) W (((cs'.toList.drop off).drop (i*A.n)).take A.n) z∧D z) elems hel'
   have hll':l.length=len:=by omega
   have get: ∀ i (hi:i<l.length),A.rd (fun _=>False) W (((cs'.toList.drop off).drop (i*A.n)).take A.n) l[i]∧D l[i]:=fun i hi=>by
    obtain ⟨y,hy⟩: ∃ y,elems[i]? =some y:=⟨elems[i]'(by omega),List.getElem?_eq_getElem _⟩
    exact hR i y l[i] hy (List.getElem?_eq_getElem _)
   refine ⟨(some ⟨b,off,none⟩,len,cap),l,h3,.inr ⟨b,off,cap,cs',e',fr,by rw [hll'];rfl,(fun h=>h),hblk',by omega,hsize,?_⟩,⟨by omega,hQ _ (by omega)⟩,fun z hz=> ?_⟩
   ·have hle:l.length*A.n≤cap*A.n:=Nat.mul_le_mul_right _ (by omega)
    refine ⟨?_,fun i hi=> ?_⟩
    ·simp only [List.length_take,List.length_drop,Array.length_toList]
     omega
    ·have h1:i*A.n+A.n≤l.length*A.n:=by rw [← Nat.succ_mul];exact Nat.mul_le_mul_right _ hi
     rw [List.drop_take,List.take_take,Nat.min_eq_left (by omega)]
     exact (get i hi).1
   ·obtain ⟨i,hi,rfl⟩:=List.getElem_of_mem hz
    exact (get i hi).2
theorem JY {H:Type} {enc:TypeId×Value→H} {P:Program} {W:World} {Q:Nat→Prop}: ∀ (n:Nat) (i:TypeId) (t:Ty),fits P n i t=true→ ∀ (fuel:Nat) (cs:List Value) (x:DataW H×List MemPlace),
  (∀ n,n≤Rows.uptoBulk x.1→Q n)→DataW.trod enc P W 0 (fun _=>true) true fuel i cs=some x→ ∃ z:t.T,t.rep.rd (fun _=>False) W cs z∧Dom Q t z:=by
 intro n
 induction n with
 | zero=>intro i t h;cases h
 | succ n ih=>
 intro i t hf fuel cs x hQ h
 unfold fits at hf
 split at hf
 ·rename_i k hu
  split at hf
  ·obtain ⟨z,h1,_,h3⟩:=DataW.trod_int hu h
   have e:=of_decide_eq_true hf
   subst e
   exact ⟨z,h1,h3⟩
  ·cases hf
 ·rename_i hu
  split at hf
  ·obtain ⟨z,h1,_⟩:=DataW.trod_bool hu h
   exact ⟨z,h1,trivial⟩
  ·cases hf
 ·rename_i hu
  split at hf
  ·obtain ⟨⟨⟨z⟩⟩,h1,_,h3⟩:=DataW.trod_string hu h
   exact ⟨z,h1,h3⟩
  ·cases hf
 ·rename_i e hu
  split at hf
  ·rename_i u
   simp only [Bool.and_eq_true,beq_iff_eq,Nat.blt_eq] at hf
   obtain ⟨⟨h1,h2⟩,h3⟩:=hf
   obtain ⟨p,zs,a1,a2,a3,a4⟩:=Pg (A:=u.rep) (Q:=Q) (D:=Dom Q u) hu h1 h2 fuel cs x hQ (fun fuel us y hy h=>ih e u h3 fuel us y hy h) h
   exact ⟨zs,⟨p,a1,a2⟩,a3,a4⟩
  ·cases hf
 ·rename_i fs hu
  have key: ∀ t:Ty,rh P (fits P n) (P.cellsOf i) fs.toList 0 t=true→ ∃ z:t.T,t.rep.rd (fun _=>False) W cs z∧Dom Q t z:=fun t hf=>by
   obtain ⟨xs,m,_,hx,hl,hxs,hfl⟩:=DataW.trod_struct hu h
   have hb:Rows.uptoBulk x.1=Rows.uptoBulkAll (xs.map (·.1))+1:=by rw [hx];simp only [Rows.uptoBulk]
   have hQe: ∀ y∈xs,∀ n,n≤Rows.uptoBulk y.1→Q n:=fun y hy n hn=>hQ n (by
    have:=tv (d:=y.1) (l:=xs.map (·.1)) (List.mem_map.2 ⟨y,hy,rfl⟩)
    omega)
   have one: ∀ (j:Nat) (f:Field) (t:Ty),fs.toList[j]? =some f→fits P n f.type t=true→ ∃ z:t.T,t.rep.rd (fun _=>False) W ((cs.drop f.offset).take (P.cellsOf f.type)) z∧Dom Q t z:=fun j f t hj ht=>by
    have hj':fs[j]? =some f:=by simpa using hj
    have h1:=hfl j f hj'
    have hjl:j<xs.length:=by rw [hxs];exact (Array.getElem?_eq_some_iff.1 hj').1
    rw [List.getElem?_eq_getElem hjl] at h1
    exact ih f.type t ht m _ _ (hQe _ (List.getElem_mem _)) h1
   have go: ∀ (r:List Field) (j off:Nat) (t:Ty),fs.toList.drop j=r→rh P (fits P n) (P.cellsOf i) r off t=true→ ∃ z:t.T,t.rep.rd (fun _=>False) W (cs.drop off) z∧Dom Q t z:=fun r=>by
    induction r with
    | nil=>intro j off t _ h;cases h
    | cons f r ihr=>
     intro j off t hr hf
     have hj:fs.toList[j]? =some f:=by
      have:=congrArg (·[0]?) hr
      simpa [List.getElem?_drop] using this
     have hr':fs.toList.drop (j+1)=r:=by
      rw [← List.drop_drop,hr];rfl
     cases r with
     | nil=>
      simp only [rh,Bool.and_eq_true,beq_iff_eq] at hf
      obtain ⟨⟨⟨h1,h2⟩,h3⟩,h4⟩:=hf
      obtain ⟨z,z1,z2⟩:=one j f t hj h4
      rw [h1,List.take_of_length_le (by simp;omega)] at z1
      exact ⟨z,z1,z2⟩
     | cons g r=>
      unfold rh at hf
      split at hf
      ·rename_i a b
       simp only [Bool.and_eq_true,beq_iff_eq] at hf
       obtain ⟨⟨⟨h1,h2⟩,h3⟩,h4⟩:=hf
       obtain ⟨z,z1,z2⟩:=one j f a hj h3
       obtain ⟨y,y1,y2⟩:=ihr (j+1) _ b hr' h4
       rw [h1] at z1
       refine ⟨(z,y),⟨_,_,?_,z1,y1⟩,z2,y2⟩
       rw [← List.drop_drop];exact (List.take_append_drop ..).symm
      ·cases hf
   obtain ⟨z,z1,z2⟩:=go fs.toList 0 0 t rfl hf
   exact ⟨z,by simpa using z1,z2⟩
  split at hf
  ·obtain ⟨e,h1,h2⟩:=LF (UJ hf) fuel cs x h
   exact ⟨e,h1,hQ _ h2⟩
  ·exact key _ hf
  ·cases hf
 ·cases hf
def iH (W:World) (I:Its):Prop:= ∀ it∈I,it.1=false∧it.2.ck=true∧ ∀ M,Mv (fun _=>False) W M W→it.2.P M W
theorem iH.nil {W:World}:iH W []:=fun it h=>by cases h
theorem iH.app {W:World} {I J:Its} (h:iH W I) (k:iH W J):iH W (I++J):=fun it hit=>by
 rcases List.mem_append.1 hit with h1 | h1
 ·exact h it h1
 ·exact k it h1
theorem iH.one {W:World} {α:Type} {A:Rep α} {p:SLV} {l:List α} (h:SRd A (fun _=>False) W (sl p) l):iH W [(false,zL true A p l false)]:=fun it hit=>by
 rcases List.mem_singleton.1 hit with rfl
 exact ⟨rfl,rfl,fun M hm _=>⟨h.mv hm,fun h=>by cases h⟩⟩
theorem xM {W:World}: ∀ (t:Ty) (cs:List Value) (x:t.T),noN t=true→t.rep.rd (fun _=>False) W cs x→ ∀ (o:List (Option TypeId)) (N:List Nm),∃ I N',BG t x cs (mL t++o) N I N' o∧iH W I
 | .i k,cs,x,hn,h,o,N=>⟨[],N,⟨h,rfl,rfl,rfl⟩,.nil⟩
 | .bo,cs,x,hn,h,o,N=>⟨[],N,⟨h,rfl,rfl,rfl⟩,.nil⟩
 | .s,cs,x,hn,h,o,N=>⟨[],N,⟨h,rfl,rfl,rfl⟩,.nil⟩
 | .un,cs,x,hn,h,o,N=>⟨[],N,⟨h,rfl,rfl,rfl⟩,.nil⟩
 | .n,cs,x,hn,h,o,N=>by cases hn
 | .mp _ _,cs,x,hn,h,o,N=>absurd h id
 | .p a b,cs,x,hn,h,o,N=>by
  simp only [noN,Bool.and_eq_true] at hn
  obtain ⟨c1,c2,h1,h2,h3⟩:=h
  obtain ⟨I1,N1,s1,g1⟩:=xM a c1 x.1 hn.1 h2 (mL b++o) N
  obtain ⟨I2,N2,s2,g2⟩:=xM b c2 x.2 hn.2 h3 o N1
  refine ⟨I1++I2,N2,⟨c1,c2,N1,I1,I2,mL b++o,?_,s2,h1,rfl⟩,g1.app g2⟩
  rw [show mL (.p a b)++o=mL a++(mL b++o) by simp [mL]]
  exact s1
 | .l t,cs,x,hn,h,o,N=>by
  obtain ⟨p,h1,h2⟩:=h
  exact ⟨_,_,⟨⟨0,p,⟨0,0,none⟩,none,.bool false,⟨.un,()⟩⟩,h1,rfl,.inl ⟨rfl,rfl⟩⟩,.one h2⟩
 | .ex,cs,x,hn,h,o,N=>by
  obtain ⟨p,h1,h2⟩:=wE h
  exact ⟨_,_,⟨⟨0,p,⟨0,0,none⟩,none,.bool false,⟨.un,()⟩⟩,h1,rfl,.inl ⟨rfl,rfl⟩⟩,.one h2⟩
def Arg (W:World) (t:Ty) (v:Value) (z:t.T):Prop:= ∀ N:List Nm,∃ I N',Sem (VI t) v none none N [⟨t,z⟩] I [] N'∧iH W I
theorem uF {H:Type} {enc:TypeId×Value→H} {P:Program} {W:World} {Q:Nat→Prop} {base:Nat} {n:Nat} {i:TypeId} (t:Ty) (hf:fits P n i t=true) {v:Value} {d:DataW H} {ps:List MemPlace}
  (hw:Value.okWide P W .any base i v) (hQ: ∀ n,n≤Rows.uptoBulk d→Q n) (h:DataW.Trod enc P W 0 (fun _=>true) true i v d ps): ∃ z:t.T,Arg W t v z∧Dom Q t z:=by
 have hk:=h
 obtain ⟨fuel,hx⟩:=h
 obtain ⟨z,h1,h2⟩:=JY n i t hf fuel _ _ hQ hx
 refine ⟨z,?_,h2⟩
 cases n with
 | zero=>cases hf
 | succ n=>
 unfold fits at hf
 split at hf
 ·rename_i k hu
  split at hf
  ·have e:=of_decide_eq_true hf
   subst e
   obtain ⟨y,rfl,_⟩:=open_int hu hw hk
   have:y=z:=by
    have h1:([.int k y]:List Value)=[.int k z]:=h1
    injection h1 with h1 _
    injection h1
   subst this
   exact fun N=>⟨[],N,⟨y,rfl,rfl,rfl,rfl,rfl⟩,.nil⟩
  ·cases hf
 ·rename_i hu
  split at hf
  ·obtain ⟨y,rfl,_⟩:=open_bool hu hw hk
   have:y=z:=by
    have h1:([.bool y]:List Value)=[.bool z]:=h1
    injection h1 with h1 _
    injection h1
   subst this
   exact fun N=>⟨[],N,⟨y,rfl,rfl,rfl,rfl,rfl⟩,.nil⟩
  ·cases hf
 ·rename_i hu
  split at hf
  ·obtain ⟨⟨⟨y⟩⟩,rfl,_⟩:=open_string hu hw hk
   have:y=z:=by
    have h1:([S y]:List Value)=[S z]:=h1
    injection h1 with h1 _
    injection h1 with h1
    injection h1 with h1
    injection h1
   subst this
   exact fun N=>⟨[],N,⟨y,rfl,rfl,rfl,rfl,rfl⟩,.nil⟩
  ·cases hf
 ·rename_i e hu
  split at hf
  ·rename_i u
   obtain ⟨a,len,cap,rfl⟩:=okWide_slice hu hw
   obtain ⟨p,e1,h3⟩:=h1
   have e2:Value.slice a len cap=sl p:=by simpa [Value.cells] using e1
   rw [e2]
   exact fun N=>⟨_,_,⟨⟨0,p,⟨0,0,none⟩,none,.bool false,⟨.un,()⟩⟩,z,rfl,rfl,rfl,rfl,rfl⟩,.one h3⟩
  ·cases hf
 ·rename_i fs hu
  obtain ⟨cs,rfl,_,_⟩:=UO hu hw
  split at hf
  ·obtain ⟨p,e1,h3⟩:=wE h1
   exact fun N=>⟨_,_,⟨cs.toList,z,[],by simp,rfl,⟨⟨0,p,⟨0,0,none⟩,none,.bool false,⟨.un,()⟩⟩,e1,rfl,.inl ⟨rfl,rfl⟩⟩,rfl⟩,.one h3⟩
  ·rename_i a b
   exact fun N=>by
    obtain ⟨I,N',s,g⟩:=xM (.p a b) _ z (zf (fun i t=>Jv n i t) _ _ _ hf) h1 [] N
    exact ⟨I,N',⟨cs.toList,z,[],by simp,rfl,by simpa [Value.cells] using s,rfl⟩,g⟩
  ·cases hf
 ·cases hf
def Pu (W:World) (ps:List Pt) (vs:List Value) (D:List Dyn):Prop:= ∀ N:List Nm,∃ I N',nU ps vs [] [] N D I [] N'∧iH W I
theorem PM {W:World}:Pu W [] [] []:=fun N=>⟨[],N,⟨rfl,rfl,rfl,rfl,rfl⟩,.nil⟩
theorem y9 {W:World} {t:Ty} {v:Value} {z:t.T} {ps:List Pt} {vs:List Value} {D:List Dyn} (h:Arg W t v z) (k:Pu W ps vs D):Pu W (VI t::ps) (v::vs) (⟨t,z⟩::D):=fun N=>by
 obtain ⟨I1,N1,s1,g1⟩:=h N
 obtain ⟨I2,N2,s2,g2⟩:=k N1
 exact ⟨I1++I2,N2,⟨v,vs,[⟨t,z⟩],D,I1,I2,[],[],N1,rfl,s1,s2,rfl,rfl,rfl⟩,g1.app g2⟩
theorem Qf {W:World} {I:Its} {Γ:Ctx} (g:iH W I) (hn:NoM Γ) (h:Sat Γ W):Sat (bJ I++Γ) W:=sb h _ (fun it hit=>by
 obtain ⟨x,hx,rfl⟩:=List.mem_map.1 hit
 exact ⟨(g x hx).2.1,(g x hx).2.2 _ (PW hn)⟩)
end Go.Proofs.YtgcgmclghbebjaaGreat
namespace Go.Proofs.YtgcgmclghbebjaaGreat
namespace So
theorem OA {x:Int} (h:(Lit.int .i64 x).wf=true):I64 x:=by
 simp only [Lit.wf,Bool.and_eq_true,decide_eq_true_eq] at h
 exact h
theorem VJ {Q:Nat→Prop} {s:List Fd} (h:Dom Q (.l (.p (.i .i64) (.i .i64))) s):FI s:=fun f hf=>⟨OA (h.2 f hf).1,OA (h.2 f hf).2⟩
end So
end Go.Proofs.YtgcgmclghbebjaaGreat
namespace Go.Proofs.YtgcgmclghbebjaaGreat
namespace So
theorem TD {Q:Nat→Prop} (s:List Fd) (o:Op) (l:List Act) (h1:Dom Q (.l (.p (.i .i64) (.i .i64))) s) (_:Dom Q (.p (.i .i64) (.p (.i .i64) (.p (.i .i64) (.p (.i .u64) (.p (.i .i64) (.i .i64)))))) o) (_:Dom Q (.l (.p (.i .u8) (.p (.l (.i .i64)) (.i .i64)))) l):eM s o l=some true:=
 LS s o l (VJ h1)
end So
end Go.Proofs.YtgcgmclghbebjaaGreat
