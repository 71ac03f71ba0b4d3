/-
  Own texts for the statement StoreSame, cut down to what it needs: DenR, SoA, SoB, SoC, SoD, SoE, SoF, SoG, SeBase, SeAut, SeFind, SeNode, SePut, SeLeave, SeIns. (cut and joined by a program)
-/
import Derived.Test.YtgcgmclghbebjaaGreatStoreSameA
import Derived.Test.YtgcgmclghbebjaaGreatStoreSameB
import Derived.Test.YtgcgmclghbebjaaGreatStoreSameC
import Derived.Test.YtgcgmclghbebjaaGreatStoreSameD
import Derived.Test.YtgcgmclghbebjaaGreatStoreSameE
import Derived.Test.YtgcgmclghbebjaaGreatStoreSameF
import Derived.Test.YtgcgmclghbebjaaGreatStoreSameG
namespace Go.Proofs.YtgcgmclghbebjaaGreat
open Go.Proofs
noncomputable section
set_option maxRecDepth 100000
def ph:Ent:=⟨4,[(.sli (.p (.i .i64) (.i .i64))),(.int .u8),(.sli (.p (.i .u8) (.p (.l (.i .i64)) (.i .i64))))],.bool,[],fun s=>ew s.1 s.2.1 s.2.2⟩
theorem nh:(ph).Ok X0.P X0.Γ:=
 ao (.c .o (.l ⟨[(false,8,(.own (.p (.i .i64) (.p (.l (.p (.i .i64) (.i .i64))) (.p (.i .i64) (.p (.p (.p (.i .i64) (.p (.l (.l (.i .u8))) (.l (.i .i64)))) (.l (.i .u8))) (.p (.p (.l (.p (.i .i64) (.p (.l (.l (.i .u8))) (.l (.i .i64))))) (.p (.p (.i .i64) (.p (.l (.l (.i .u8))) (.l (.i .i64)))) (.l (.i .u8)))) (.p (.p (.l (.p (.i .i64) (.p (.l (.l (.i .u8))) (.l (.i .i64))))) (.l (.i .u8))) (.p (.p (.p (.i .i64) (.p (.l (.p (.l (.p (.i .u8) (.i .i64))) (.i .i64))) (.p (.i .i64) (.p (.i .i64) (.l (.i .i64)))))) (.p (.p (.i .i64) (.p (.l (.p (.l (.p (.i .u8) (.i .i64))) (.i .i64))) (.p (.i .i64) (.p (.i .i64) (.l (.i .i64)))))) (.p (.i .i64) (.p (.l (.p (.l (.p (.i .u8) (.i .i64))) (.i .i64))) (.p (.i .i64) (.p (.i .i64) (.l (.i .i64)))))))) (.p (.i .i64) (.p (.i .i64) (.p (.i .u64) (.p (.l (.i .u8)) (.p (.l (.i .u8)) (.l (.i .u8)))))))))))))) 50 true)),(false,9,(.int .i64))],[]⟩ (.c .o (.l ⟨[(true,8,(.own (.p (.i .i64) (.p (.l (.p (.i .i64) (.i .i64))) (.p (.i .i64) (.p (.p (.p (.i .i64) (.p (.l (.l (.i .u8))) (.l (.i .i64)))) (.l (.i .u8))) (.p (.p (.l (.p (.i .i64) (.p (.l (.l (.i .u8))) (.l (.i .i64))))) (.p (.p (.i .i64) (.p (.l (.l (.i .u8))) (.l (.i .i64)))) (.l (.i .u8)))) (.p (.p (.l (.p (.i .i64) (.p (.l (.l (.i .u8))) (.l (.i .i64))))) (.l (.i .u8))) (.p (.p (.p (.i .i64) (.p (.l (.p (.l (.p (.i .u8) (.i .i64))) (.i .i64))) (.p (.i .i64) (.p (.i .i64) (.l (.i .i64)))))) (.p (.p (.i .i64) (.p (.l (.p (.l (.p (.i .u8) (.i .i64))) (.i .i64))) (.p (.i .i64) (.p (.i .i64) (.l (.i .i64)))))) (.p (.i .i64) (.p (.l (.p (.l (.p (.i .u8) (.i .i64))) (.i .i64))) (.p (.i .i64) (.p (.i .i64) (.l (.i .i64)))))))) (.p (.i .i64) (.p (.i .i64) (.p (.i .u64) (.p (.l (.i .u8)) (.p (.l (.i .u8)) (.l (.i .u8)))))))))))))) 50 true)),(false,12,(.int .i64))],[]⟩ (.c (.l ⟨[(false,14,(.int .i64))],[]⟩ (.c (.r [40000] (.r [40000] .o)) (.l ⟨[(true,8,(.own (.p (.i .i64) (.p (.l (.p (.i .i64) (.i .i64))) (.p (.i .i64) (.p (.p (.p (.i .i64) (.p (.l (.l (.i .u8))) (.l (.i .i64)))) (.l (.i .u8))) (.p (.p (.l (.p (.i .i64) (.p (.l (.l (.i .u8))) (.l (.i .i64))))) (.p (.p (.i .i64) (.p (.l (.l (.i .u8))) (.l (.i .i64)))) (.l (.i .u8)))) (.p (.p (.l (.p (.i .i64) (.p (.l (.l (.i .u8))) (.l (.i .i64))))) (.l (.i .u8))) (.p (.p (.p (.i .i64) (.p (.l (.p (.l (.p (.i .u8) (.i .i64))) (.i .i64))) (.p (.i .i64) (.p (.i .i64) (.l (.i .i64)))))) (.p (.p (.i .i64) (.p (.l (.p (.l (.p (.i .u8) (.i .i64))) (.i .i64))) (.p (.i .i64) (.p (.i .i64) (.l (.i .i64)))))) (.p (.i .i64) (.p (.l (.p (.l (.p (.i .u8) (.i .i64))) (.i .i64))) (.p (.i .i64) (.p (.i .i64) (.l (.i .i64)))))))) (.p (.i .i64) (.p (.i .i64) (.p (.i .u64) (.p (.l (.i .u8)) (.p (.l (.i .u8)) (.l (.i .u8)))))))))))))) 50 true)),(false,33,(.int .i64))],[]⟩ (.c (.r [40000] .o) .o)))) .o))))) Tryz.call4 Tryz.func4 (ok1 pL (ok1 p8 (ok1 rN (ok1 sg (ok1 oS (ok1 sk (ok1 rX (ok1 oP (ok1 q9 ok0))))))))) ok0 ok0 fun _=>by kernel_rfl
end
end Go.Proofs.YtgcgmclghbebjaaGreat
namespace Go.Proofs.YtgcgmclghbebjaaGreat
namespace So
theorem ab {α ρ:Type} (x:α) (k:α→Option ρ):(some x).bind k=k x:=id rfl
theorem bF {α ρ:Type} (x:α) (k:α→Option ρ):al x k=k x:=id rfl
theorem aW {ρ:Type} {c:Bool} (h:c=true) (k:Option ρ):chk c k=k:=by rw [h];rfl
theorem cg {α ρ:Type} (d:α) (m:Option α) (k:α→Option ρ):bY true d m k=m.bind k:=id rfl
theorem dk {α ρ:Type} (d:α) (m:Option α) (k:α→Option ρ):bY false d m k=k d:=id rfl
theorem pz {α:Type} (xs:List α) (k:Nat):idx xs (k:Int)=xs[k]? :=by simp [idx]
theorem bZ {α:Type} {xs:List α} {k:Nat} (h:k<xs.length):idx xs (k:Int)=some xs[k]:=by rw [pz,List.getElem?_eq_getElem h]
theorem cP {α:Type} {xs:List α} {k:Nat} {x:α} (h:xs[k]? =some x):idx xs (k:Int)=some x:=by rw [pz,h]
theorem o6 {α:Type} {xs:List α} {x:α} (h:xs[0]? =some x):idx xs 0=some x:=cP (k:=0) h
theorem gi {k n:Nat} (h:k<n):decide ((k:Int)<(n:Int))=true:=decide_eq_true (by omega)
theorem iS {k n:Nat} (h: ¬ k<n):decide ((k:Int)<(n:Int))=false:=decide_eq_false (by omega)
theorem nx {n:Nat} (h:n<9223372036854775807):IntKind.i64.wrap ((n:Int)+1)=((n+1:Nat):Int):=by rw [w64 (by omega)];omega
theorem cr {k b:Nat} (h:k*b≤140737488355328) (h2:k≤9223372036854775807):aB k b=true:=by
 simp only [aB,Bool.and_eq_true];exact ⟨Nat.ble_eq_true_of_le h,Nat.ble_eq_true_of_le h2⟩
/-! loops that count -/
theorem Rh {σ ρ:Type} {F:(σ→Option ρ)→σ→Option ρ} (f:Nat→σ) {r:Option ρ} (n:Nat) (hs: ∀ i,i<n→ ∀ k,F k (f i)=k (f (i+1))) (he: ∀ k,F k (f n)=r):
  ∀ (d i M:Nat),i+d=n→d<M→aq F M (f i)=r
 | 0,i,M,h,hM=>by
  obtain ⟨m,rfl⟩: ∃ m,M=m+1:=⟨M-1,by omega⟩
  rw [aK,show i=n by omega];exact he _
 | d+1,i,M,h,hM=>by
  obtain ⟨m,rfl⟩: ∃ m,M=m+1:=⟨M-1,by omega⟩
  rw [aK,hs i (by omega)]
  exact Rh f n hs he d (i+1) m (by omega) (by omega)
theorem ld {σ ρ:Type} {F:(σ→Option ρ)→σ→Option ρ} (f:Nat→σ) {r:Option ρ} (n:Nat) {s:σ} (h0:s=f 0) (hn:n<9223372036854775807) (hs: ∀ i,i<n→ ∀ k,F k (f i)=k (f (i+1))) (he: ∀ k,F k (f n)=r):
  aq F az s=r:=by
 rw [h0];exact Rh f n hs he n 0 az (by omega) (by show n<2^64;omega)
theorem zc (p:Nat→Bool): ∀ n,(∃ i,i<n∧p i=true∧ ∀ j,j<i→p j=false)∨ ∀ j,j<n→p j=false
 | 0=> .inr fun j h=>by omega
 | n+1=>by
  rcases zc p n with ⟨i,h1,h2,h3⟩ | h
  ·exact .inl ⟨i,by omega,h2,h3⟩
  ·cases hp:p n
   ·refine .inr fun j hj=> ?_
    by_cases e:j=n
    ·rw [e];exact hp
    ·exact h j (by omega)
   ·exact .inl ⟨n,by omega,hp,h⟩
theorem findF {σ ρ:Type} {F:(σ→Option ρ)→σ→Option ρ} (f:Nat→σ) (p:Nat→Bool) {r:Nat→Option ρ} (n:Nat) {s:σ} (h0:s=f 0) (hn:n<9223372036854775807)
  (hs: ∀ i,i<n→p i=false→ ∀ k,F k (f i)=k (f (i+1))) (hx: ∀ i,i<n→p i=true→ ∀ k,F k (f i)=r i) (he: ∀ k,F k (f n)=r n):
  (∃ i,i<n∧p i=true∧(∀ j,j<i→p j=false)∧aq F az s=r i)∨((∀ j,j<n→p j=false)∧aq F az s=r n):=by
 rcases zc p n with ⟨i,h1,h2,h3⟩ | h
 ·exact .inl ⟨i,h1,h2,h3,ld f i h0 (by omega) (fun j hj=>hs j (by omega) (h3 j hj)) (hx i h1 h2)⟩
 ·exact .inr ⟨h,ld f n h0 hn (fun j hj=>hs j hj (h j hj)) he⟩
/-! ranges -/
abbrev Fd:=Int×Int
noncomputable def kN (f:Fd):Bool:=decide (-1073741824≤f.1)&&decide (f.2≤1073741824)&&decide (f.1≤f.2)&&decide (f.2-f.1≤65535)
noncomputable def pQ (s:List Fd):Bool:=decide (1≤s.length)&&decide (s.length≤17)&&s.all kN
structure fy (s:List Fd):Prop where
 pos:1≤s.length
 few:s.length≤17
 each: ∀ f∈s,-1073741824≤f.1∧f.2≤1073741824∧f.1≤f.2∧f.2-f.1≤65535
theorem Ce {s:List Fd}:pQ s=true↔fy s:=by
 simp only [pQ,kN,Bool.and_eq_true,decide_eq_true_eq,List.all_eq_true]
 constructor
 ·rintro ⟨⟨h1,h2⟩,h3⟩;exact ⟨h1,h2,fun f hf=>by have:=h3 f hf;omega⟩
 ·rintro ⟨h1,h2,h3⟩;exact ⟨⟨h1,h2⟩,fun f hf=>by have:=h3 f hf;omega⟩
abbrev I64 (n:Int):Prop:= -9223372036854775808≤n∧n≤9223372036854775807
abbrev FI (s:List Fd):Prop:= ∀ f∈s,I64 f.1∧I64 f.2
theorem Kr {f:Fd} (h1:I64 f.1) (h2:I64 f.2):jz f=some (kN f):=by
 unfold jz kN
 simp only [bF,Option.some.injEq]
 rw [Bool.eq_iff_iff]
 simp only [Bool.and_eq_true,Bool.not_eq_true',Bool.or_eq_false_iff,decide_eq_true_eq,decide_eq_false_iff_not]
 by_cases h:f.1< -1073741824∨1073741824<f.2
 ·omega
 ·by_cases h':f.1≤f.2
  ·rw [w64 (by omega)];omega
  ·omega
theorem ED {α:Type} {d:α} {s:List Fd} {g:Fd→α} (F:(List α×Int→Option (List α))→List α×Int→Option (List α)) (hs: ∀ i (hi:i<s.length) (k:List α×Int→Option (List α)) (l:List α),i<l.length→F k (l,(i:Int))=k (l.set i (g s[i]),((i+1:Nat):Int)))
  (he: ∀ (k:List α×Int→Option (List α)) (l:List α),F k (l,(s.length:Int))=some l) (hn:s.length<4611686018427387904):aq F az (List.replicate (Int.toNat (List.length s:Int)) d,0)=some (s.map g):=by
 refine ld (fun i=>((s.take i).map g++List.replicate (s.length-i) d,(i:Int))) s.length (by simp) (by omega) (fun i hi k=> ?_) (fun k=> ?_)
 ·rw [hs i hi k _ (by simp only [List.length_append,List.length_map,List.length_take,List.length_replicate];omega)]
  refine congrArg k (Prod.ext ?_ rfl)
  show List.set _ i _=_
  rw [List.set_append,if_neg (by rw [List.length_map,List.length_take];omega)]
  rw [show s.length-i=(s.length-(i+1))+1 by omega,List.replicate_succ]
  rw [show i-((s.take i).map g).length=0 by rw [List.length_map,List.length_take];omega,List.set_cons_zero,List.take_add_one,List.map_append,List.getElem?_eq_getElem hi]
  simp
 ·rw [he];simp
theorem Eg {s:List Fd} (hs:FI s) (hn:s.length<100000000):iZ s=some (s.map kN):=by
 unfold iZ
 rw [aW (decide_eq_true (by omega)),aW (cr (by simp;omega) (by simp;omega))]
 refine ED (d:=false) _ (fun i hi k l hl=> ?_) (fun k l=> ?_) (by omega)
 ·have:=hs s[i] (List.getElem_mem hi)
  simp only [jv,gi hi,cond_true,bZ hi,ab,Kr this.1 this.2,bZ hl,nx (show i<9223372036854775807 by omega),Int.toNat_natCast]
 ·simp only [jv,iS (Nat.lt_irrefl _),cond_false]
theorem contains_eq {l:List Bool} (hn:l.length<100000000) (b:Bool):dK l b=some (l.contains b):=by
 unfold dK ic
 refine (findF (F:=cN l b) (fun i=>(i:Int)) (fun i=>l[i]? ==some b) (r:=fun i=>if i<l.length then some (i:Int) else some (-1)) l.length (s:=0) rfl (by omega) (fun i hi hp k=> ?_) (fun i hi hp k=> ?_) (fun k=> ?_)).elim (fun ⟨i,h1,h2,h3,h4⟩=> ?_) (fun ⟨h1,h4⟩=> ?_)
 ·simp only [cN,gi hi,cond_true,bZ hi,ab,nx (show i<9223372036854775807 by omega)]
  rw [List.getElem?_eq_getElem hi] at hp
  have:(b==l[i])=false:=by simp at hp ⊢; exact fun e=>hp e.symm
  rw [this,cond_false]
 ·simp only [cN,gi hi,cond_true,bZ hi,ab,if_pos hi]
  rw [List.getElem?_eq_getElem hi] at hp
  have:(b==l[i])=true:=by simp at hp ⊢; exact hp.symm
  rw [this,cond_true]
 ·simp only [cN,iS (Nat.lt_irrefl _),cond_false,if_neg (Nat.lt_irrefl _)]
 ·rw [h4,if_pos h1,ab,decide_eq_true (by omega)]
  rw [List.getElem?_eq_getElem h1] at h2
  have:l[i]=b:=by simpa using h2
  rw [← this,List.contains_iff_mem.2 (List.getElem_mem h1)]
 ·rw [h4,if_neg (by omega),ab,decide_eq_false (by omega)]
  have: ¬ b∈l:=fun hm=>by
   obtain ⟨i,hi,e⟩:=List.getElem_of_mem hm
   have:=h1 i hi
   rw [List.getElem?_eq_getElem hi,e] at this;simp at this
  rw [show l.contains b=false by rw [← Bool.not_eq_true];exact fun h=>this (List.contains_iff_mem.1 h)]
theorem Nw {s:List Fd} (hs:FI s):mw s=some (pQ s):=by
 unfold mw pQ
 simp only [bF]
 by_cases h:1≤s.length∧s.length≤17
 ·rw [decide_eq_true (show (1:Int)≤s.length by omega),decide_eq_true (show (s.length:Int)≤17 by omega),decide_eq_true h.1,decide_eq_true h.2,Bool.and_self,cg,Eg hs (by omega),ab,cg,contains_eq (by simp;omega),ab]
  simp only [Bool.true_and,Option.some.injEq]
  rw [Bool.eq_iff_iff]
  simp
 ·have e:(decide ((1:Int)≤(s.length:Int))&&decide ((s.length:Int)≤17))=false:=by
   rw [← Bool.not_eq_true,Bool.and_eq_true,decide_eq_true_eq,decide_eq_true_eq];omega
  have e':(decide (1≤s.length)&&decide (s.length≤17))=false:=by
   rw [← Bool.not_eq_true,Bool.and_eq_true,decide_eq_true_eq,decide_eq_true_eq];omega
  rw [e,e',dk,dk,Bool.false_and,Bool.false_and]
noncomputable def inB (s:List Fd) (v:List Int):Bool:=(List.zip s v).all fun p=>decide (p.1.1≤p.2)&&decide (p.2≤p.1.2)
noncomputable def inC (s:List Fd) (v:List Int):Int:=if v.length=s.length then (if inB s v=true then 0 else 5) else 1
structure In (s:List Fd) (v:List Int):Prop where
 len:v.length=s.length
 each: ∀ i (h:i<s.length),s[i].1≤v[i]∧v[i]≤s[i].2
theorem iF {s:List Fd} {v:List Int} (hl:v.length=s.length):inB s v=true↔In s v:=by
 simp only [inB,List.all_eq_true,Bool.and_eq_true,decide_eq_true_eq]
 constructor
 ·intro h
  refine ⟨hl,fun i hi=> ?_⟩
  exact h (s[i],v[i]) (List.mem_iff_getElem.2 ⟨i,by simp;omega,by simp⟩)
 ·rintro ⟨_,h⟩ ⟨f,n⟩ hm
  obtain ⟨i,hi,e⟩:=List.mem_iff_getElem.1 hm
  simp at hi e
  have:=h i (by omega)
  rw [e.1,e.2] at this;exact this
theorem j2 {s:List Fd} {v:List Int}:inC s v=0↔In s v:=by
 unfold inC
 by_cases hl:v.length=s.length
 ·rw [if_pos hl]
  by_cases h:inB s v=true
  ·rw [if_pos h];exact ⟨fun _=>(iF hl).1 h,fun _=>rfl⟩
  ·rw [if_neg h];exact ⟨fun h=>by omega,fun h'=>absurd ((iF hl).2 h') h⟩
 ·rw [if_neg hl];exact ⟨fun h=>by omega,fun h=>absurd h.len hl⟩
theorem MU {s:List Fd} {v:List Int} (hl:v.length=s.length) (i:Nat) (hi:i<s.length) (h: ¬ (s[i].1≤v[i]∧v[i]≤s[i].2)):inC s v=5:=by
 unfold inC
 rw [if_pos hl,if_neg (fun h'=>h (((iF hl).1 h').each i hi))]
theorem kQ (s:List Fd) (v:List Int) (hn:v.length<100000000):bQ s v=some (inC s v):=by
 unfold bQ
 by_cases hl:v.length=s.length
 ·rw [show ((v.length:Int) != (s.length:Int))=false by simp;omega,cond_false]
  have hsv: ∀ i,i<v.length→i<s.length:=fun i h=>by omega
  refine (findF (F:=jK s v) (fun i=>(i:Int)) (fun i=>if h:i<v.length then !(decide ((s[i]'(hsv i h)).1≤v[i])&&decide (v[i]≤(s[i]'(hsv i h)).2)) else false) (r:=fun i=>if i<v.length then some 5 else some 0) v.length (s:=0) rfl (by omega) (fun i hi hp k=> ?_) (fun i hi hp k=> ?_) (fun k=> ?_)).elim (fun ⟨i,h1,h2,h3,h4⟩=> ?_) (fun ⟨h1,h4⟩=> ?_)
  ·simp only [dif_pos hi,Bool.not_eq_false'] at hp
   simp only [jK,jw,bF,gi hi,cond_true,bZ hi,bZ (hsv i hi),ab,hp,Bool.not_true,cond_false,nx (show i<9223372036854775807 by omega)]
  ·simp only [dif_pos hi,Bool.not_eq_true'] at hp
   simp only [jK,jw,bF,gi hi,cond_true,bZ hi,bZ (hsv i hi),ab,hp,Bool.not_false,if_pos hi]
  ·simp only [jK,iS (Nat.lt_irrefl _),cond_false,if_neg (Nat.lt_irrefl _)]
  ·rw [h4,if_pos h1,MU hl i (by omega)]
   rw [dif_pos h1] at h2
   simp at h2;omega
  ·rw [h4,if_neg (by omega),j2.2 ⟨hl,fun i hi=> ?_⟩]
   have:=h1 i (by omega)
   rw [dif_pos (by omega)] at this
   simpa using this
 ·rw [show ((v.length:Int) != (s.length:Int))=true by simp;omega,cond_true]
  unfold inC;rw [if_neg hl]
/-! how many bits a number has -/
noncomputable def bl (n:Nat):Nat:=if n=0 then 0 else bl (n/2)+1
theorem Sg (n:Nat):n<2^bl n:=by
 induction n using Nat.strongRecOn with
 | _ n ih=>
  unfold bl
  by_cases h:n=0
  ·rw [if_pos h,h];decide
  ·rw [if_neg h,Nat.pow_succ]
   have:=ih (n/2) (by omega)
   omega
theorem JQ {n w:Nat} (h:n<2^w):bl n≤w:=by
 induction w generalizing n with
 | zero=>rw [Nat.pow_zero] at h;rw [show n=0 by omega];unfold bl;simp
 | succ w ih=>
  unfold bl
  by_cases h0:n=0
  ·rw [if_pos h0];omega
  ·rw [if_neg h0]
   have:=ih (n:=n/2) (by rw [Nat.pow_succ] at h;omega)
   omega
theorem B4: ∀ (M n k:Nat),bl n<M→k+bl n<1000→aq pO M ((n:Int),(k:Int))=some ((k+bl n:Nat):Int)
 | 0,_,_,h,_=>by omega
 | M+1,n,k,h,hk=>by
  rw [aK]
  unfold bl at h hk ⊢
  by_cases h0:n=0
  ·subst h0;rfl
  ·rw [if_neg h0] at h hk ⊢
   have:=B4 M (n/2) (k+1) (by omega) (by omega)
   simp only [pO,decide_eq_true (show (0:Int)<(n:Int) by omega),cond_true,nx (show k<9223372036854775807 by omega)]
   rw [show ar .u64 (n:Int) 1=((n/2:Nat):Int) by
    show (n:Int)/2^1=_;omega,this]
   congr 2;omega
theorem HZ {n:Nat} (h:n<18446744073709551616):oy (n:Int)=some (bl n:Int):=by
 unfold oy
 have hb:=JQ (n:=n) (w:=64) (by omega)
 have:=B4 az n 0 (by show bl n<2^64;omega) (by omega)
 rw [Nat.zero_add] at this;exact this
noncomputable def wd (f:Fd):Nat:=bl (f.2-f.1).toNat
theorem O0 {f:Fd} (h:f.2-f.1≤65535):wd f≤16:=JQ (by omega)
abbrev Sub (c s:List Fd):Prop:= ∀ f∈c,f∈s
structure Fds (s:List Fd):Prop where
 few:s.length≤17
 each: ∀ f∈s,-1073741824≤f.1∧f.2≤1073741824∧f.1≤f.2∧f.2-f.1≤65535
theorem fy.fds {s:List Fd} (h:fy s):Fds s:=⟨h.few,h.each⟩
theorem OE {s:List Fd} (hs:Fds s) {f:Fd} (hf:f∈s):iV f=some (wd f:Int):=by
 have h:=hs.each f hf
 unfold iV
 rw [w64 (by omega),J4 (by omega)]
 obtain ⟨n,hn⟩:=Int.eq_ofNat_of_zero_le (show 0≤f.2-f.1 by omega)
 rw [hn,HZ (by omega),ab]
 unfold wd;rw [hn];rfl
theorem ye {s:List Fd} (hs:Fds s):gR s=some (s.map fun f=>(wd f:Int)):=by
 have hn:=hs.few
 unfold gR
 rw [aW (decide_eq_true (by omega)),aW (cr (by simp;omega) (by simp;omega))]
 refine ED (d:=0) _ (fun i hi k l hl=> ?_) (fun k l=> ?_) (by omega)
 ·simp only [jP,gi hi,cond_true,bZ hi,ab,OE hs (List.getElem_mem hi),bZ hl,nx (show i<9223372036854775807 by omega),Int.toNat_natCast]
 ·simp only [jP,iS (Nat.lt_irrefl _),cond_false]
noncomputable def gP (s:List Fd):Nat:=(s.map wd).sum
theorem m6 {s:List Fd} (hs:Fds s):gP s≤16*s.length:=by
 have h:=hs.each
 clear hs
 induction s with
 | nil=>simp [gP]
 | cons f s ih=>
  have h1:=O0 (f:=f) (by have:=h f (by simp);omega)
  have h2:=ih (fun g hg=>h g (by simp [hg]))
  simp only [gP,List.map_cons,List.sum_cons,List.length_cons] at *; omega
theorem zT {s:List Fd} {i:Nat} (hi:i<s.length):gP (s.take (i+1))=gP (s.take i)+wd s[i]:=by
 unfold gP
 rw [List.take_add_one,List.getElem?_eq_getElem hi,List.map_append,List.sum_append]
 simp
theorem Fds.take {s:List Fd} (hs:Fds s) (i:Nat):Fds (s.take i):=⟨by simp;have:=hs.few;omega,fun f hf=>hs.each f (List.mem_of_mem_take hf)⟩
theorem Fds.drop {s:List Fd} (hs:Fds s) (i:Nat):Fds (s.drop i):=⟨by simp;have:=hs.few;omega,fun f hf=>hs.each f (List.mem_of_mem_drop hf)⟩
theorem Qj {s:List Fd} (hs:Fds s):nR s=some (gP s:Int):=by
 unfold nR
 rw [ye hs,ab]
 have hn:=hs.few
 refine ld (fun i=>((gP (s.take i):Int),(i:Int))) s.length (by simp [gP]) (by omega) (fun i hi k=> ?_) (fun k=> ?_)
 ·have h1:=m6 (hs.take (i+1))
  have h2:=zT hi
  simp at h1
  simp only [m9,List.length_map,gi hi,cond_true,pz,List.getElem?_map,List.getElem?_eq_getElem hi,Option.map_some,ab,nx (show i<9223372036854775807 by omega)]
  rw [w64 (by omega),h2];rfl
 ·simp only [m9,List.length_map,iS (Nat.lt_irrefl _),cond_false,List.take_length]
noncomputable def di (s:List Fd):Nat:=max 1 ((gP s+7)/8)
theorem Du {s:List Fd} (hs:Fds s):iA s=some (di s:Int):=by
 unfold iA
 have h:=m6 hs
 have:=hs.few
 rw [Qj hs,ab,w64 (show _∧(gP s:Int)+7≤_ by omega)]
 rw [show Int.tdiv ((gP s:Int)+7) 8=(((gP s+7)/8:Nat):Int) from rfl,w64 (by omega)]
 unfold di
 congr 1;omega
end So
end Go.Proofs.YtgcgmclghbebjaaGreat
namespace Go.Proofs.YtgcgmclghbebjaaGreat
namespace So
/-! eight bits are a byte -/
noncomputable def b8 (a b c d e f g h:Bool):Int:=128*a.toNat+64*b.toNat+32*c.toNat+16*d.toNat+8*e.toNat+4*f.toNat+2*g.toNat+h.toNat
noncomputable def bt (m:List Bool) (j:Nat):Bool:=m[j]? ==some true
noncomputable def byt (m:List Bool):Int:=b8 (bt m 0) (bt m 1) (bt m 2) (bt m 3) (bt m 4) (bt m 5) (bt m 6) (bt m 7)
theorem K6 (m:List Bool):0≤byt m∧byt m≤255:=by
 unfold byt b8
 have (b:Bool):b.toNat≤1:=by cases b <;> decide
 have h0:=this (bt m 0);have h1:=this (bt m 1);have h2:=this (bt m 2);have h3:=this (bt m 3)
 have h4:=this (bt m 4);have h5:=this (bt m 5);have h6:=this (bt m 6);have h7:=this (bt m 7)
 omega
theorem Cj {m m':List Bool} (h: ∀ j,j<8→bt m j=bt m' j):byt m=byt m':=by
 unfold byt
 rw [h 0 (by omega),h 1 (by omega),h 2 (by omega),h 3 (by omega),h 4 (by omega),h 5 (by omega),h 6 (by omega),h 7 (by omega)]
theorem Rb (a b c d e f g h:Bool):
  decide (b8 a b c d e f g h/128%2=1)=a∧decide (b8 a b c d e f g h/64%2=1)=b∧decide (b8 a b c d e f g h/32%2=1)=c∧decide (b8 a b c d e f g h/16%2=1)=d∧
  decide (b8 a b c d e f g h/8%2=1)=e∧decide (b8 a b c d e f g h/4%2=1)=f∧decide (b8 a b c d e f g h/2%2=1)=g∧decide (b8 a b c d e f g h/1%2=1)=h:=by
 cases a <;> cases b <;> cases c <;> cases d <;> cases e <;> cases f <;> cases g <;> cases h <;> decide
theorem Hx (m:List Bool) (j:Nat) (hj:j<8):decide (byt m/2^(7-j)%2=1)=bt m j:=by
 obtain ⟨h0,h1,h2,h3,h4,h5,h6,h7⟩:=Rb (bt m 0) (bt m 1) (bt m 2) (bt m 3) (bt m 4) (bt m 5) (bt m 6) (bt m 7)
 match j with
 | 0=>exact h0
 | 1=>exact h1
 | 2=>exact h2
 | 3=>exact h3
 | 4=>exact h4
 | 5=>exact h5
 | 6=>exact h6
 | 7=>exact h7
 | _+8=>omega
theorem JD: ∀ m:List Bool,m.length<8→byt (m++[false])=byt m
 | m,h=>Cj fun j _=>by
  unfold bt
  rw [List.getElem?_append]
  split
  ·rfl
  ·rename_i hj
   rw [List.getElem?_eq_none (show m.length≤j by omega)]
   by_cases e:j-m.length=0
   ·rw [e];rfl
   ·rw [List.getElem?_eq_none (by simp;omega)]
theorem Jw: ∀ m:List Bool,m.length<8→orI .u8 (byt m) (ar .u8 128 (m.length:Int))=byt (m++[true])
 | [],_=>by decide
 | [a],_=>by cases a <;> decide
 | [a,b],_=>by cases a <;> cases b <;> decide
 | [a,b,c],_=>by cases a <;> cases b <;> cases c <;> decide
 | [a,b,c,d],_=>by cases a <;> cases b <;> cases c <;> cases d <;> decide
 | [a,b,c,d,e],_=>by cases a <;> cases b <;> cases c <;> cases d <;> cases e <;> decide
 | [a,b,c,d,e,f],_=>by cases a <;> cases b <;> cases c <;> cases d <;> cases e <;> cases f <;> decide
 | [a,b,c,d,e,f,g],_=>by cases a <;> cases b <;> cases c <;> cases d <;> cases e <;> cases f <;> cases g <;> decide
 | _::_::_::_::_::_::_::_::_,h=>by simp at h;omega
noncomputable def pk (l:List Bool):List Int:=(List.range ((l.length+7)/8)).map fun i=>byt (l.drop (8*i))
theorem gE (l:List Bool):(pk l).length=(l.length+7)/8:=by simp [pk]
theorem sA (l:List Bool) (i:Nat):(pk l)[i]? =if i<(l.length+7)/8 then some (byt (l.drop (8*i))) else none:=by
 unfold pk
 by_cases h:i<(l.length+7)/8
 ·rw [if_pos h,List.getElem?_map,List.getElem?_range h];rfl
 ·rw [if_neg h,List.getElem?_eq_none (by simp;omega)]
theorem xq (l:List Bool) (k j:Nat):bt (l.drop k) j=bt l (k+j):=by unfold bt;rw [List.getElem?_drop]
theorem P8 (l:List Bool) (b:Bool) (j:Nat) (h:j≠l.length):bt (l++[b]) j=bt l j:=by
 unfold bt
 rw [List.getElem?_append]
 split
 ·rfl
 ·rw [List.getElem?_eq_none (by simp;omega),List.getElem?_eq_none (by omega)]
theorem Rm {l m:List Bool} (hl:l.length=m.length) (h:pk l=pk m):l=m:=by
 refine List.ext_getElem? fun k=> ?_
 by_cases hk:k<l.length
 ·have h1:=congrArg (fun x=>x[k/8]?) h
  simp only [sA] at h1
  rw [if_pos (by omega),if_pos (by omega)] at h1
  have h2:=Option.some.inj h1
  have h3:=Hx (l.drop (8*(k/8))) (k%8) (by omega)
  rw [h2,Hx _ _ (by omega),xq,xq,Nat.div_add_mod] at h3
  unfold bt at h3
  rw [List.getElem?_eq_getElem hk,List.getElem?_eq_getElem (by omega)] at h3 ⊢
  cases hx:l[k] <;> cases hy:m[k] <;> simp_all
 ·rw [List.getElem?_eq_none (by omega),List.getElem?_eq_none (by omega)]
abbrev By (l:List Int):Prop:= ∀ x∈l,0≤x∧x≤255
theorem R7 (l:List Bool):By (pk l):=by
 intro x hx
 simp only [pk,List.mem_map] at hx
 obtain ⟨i,_,rfl⟩:=hx
 exact K6 _
theorem Fy (l:List Bool) (b:Bool) (i:Nat) (h:8*i+8≤l.length):byt ((l++[b]).drop (8*i))=byt (l.drop (8*i)):=
 Cj fun j hj=>by rw [xq,xq,P8 _ _ _ (by omega)]
theorem MG (l:List Bool) (b:Bool) (h:l.length%8=0):pk (l++[b])=pk l++[byt [b]]:=by
 refine List.ext_getElem? fun i=> ?_
 rw [sA,List.getElem?_append,gE,sA,List.length_append,List.length_singleton]
 by_cases h1:i<(l.length+7)/8
 ·rw [if_pos (by omega),if_pos h1,if_pos h1,Fy _ _ _ (by omega)]
 ·rw [if_neg h1]
  by_cases h2:i=l.length/8
  ·rw [if_pos (by omega),show i-(l.length+7)/8=0 by omega]
   rw [List.drop_append,List.drop_eq_nil_of_le (by omega),show 8*i-l.length=0 by omega];rfl
  ·rw [if_neg (by omega),List.getElem?_eq_none (by simp;omega)]
theorem Oa (l:List Bool) (b:Bool) (h:l.length%8≠0):pk (l++[b])=(pk l).set (l.length/8) (byt (l.drop (8*(l.length/8))++[b])):=by
 refine List.ext_getElem? fun i=> ?_
 rw [sA,List.getElem?_set,gE,sA,List.length_append,List.length_singleton]
 by_cases h1:l.length/8=i
 ·rw [if_pos (by omega),if_pos h1,if_pos (by omega),← h1,List.drop_append_of_le_length (by omega)]
 ·rw [if_neg h1]
  by_cases h2:i<(l.length+7)/8
  ·rw [if_pos (by omega),if_pos h2,Fy _ _ _ (by omega)]
  ·rw [if_neg (by omega),if_neg h2]
theorem add_eq (l:List Bool) (b:Bool) (hl:l.length<1000000):mP b (pk l) (l.length:Int)=some (pk (l++[b]),((l.length+1:Nat):Int)):=by
 have hd:IntKind.i64.wrap (Int.tdiv (l.length:Int) 8)=((l.length/8:Nat):Int):=by
  rw [show Int.tdiv (l.length:Int) 8=((l.length/8:Nat):Int) from rfl,w64 (by omega)]
 have hm:Int.tmod (l.length:Int) 8=((l.length%8:Nat):Int):=rfl
 have hk: ∀ c:List Int,c.length=l.length/8+1→c[l.length/8]? =some (byt (l.drop (8*(l.length/8))))→mJ b (l.length:Int) c=some (c.set (l.length/8) (byt (l.drop (8*(l.length/8))++[b])),((l.length+1:Nat):Int)):=by
  intro c hc h0
  have hdl:(l.drop (8*(l.length/8))).length=l.length%8:=by simp;omega
  unfold mJ qQ
  simp only [bF]
  rw [nx (show l.length<9223372036854775807 by omega)]
  cases b
  ·rw [cond_false,JD _ (by omega)]
   have hi:l.length/8<c.length:=by omega
   rw [List.getElem?_eq_getElem hi] at h0
   rw [← Option.some.inj h0,List.set_getElem_self]
  ·rw [cond_true,hd,hm,cP h0,ab,aW (decide_eq_true (by omega)),ab,Int.toNat_natCast,← Jw _ (by omega),hdl]
 unfold mP
 simp only [bF]
 rw [hm]
 by_cases h:l.length%8=0
 ·rw [h,show (((0:Nat):Int)==0)=true from rfl,cond_true,aW (cr (by simp [gE];omega) (by simp [gE];omega)),hk]
  ·rw [MG l b h]
   have:l.length/8=(pk l).length:=by rw [gE];omega
   rw [List.drop_eq_nil_of_le (by omega),this,List.set_append_right _ _ (Nat.le_refl _),Nat.sub_self];rfl
  ·simp [gE];omega
  ·rw [List.getElem?_append_right (by rw [gE];omega),gE,show l.length/8-(l.length+7)/8=0 by omega,List.drop_eq_nil_of_le (by omega)];rfl
 ·rw [show (((l.length%8:Nat):Int)==0)=false by simp;omega,cond_false,hk]
  ·rw [Oa l b h]
  ·rw [gE];omega
  ·rw [sA,if_pos (by omega)]
noncomputable def be (n:Nat):Nat→List Bool
 | 0=>[]
 | w+1=>decide (n/2^w%2=1)::be n w
theorem ot (n:Nat): ∀ w,(be n w).length=w
 | 0=>rfl
 | w+1=>by simp [be,ot n w]
theorem zS (n:Nat): ∀ w t,t<w→(be n w)[t]? =some (decide (n/2^(w-1-t)%2=1))
 | 0,t,h=>by omega
 | w+1,0,_=>by simp [be]
 | w+1,t+1,h=>by
  rw [be,List.getElem?_cons_succ,zS n w t (by omega)]
  rw [show w+1-1-(t+1)=w-1-t by omega]
theorem LF {n m:Nat}: ∀ w,n<2^w→m<2^w→be n w=be m w→n=m
 | 0,h1,h2,_=>by simp at h1 h2;omega
 | w+1,h1,h2,h=>by
  simp only [be,List.cons.injEq] at h
  have hmod: ∀ n w,be (n%2^w) w=be n w:=by
   intro n w
   refine List.ext_getElem? fun t=> ?_
   by_cases ht:t<w
   ·rw [zS _ _ _ ht,zS _ _ _ ht]
    have:n%2^w/2^(w-1-t)%2=n/2^(w-1-t)%2:=by
     rw [show 2^w=2^(w-1-t)*2^(t+1) by rw [← Nat.pow_add];congr 1;omega,Nat.mod_mul_right_div_self]
     rw [Nat.pow_succ,Nat.mul_comm,Nat.mod_mul_right_mod]
    rw [this]
   ·rw [List.getElem?_eq_none (by rw [ot];omega),List.getElem?_eq_none (by rw [ot];omega)]
  have h3:=LF (n:=n%2^w) (m:=m%2^w) w (Nat.mod_lt _ (Nat.two_pow_pos w)) (Nat.mod_lt _ (Nat.two_pow_pos w)) (by rw [hmod,hmod];exact h.2)
  have h4:n/2^w<2:=Nat.div_lt_of_lt_mul (by rw [Nat.pow_succ] at h1;exact h1)
  have h5:m/2^w<2:=Nat.div_lt_of_lt_mul (by rw [Nat.pow_succ] at h2;exact h2)
  have h6:n/2^w=m/2^w:=by
   have:=h.1
   rw [decide_eq_decide] at this
   generalize n/2^w=x at*
   generalize m/2^w=y at*
   by_cases hx:x%2=1
   ·have:=this.1 hx;omega
   ·have:=fun h=>hx (this.2 h);omega
  rw [← Nat.div_add_mod n (2^w),← Nat.div_add_mod m (2^w),h6,h3]
theorem SG {x:Nat} (h:x<18446744073709551616):iD .u64 (x:Int) 1=((x%2:Nat):Int):=by
 unfold iD
 rw [BitVec.toNat_and,BitVec.toNat_ofInt,BitVec.toNat_ofInt]
 rw [show ((x:Int)%((2^IntKind.u64.bits:Nat):Int)).toNat=x by
  show ((x:Int)%((18446744073709551616:Nat):Int)).toNat=x
  omega]
 rw [show ((1:Int)%((2^IntKind.u64.bits:Nat):Int)).toNat=1 from rfl,Nat.and_one_is_mod,J4 (by omega)]
theorem Sd {k:IntKind} (hk:k.bits=64) (n i:Nat) (hi:i<64):ar k (n:Int) (i:Int)=((n/2^i:Nat):Int):=by
 unfold ar
 rw [hk,Int.toNat_natCast,Nat.min_eq_left (by omega)]
 simp
theorem uW (l:List Int) (h:l.length<100000000):kM l=some l:=by
 unfold kM
 rw [aW (cr (by omega) (by omega))]
theorem R3 (l:List Bool) (n w:Nat) (hl:l.length<100000) (hw:w≤64) (hn:n<2^w):tL (pk l,(l.length:Int)) (n:Int) (w:Int)=some ((pk (l++be n w),((l.length+w:Nat):Int)),0):=by
 have hn64:n<18446744073709551616:=Nat.lt_of_lt_of_le hn (Nat.le_trans (Nat.pow_le_pow_right (by omega) hw) (by decide))
 have hb:=JQ hn
 unfold tL Bf
 simp only [bF]
 rw [decide_eq_false (show ¬ (w:Int)<0 by omega),decide_eq_false (show ¬ (64:Int)<(w:Int) by omega),Bool.or_self,cond_false,HZ hn64,ab,decide_eq_false (by omega),cond_false,
  uW _ (by rw [gE];omega),ab,ab]
 refine ld (fun t=>(pk (l++(be n w).take t),((l.length+t:Nat):Int),(w:Int)-1-t)) w (by rw [w64 (by omega)];simp) (by omega) (fun t ht k=> ?_) (fun k=> ?_)
 ·have hi:(w:Int)-1-t=((w-1-t:Nat):Int):=by omega
  have hlt:(l++(be n w).take t).length=l.length+t:=by simp only [List.length_append,List.length_take,ot];omega
  have ha:=add_eq (l++(be n w).take t) (decide (n/2^(w-1-t)%2=1)) (by rw [hlt];omega)
  rw [hlt] at ha
  have hbit:(iD .u64 (ar .u64 (n:Int) ((w-1-t:Nat):Int)) 1==1)=decide (n/2^(w-1-t)%2=1):=by
   rw [Sd rfl _ _ (by omega),SG (Nat.lt_of_le_of_lt (Nat.div_le_self _ _) hn64),Bool.eq_iff_iff,beq_iff_eq,decide_eq_true_eq]
   generalize n/2^(w-1-t)=x
   omega
  simp only [rR,hi,decide_eq_true (show (0:Int)≤((w-1-t:Nat):Int) by omega),cond_true,hbit,aW rfl,ha,ab]
  rw [w64 (by omega),List.append_assoc,show List.take t (be n w)++[decide (n/2^(w-1-t)%2=1)]=(be n w).take (t+1) by
   rw [List.take_add_one,zS _ _ _ ht];rfl]
  congr 3
  omega
 ·simp only [rR]
  rw [decide_eq_false (by omega),cond_false,List.take_of_length_le (by rw [ot];omega)]
/-! a vector's bytes -/
noncomputable def kl (s:List Fd) (v:List Int):List Bool:=(List.zip s v).flatMap fun p=>be (p.2-p.1.1).toNat (wd p.1)
theorem um (f:Fd) (s:List Fd) (n:Int) (v:List Int):kl (f::s) (n::v)=be (n-f.1).toNat (wd f)++kl s v:=rfl
theorem lN: ∀ (s:List Fd) (v:List Int),v.length=s.length→(kl s v).length=gP s
 | [],[],_=>rfl
 | f::s,n::v,h=>by
  have:=lN s v (by simpa using h)
  rw [um,List.length_append,ot,this];simp [gP]
 | [],_::_,h=>by simp at h
 | _::_,[],h=>by simp at h
theorem J9 {s:List Fd} {v:List Int} {i:Nat} (h1:i<s.length) (h2:i<v.length):kl (s.take (i+1)) (v.take (i+1))=kl (s.take i) (v.take i)++be (v[i]-s[i].1).toNat (wd s[i]):=by
 unfold kl
 have hz (k:Nat):List.zip (s.take k) (v.take k)=(List.zip s v).take k:=by simp only [List.zip,List.take_zipWith]
 rw [hz,hz,List.take_add_one,List.getElem?_eq_getElem (by simp;omega),List.flatMap_append]
 simp
theorem D9 {s:List Fd} {v:List Int} (hi:In s v) {i:Nat} (h:i<s.length) (h2:i<v.length):(v[i]-s[i].1).toNat<2^wd s[i]:=by
 have:=hi.each i h
 have:=Sg (s[i].2-s[i].1).toNat
 unfold wd
 omega
noncomputable def enc (s:List Fd) (v:List Int):List Int:=pk (kl s v)++List.replicate (di s-(pk (kl s v)).length) 0
theorem lW {s:List Fd} {v:List Int} (h:v.length=s.length):(enc s v).length=di s:=by
 have:=lN s v h
 simp only [enc,List.length_append,List.length_replicate,gE,this,di];omega
theorem z5 (s:List Fd) (v:List Int):By (enc s v):=by
 intro x hx
 rcases List.mem_append.1 hx with h | h
 ·exact R7 _ x h
 ·rw [(List.mem_replicate.1 h).2];omega
theorem Ch: ∀ {s:List Fd} {v v':List Int},In s v→In s v'→kl s v=kl s v'→v=v'
 | [],[],[],_,_,_=>rfl
 | [],_::_,_,h,_,_=>by have:=h.len;simp at this
 | [],_,_::_,_,h,_=>by have:=h.len;simp at this
 | _::_,[],_,h,_,_=>by have:=h.len;simp at this
 | _::_,_,[],_,h,_=>by have:=h.len;simp at this
 | f::s,n::v,n'::v',h,h',e=>by
  rw [um,um] at e
  have e':=List.append_inj e (by rw [ot,ot])
  have h1:=h.each 0 (by simp)
  have h2:=h'.each 0 (by simp)
  have f1:=D9 h (i:=0) (by simp) (by simp)
  have f2:=D9 h' (i:=0) (by simp) (by simp)
  simp at h1 h2 f1 f2
  have hn:=LF _ f1 f2 e'.1
  have hv:=Ch (s:=s) (v:=v) (v':=v') ⟨by have:=h.len;simpa using this,fun i hi=>h.each (i+1) (by simp;omega)⟩ ⟨by have:=h'.len;simpa using this,fun i hi=>h'.each (i+1) (by simp;omega)⟩ e'.2
  rw [hv,show n=n' by omega]
theorem Ho {s:List Fd} {v v':List Int} (h:In s v) (h':In s v') (e:enc s v=enc s v'):v=v':=by
 have l1:=lN s v h.len
 have l2:=lN s v' h'.len
 have e':=List.append_inj e (by rw [gE,gE,l1,l2])
 exact Ch h h' (Rm (by rw [l1,l2]) e'.1)
theorem In.take {s:List Fd} {v:List Int} (h:In s v) (i:Nat):In (s.take i) (v.take i):=
 ⟨by simp [h.len],fun j hj=>by simp at hj ⊢; exact h.each j (by omega)⟩
theorem In.drop {s:List Fd} {v:List Int} (h:In s v) (i:Nat):In (s.drop i) (v.drop i):=
 ⟨by simp [h.len],fun j hj=>by simp at hj ⊢; exact h.each (i+j) (by omega)⟩
theorem vt {s:List Fd} {v:List Int} (hs:Fds s) (hv:In s v):fg s v=some (enc s v,0):=by
 have hf:=hs.few
 have hl:=hv.len
 have hbn:=m6 hs
 unfold fg
 rw [kQ s v (by omega),j2.2 hv,ab,show ((0:Int) != 0)=false from rfl,cond_false,ye hs,ab]
 refine ld (fun i=>(pk (kl (s.take i) (v.take i)),((gP (s.take i):Nat):Int),(i:Int))) s.length (by simp [gP];rfl) (by omega) (fun i hi k=> ?_) (fun k=> ?_)
 ·have hi':i<v.length:=by omega
  have hfi:=hs.each s[i] (List.getElem_mem hi)
  have hvi:=hv.each i hi
  have hbl:=lN (s.take i) (v.take i) (by simp [hl])
  have hbi:=m6 (hs.take i)
  have hP:=R3 (kl (s.take i) (v.take i)) (v[i]-s[i].1).toNat (wd s[i]) (by rw [hbl];simp at hbi;omega) (by have:=O0 (f:=s[i]) (by omega);omega) (D9 hv hi hi')
  rw [hbl,← J9 hi hi',← zT hi] at hP
  rw [show (((v[i]-s[i].1).toNat:Nat):Int)=v[i]-s[i].1 by omega] at hP
  simp only [lg,List.length_map,gi hi,cond_true,pz,List.getElem?_map,List.getElem?_eq_getElem hi,List.getElem?_eq_getElem hi',Option.map_some,ab,nx (show i<9223372036854775807 by omega)]
  rw [w64 (by omega),J4 (by omega),hP,ab]
 ·simp only [lg,List.length_map,iS (Nat.lt_irrefl _),cond_false,Du hs,ab,Int.toNat_natCast]
  have hb:di s≤40:=by unfold di;omega
  rw [aW (decide_eq_true (by omega)),aW (cr (by omega) (by omega)),List.take_length,List.take_of_length_le (by omega)]
  unfold lZ enc
  have:(pk (kl s v)).length≤di s:=by rw [gE,lN s v hl];unfold di;omega
  rw [List.length_replicate,List.take_of_length_le this,List.drop_replicate]
end So
end Go.Proofs.YtgcgmclghbebjaaGreat
namespace Go.Proofs.YtgcgmclghbebjaaGreat
namespace So
theorem BW: ∀ {x y:List Int},By x→By y→strOf x=strOf y→x=y
 | [],[],_,_,_=>rfl
 | [],_::_,_,_,h=>by simp [strOf] at h
 | _::_,[],_,_,h=>by simp [strOf] at h
 | a::x,b::y,hx,hy,h=>by
  simp only [strOf,List.map_cons,List.cons.injEq] at h
  have ha:=hx a (by simp)
  have hb:=hy b (by simp)
  have h1:=congrArg UInt8.toNat h.1
  rw [UInt8.toNat_ofNat',UInt8.toNat_ofNat'] at h1
  rw [BW (fun x hx'=>hx x (by simp [hx'])) (fun y hy'=>hy y (by simp [hy'])) h.2,show a=b by omega]
theorem E5 {x y:List Int} (hx:By x) (hy:By y):kK x y=some (decide (x=y)):=by
 unfold kK
 congr 1
 by_cases h:x=y
 ·rw [h];simp
 ·rw [decide_eq_false h,beq_eq_false_iff_ne];exact fun e=>h (BW hx hy e)
/-! the hash -/
noncomputable def hst (h c:Int):Int:=IntKind.u64.wrap ((pW .u64 h (IntKind.u64.wrap c))*1099511628211)
noncomputable def hsh (b:List Int) (seed:Int):Int:=
 let h:=b.foldl hst (pW .u64 seed 11400714819323198485)
 let h1:=pW .u64 h (ar .u64 h 29)
 let h2:=IntKind.u64.wrap (h1*13787848793156543929)
 pW .u64 h2 (ar .u64 h2 32)
theorem KS (x:Int):0≤IntKind.u64.wrap x∧IntKind.u64.wrap x<18446744073709551616:=by rw [IntKind.wrap_u64];omega
theorem KI (b:List Int) (seed:Int):0≤hsh b seed∧hsh b seed<18446744073709551616:=KS _
theorem Pv (b:List Int) (seed:Int) (hl:b.length<100000000):nC b seed=some (hsh b seed):=by
 unfold nC
 refine ld (fun i=>((b.take i).foldl hst (pW .u64 seed 11400714819323198485),(i:Int))) b.length rfl (by omega) (fun i hi k=> ?_) (fun k=> ?_)
 ·simp only [rA,gi hi,cond_true,bZ hi,ab,nx (show i<9223372036854775807 by omega)]
  rw [List.take_add_one,List.getElem?_eq_getElem hi,List.foldl_append]
  rfl
 ·simp only [rA,iS (Nat.lt_irrefl _),cond_false,rO,rh,rC,ab,List.take_length]
  rfl
noncomputable def home (key:List Int) (n:Nat):Nat:=(hsh key 0).toNat%n
theorem NA (b:List Int) (seed:Int) {n:Nat} (h0:0<n) (hn:n<1000000000):lU (hsh b seed) (n:Int)=some (((hsh b seed).toNat%n:Nat):Int):=by
 unfold lU
 have h:=KI b seed
 rw [decide_eq_false (by omega),cond_false,J4 (by omega),aW (by simp;omega)]
 have:Int.tmod (hsh b seed) (n:Int)=(((hsh b seed).toNat%n:Nat):Int):=by
  obtain ⟨m,hm⟩:=Int.eq_ofNat_of_zero_le h.1
  rw [hm];rfl
 have hlt:=Nat.mod_lt (hsh b seed).toNat h0
 rw [this,w64 (by omega)]
theorem O7 {α:Type} {l m:List α} (hl:l.Nodup) (h: ∀ x∈l,x∈m):l.length≤m.length:=by
 classical
 induction l generalizing m with
 | nil=>simp
 | cons x l ih=>
  have hx:=h x (by simp)
  have hn:=List.nodup_cons.1 hl
  obtain ⟨s,t,rfl⟩:=List.append_of_mem hx
  have:=ih (m:=s++t) hn.2 fun y hy=>by
   have:=h y (by simp [hy])
   simp only [List.mem_append,List.mem_cons] at this ⊢
   rcases this with h | rfl | h
   ·exact .inl h
   ·exact absurd hy hn.1
   ·exact .inr h
  simp at this ⊢; omega
theorem dh {α:Type} {l:List α} {i j:Nat} {a:α} (h:i<l.length):(l.set i a)[j]? =if i=j then some a else l[j]? :=by
 rw [List.getElem?_set]
 by_cases e:i=j
 ·rw [if_pos e,if_pos e];simp [h]
 ·rw [if_neg e,if_neg e]
theorem Gb {α:Type} {l:List α} (h:l.Nodup) {i j:Nat} (hi:i<l.length) (hj:j<l.length) (e:l[i]=l[j]):i=j:=by
 have hp:=List.pairwise_iff_getElem.1 h
 rcases Nat.lt_trichotomy i j with hij | hij | hij
 ·exact absurd e (hp i j hi hj hij)
 ·exact hij
 ·exact absurd e.symm (hp j i hj hi hij)
theorem j7 {α:Type} {l:List α} {x:α} {i:Nat} (h:l[i]? =some x):i<l.length:=by
 rcases Nat.lt_or_ge i l.length with h' | h'
 ·exact h'
 ·rw [List.getElem?_eq_none h'] at h;cases h
theorem AD {α:Type} {l:List α} (h:l.Nodup) {i j:Nat} {x:α} (hi:l[i]? =some x) (hj:l[j]? =some x):i=j:=by
 have h1:=j7 hi
 have h2:=j7 hj
 rw [List.getElem?_eq_getElem h1] at hi
 rw [List.getElem?_eq_getElem h2] at hj
 exact Gb h h1 h2 ((Option.some.inj hi).trans (Option.some.inj hj).symm)
/-! slots -/
structure Laid (K:List (List Int)) (S:List Int) (m:Nat):Prop where
 le:m≤K.length
 lt:m<S.length
 val: ∀ (p:Nat) (x:Int),S[p]? =some x→x=0∨ ∃ i:Nat,i<m∧x=(i:Int)+1
 uniq: ∀ (p q:Nat) (x:Int),S[p]? =some x→S[q]? =some x→x≠0→p=q
 path: ∀ (i:Nat) (k:List Int),i<m→K[i]? =some k→ ∃ d,d<S.length∧S[(home k S.length+d)%S.length]? =some ((i:Int)+1)∧ ∀ e,e<d→S[(home k S.length+e)%S.length]? ≠some 0
theorem Laid.free {K:List (List Int)} {S:List Int} {m:Nat} (h:Laid K S m): ∃ p,p<S.length∧S[p]? =some 0:=by
 by_cases hp: ∃ p,p<S.length∧S[p]? =some 0
 ·exact hp
 ·exfalso
  have hne: ∀ p,p<S.length→S[p]? ≠some 0:=fun p h1 h2=>hp ⟨p,h1,h2⟩
  have hnd:S.Nodup:=by
   refine List.pairwise_iff_getElem.2 fun i j hi hj hij e=> ?_
   have:=h.uniq i j _ ((List.getElem?_eq_getElem hi).trans (congrArg some e)) (List.getElem?_eq_getElem hj) (fun e0=>hne j hj (by rw [List.getElem?_eq_getElem hj,e0]))
   omega
  have hsub: ∀ x∈S,x∈(List.range m).map fun i:Nat=>(i:Int)+1:=by
   intro x hx
   obtain ⟨p,hp',e⟩:=List.getElem_of_mem hx
   have e':S[p]? =some x:=by rw [List.getElem?_eq_getElem hp',e]
   rcases h.val p x e' with rfl | ⟨i,hi,rfl⟩
   ·exact absurd e' (hne p hp')
   ·exact List.mem_map.2 ⟨i,List.mem_range.2 hi,rfl⟩
  have:=O7 hnd hsub
  simp at this
  have:=h.lt
  omega
theorem wc {K:List (List Int)} {S:List Int} {m:Nat} {cap:Int} (h:Laid K S m) (hK: ∀ k∈K,By k) {key:List Int} (hk:By key) (hl:key.length<100000000) (hn:S.length<1000000000) (hn2:K.length<1000000000):
  ∃ d,d<S.length∧cK (cap,K,S) key=some (((home key S.length+d)%S.length:Nat):Int)∧(∀ e,e<d→S[(home key S.length+e)%S.length]? ≠some 0)∧
   ((S[(home key S.length+d)%S.length]? =some 0∧ ∀ i:Nat,i<m→K[i]? ≠some key)∨ ∃ i:Nat,i<m∧K[i]? =some key∧S[(home key S.length+d)%S.length]? =some ((i:Int)+1)):=by
 have h0:0<S.length:=by have:=h.lt;omega
 have hmod (t:Nat):(home key S.length+t)%S.length<S.length:=Nat.mod_lt _ h0
 have hhome:home key S.length<S.length:=Nat.mod_lt _ h0
 -- where it stops
 let q:Nat→Bool:=fun t=>match S[(home key S.length+t)%S.length]? with
  | some x=>x==0||K[(x-1).toNat]? ==some key
  | none=>true
 have hq (t:Nat) (x:Int) (hx:S[(home key S.length+t)%S.length]? =some x):q t=(x==0||K[(x-1).toNat]? ==some key):=by simp only [q,hx]
 have hstep: ∀ t,t<S.length→q t=false→ ∀ k,cV (cap,K,S) key k (((home key S.length+t)%S.length:Nat):Int)=k (((home key S.length+(t+1))%S.length:Nat):Int):=by
  intro t ht hqt k
  have hx:=List.getElem?_eq_getElem (hmod t)
  rw [hq t _ hx] at hqt
  rcases h.val _ _ hx with e | ⟨i,hi,e⟩
  ·rw [e] at hqt;simp at hqt
  ·rw [e] at hx hqt
   have hi':i<K.length:=by have:=h.le;omega
   have hki:K[i]? =some K[i]:=List.getElem?_eq_getElem hi'
   have hne: ¬ K[i]=key:=by
    simp only [Bool.or_eq_false_iff] at hqt
    have:=hqt.2
    rw [show ((i:Int)+1-1).toNat=i by omega,hki] at this
    simpa using this
   simp only [cV,bF,cP hx,ab]
   rw [show ((i:Int)+1==0)=false by simp;omega]
   simp only [Bool.not_false,cg]
   rw [w64 (by omega),show (i:Int)+1-1=(i:Int) by omega,cP hki,ab,E5 (hK _ (List.getElem_mem hi')) hk,ab,decide_eq_false hne,Bool.or_self,cond_false]
   have hm:=hmod t
   rw [aW (show ((S.length:Int) != 0)=true from bne_iff_ne.2 (by omega)),nx (show (home key S.length+t)%S.length<9223372036854775807 by omega)]
   congr 1
   show ((((home key S.length+t)%S.length+1)%S.length:Nat):Int)=_
   rw [Nat.mod_add_mod,Nat.add_assoc]
 have hstop: ∀ t,t<S.length→q t=true→ ∀ k,cV (cap,K,S) key k (((home key S.length+t)%S.length:Nat):Int)=some (((home key S.length+t)%S.length:Nat):Int):=by
  intro t ht hqt k
  have hx:=List.getElem?_eq_getElem (hmod t)
  rw [hq t _ hx] at hqt
  rcases h.val _ _ hx with e | ⟨i,hi,e⟩
  ·rw [e] at hx
   simp only [cV,bF,cP hx,ab]
   rfl
  ·rw [e] at hx hqt
   have hi':i<K.length:=by have:=h.le;omega
   have hki:K[i]? =some K[i]:=List.getElem?_eq_getElem hi'
   have hne:K[i]=key:=by
    rw [show ((i:Int)+1==0)=false by simp;omega,Bool.false_or,show ((i:Int)+1-1).toNat=i by omega,hki] at hqt
    simpa using hqt
   simp only [cV,bF,cP hx,ab]
   rw [show ((i:Int)+1==0)=false by simp;omega]
   simp only [Bool.not_false,cg]
   rw [w64 (by omega),show (i:Int)+1-1=(i:Int) by omega,cP hki,ab,E5 (hK _ (List.getElem_mem hi')) hk,ab,decide_eq_true hne,Bool.or_true,cond_true]
 -- it stops somewhere
 have hex: ∃ t,t<S.length∧q t=true:=by
  obtain ⟨p,hp,e⟩:=h.free
  refine ⟨(p+S.length-home key S.length)%S.length,Nat.mod_lt _ h0,?_⟩
  have:(home key S.length+(p+S.length-home key S.length)%S.length)%S.length=p:=by
   rw [Nat.add_mod_mod,show home key S.length+(p+S.length-home key S.length)=p+S.length by omega,Nat.add_mod_right,Nat.mod_eq_of_lt hp]
  rw [hq _ 0 (by rw [this];exact e)];rfl
 rcases zc q S.length with ⟨d,hd,hqd,hmin⟩ | hno
 ·refine ⟨d,hd,?_,?_,?_⟩
  ·unfold cK
   rw [Pv key 0 hl,ab,NA key 0 h0 hn,ab]
   exact ld (fun t=>(((home key S.length+t)%S.length:Nat):Int)) d (by rw [Nat.add_zero,Nat.mod_eq_of_lt hhome];rfl) (by omega) (fun t ht=>hstep t (by omega) (hmin t ht)) (hstop d hd hqd)
  ·intro e he e0
   have:=hmin e he
   rw [hq e 0 e0] at this;simp at this
  ·have hx:=List.getElem?_eq_getElem (hmod d)
   rcases h.val _ _ hx with e | ⟨i,hi,e⟩
   ·rw [e] at hx
    refine .inl ⟨hx,fun i hi hki=> ?_⟩
    obtain ⟨d',h1,h2,h3⟩:=h.path i key hi hki
    have hq':q d'=true:=by
     rw [hq d' _ h2,show ((i:Int)+1-1).toNat=i by omega,hki];simp
    have:d≤d':=by
     rcases Nat.lt_or_ge d' d with hlt | hge
     ·rw [hmin d' hlt] at hq';cases hq'
     ·exact hge
    by_cases e':d=d'
    ·subst e';rw [hx] at h2;simp at h2;omega
    ·exact h3 d (by omega) hx
   ·rw [e] at hx
    have hi':i<K.length:=by have:=h.le;omega
    rw [hq d _ hx,show ((i:Int)+1==0)=false by simp;omega,Bool.false_or,show ((i:Int)+1-1).toNat=i by omega] at hqd
    exact .inr ⟨i,hi,by simpa using hqd,hx⟩
 ·obtain ⟨t,ht,e⟩:=hex
  rw [hno t ht] at e;cases e
theorem D7 {K:List (List Int)} {S:List Int} {m:Nat} {key:List Int} (h:Laid K S m) (hk:K[m]? =some key) (hm:m+1<S.length) {d:Nat} (hd:d<S.length) (hz:S[(home key S.length+d)%S.length]? =some 0) (hp: ∀ e,e<d→S[(home key S.length+e)%S.length]? ≠some 0):
  Laid K (S.set ((home key S.length+d)%S.length) ((m:Int)+1)) (m+1):=by
 have hmK:m<K.length:=by
  rcases Nat.lt_or_ge m K.length with h | h
  ·exact h
  ·rw [List.getElem?_eq_none h] at hk;cases hk
 have h0:0<S.length:=by omega
 have hlt:(home key S.length+d)%S.length<S.length:=Nat.mod_lt _ h0
 refine ⟨hmK,by simpa using hm,fun p x hx=> ?_,fun p q x hx hy hne=> ?_,fun i k hi hki=> ?_⟩
 ·rw [dh hlt] at hx
  split at hx
  ·exact .inr ⟨m,by omega,(Option.some.inj hx).symm⟩
  ·rcases h.val p x hx with e | ⟨i,hi,e⟩
   ·exact .inl e
   ·exact .inr ⟨i,by omega,e⟩
 ·have hnew: ∀ p:Nat,S[p]? =some ((m:Int)+1)→False:=fun p hp=>by
   rcases h.val p _ hp with e | ⟨i,hi,e⟩ <;> omega
  rw [dh hlt] at hx hy
  split at hx <;> split at hy
  ·omega
  ·rw [← Option.some.inj hx] at hy
   exact absurd hy (fun h=>hnew q h)
  ·rw [← Option.some.inj hy] at hx
   exact absurd hx (fun h=>hnew p h)
  ·exact h.uniq p q x hx hy hne
 ·rw [List.length_set]
  have hkeep: ∀ p:Nat,S[p]? ≠some 0→(S.set ((home key S.length+d)%S.length) ((m:Int)+1))[p]? ≠some 0:=by
   intro p hp' e
   rw [dh hlt] at e
   split at e
   ·have:=Option.some.inj e;omega
   ·exact hp' e
  by_cases him:i=m
  ·subst him
   rw [hk] at hki
   cases hki
   refine ⟨d,hd,?_,fun e he=>hkeep _ (hp e he)⟩
   rw [dh hlt,if_pos rfl]
  ·obtain ⟨d',h1,h2,h3⟩:=h.path i k (by omega) hki
   refine ⟨d',h1,?_,fun e he=>hkeep _ (h3 e he)⟩
   rw [dh hlt,if_neg (fun e=>by rw [← e,hz] at h2;simp at h2;omega)]
   exact h2
theorem EX {K:List (List Int)} {n:Nat} (hn:0<n):Laid K (List.replicate n 0) 0:=
 ⟨Nat.zero_le _,by simpa using hn,fun p x hx=> .inl (by rw [List.getElem?_replicate] at hx;split at hx;(exact (Option.some.inj hx).symm);(cases hx)),
  fun p q x hx _ hne=>(by rw [List.getElem?_replicate] at hx;split at hx;(exact absurd (Option.some.inj hx).symm hne);(cases hx)),fun i k hi=>by omega⟩
theorem LO {K:List (List Int)} {S:List Int} {m:Nat} (h:Laid K S m) (key:List Int):Laid (K++[key]) S m:=
 ⟨by simp;have:=h.le;omega,h.lt,h.val,h.uniq,fun i k hi hk=>by
  rw [List.getElem?_append_left (by have:=h.le;omega)] at hk
  exact h.path i k hi hk⟩
theorem Pn: @lJ= @cV:=rfl
theorem NH (t:Int×List (List Int)×List Int) (key:List Int):gH t key=cK t key:=by
 unfold gH cK;rw [Pn]
/-! the table -/
abbrev Tb:=Int×List (List Int)×List Int
structure Key (k:List Int):Prop where
 by_:By k
 short:k.length<100000
structure TI (t:Tb):Prop where
 cap0:0≤t.1
 cap1:t.1≤1048576
 few:(t.2.1.length:Int)≤t.1
 nd:t.2.1.Nodup
 keys: ∀ k∈t.2.1,Key k
 eight:8≤t.2.2.length
 half:2*t.2.1.length≤t.2.2.length
 small:t.2.2.length≤8+4*t.2.1.length
 laid:Laid t.2.1 t.2.2 t.2.1.length
theorem TI.n {t:Tb} (h:TI t):t.2.1.length≤1048576:=by have:=h.few;have:=h.cap1;omega
theorem Ar (most:Int):gD most=if most<0∨1048576<most then some ((0,[],[]),1) else some ((most,[],List.replicate 8 0),0):=by
 unfold gD
 simp only [bF]
 by_cases h:most<0∨1048576<most
 ·rw [if_pos h,show (decide (most<0)||decide (1048576<most))=true by simpa using h];rfl
 ·rw [if_neg h,show (decide (most<0)||decide (1048576<most))=false by simp;omega];rfl
theorem AH {most:Int} (h0:0≤most) (h1:most≤1048576):TI (most,[],List.replicate 8 0):=
 ⟨h0,h1,h0,List.nodup_nil,fun k hk=>by simp at hk,by simp,by simp,by simp,EX (by omega)⟩
theorem fB {t:Tb} (h:TI t) {key:List Int} (hk:Key key):(∀ i:Nat,t.2.1[i]? =some key→bM t key=some ((i:Int),true))∧(key∉t.2.1→bM t key=some (0,false)):=by
 have hn:=h.n
 have hs:=h.small
 have he:=h.eight
 obtain ⟨d,h1,h2,h3,h4⟩:=wc (cap:=t.1) h.laid (fun k hk=>(h.keys k hk).by_) hk.by_ (by have:=hk.short;omega) (by omega) (by omega)
 have hF: ∀ x,t.2.2[(home key t.2.2.length+d)%t.2.2.length]? =some x→bM t key=some (max (IntKind.i64.wrap (x-1)) 0,decide (0<x)):=by
  intro x hx
  unfold bM l7
  rw [show ((t.2.2.length:Int)==0)=false from beq_eq_false_iff_ne.2 (by omega),cond_false,show cK t key=_ from h2,ab,cP hx,ab,ab]
 refine ⟨fun i hi=> ?_,fun hno=> ?_⟩
 ·have hil:i<t.2.1.length:=by
   rcases Nat.lt_or_ge i t.2.1.length with h | h
   ·exact h
   ·rw [List.getElem?_eq_none h] at hi;cases hi
  rcases h4 with ⟨_,h5⟩ | ⟨j,hj,h5,h6⟩
  ·exact absurd hi (h5 i hil)
  ·have:i=j:=by
    exact AD h.nd hi h5
   subst this
   rw [hF _ h6,w64 (by omega),decide_eq_true (by omega)]
   congr 2;omega
 ·rcases h4 with ⟨h5,_⟩ | ⟨j,hj,h5,_⟩
  ·rw [hF _ h5];rfl
  ·exact absurd (List.mem_of_getElem? h5) hno
theorem Cb {l:List Int} (h:l.length<1000000000):cZ l=some l:=by
 unfold cZ
 rw [aW (cr (by omega) (by omega))]
theorem xo {α:Type} (l:List α):ba l 0 (l.length:Int)=l:=by
 unfold ba;simp
theorem tH {α:Type} (l:List α):(gL 0 (l.length:Int) (l.length:Int) l.length&&((l.length:Int)==(l.length:Int)))=true:=by
 simp [gL]
theorem Qg {K:List (List Int)} (nd:K.Nodup) (hK: ∀ k∈K,Key k) (hn:K.length≤1048577) {n:Nat} (h1:K.length<n) (h2:n<100000000) (cap:Int) (S0:List Int): ∃ S,jf (n:Int) cap K S0=some (K,S)∧S.length=n∧Laid K S K.length:=by
 have key: ∀ (d i:Nat) (S:List Int) (M:Nat),i+d=K.length→d<M→S.length=n→Laid K S i→ ∃ S',aq (ga cap K) M (K,S,(i:Int))=some (K,S')∧S'.length=n∧Laid K S' K.length:=by
  intro d
  induction d with
  | zero=>
   intro i S M hi hM hS hL
   obtain ⟨m,rfl⟩: ∃ m,M=m+1:=⟨M-1,by omega⟩
   rw [aK]
   have:i=K.length:=by omega
   subst this
   exact ⟨S,by simp only [ga,iS (Nat.lt_irrefl _),cond_false],hS,hL⟩
  | succ d ih=>
   intro i S M hi hM hS hL
   obtain ⟨m,rfl⟩: ∃ m,M=m+1:=⟨M-1,by omega⟩
   rw [aK]
   have hiK:i<K.length:=by omega
   have hki:=List.getElem?_eq_getElem hiK
   have hkey:=hK _ (List.getElem_mem hiK)
   obtain ⟨e,e1,e2,e3,e4⟩:=wc (cap:=cap) hL (fun k hk=>(hK k hk).by_) hkey.by_ (by have:=hkey.short;omega) (by omega) (by omega)
   have hz:S[(home K[i] S.length+e)%S.length]? =some 0:=by
    rcases e4 with ⟨h,_⟩ | ⟨j,hj,h,_⟩
    ·exact h
    ·rw [List.getElem?_eq_getElem (show j<K.length by omega)] at h
     have:=Gb nd _ _ (Option.some.inj h)
     omega
   obtain ⟨S',s1,s2,s3⟩:=ih (i+1) (S.set ((home K[i] S.length+e)%S.length) ((i:Int)+1)) m (by omega) (by omega) (by simpa using hS) (D7 hL hki (by omega) e1 hz e3)
   refine ⟨S',?_,s2,s3⟩
   rw [show ((i:Int)+1)=((i+1:Nat):Int) by omega] at s1
   unfold ga
   dsimp only
   rw [gi hiK,cond_true,cP hki,ab,NH,e2,ab,cP hz,ab,Int.toNat_natCast,nx (show i<9223372036854775807 by omega)]
   exact s1
 unfold jf
 rw [aW (decide_eq_true (by omega)),aW (cr (by simp;omega) (by simp;omega)),Int.toNat_natCast]
 have:=key K.length 0 (List.replicate n 0) az (by omega) (by show _<2^64;omega) (by simp) (EX (by omega))
 rw [show ((0:Nat):Int)=0 from rfl] at this
 exact this
theorem B8 {t:Tb} (h:TI t) {key:List Int} (hk:Key key) {i:Nat} (hi:t.2.1[i]? =some key):bd t key=some (t,(i:Int),false,0):=by
 unfold bd
 rw [(fB h hk).1 i hi,ab];rfl
theorem Gx {t:Tb} (h:TI t) {key:List Int} (hk:Key key) (hn:key∉t.2.1) (hf:t.1≤t.2.1.length):bd t key=some (t,0,false,7):=by
 unfold bd
 rw [(fB h hk).2 hn,ab,cond_false,decide_eq_true hf];rfl
theorem tY {t:Tb} (h:TI t) {key:List Int} (hk:Key key) (hn:key∉t.2.1) (hf:(t.2.1.length:Int)<t.1):
  ∃ t',bd t key=some (t',(t.2.1.length:Int),true,0)∧t'.1=t.1∧t'.2.1=t.2.1++[key]∧TI t':=by
 have hN:=h.n
 have hs:=h.small
 have he:=h.eight
 have hh:=h.half
 have hc1:=h.cap1
 have nd':(t.2.1++[key]).Nodup:=List.nodup_append.2 ⟨h.nd,by simp,fun a ha b hb=>by simp at hb;subst hb;exact fun e=>hn (e▸ha)⟩
 have hK': ∀ k∈t.2.1++[key],Key k:=fun k hk'=>by
  rcases List.mem_append.1 hk' with h' | h'
  ·exact h.keys k h'
  ·simp at h';subst h';exact hk
 unfold bd
 rw [(fB h hk).2 hn,ab,cond_false,decide_eq_false (by omega),cond_false,aW (tH _),uW key (by have:=hk.short;omega),ab,xo,aW (cr (by simp;omega) (by simp;omega))]
 simp only [bF,qX]
 rw [nx (show t.2.1.length<9223372036854775807 by omega),w64 (show _∧2*((t.2.1.length+1:Nat):Int)≤_ by omega)]
 by_cases hg:t.2.2.length<2*(t.2.1.length+1)
 ·rw [decide_eq_true (by omega),cond_true,w64 (by omega)]
  obtain ⟨S,g1,g2,g3⟩:=Qg nd' hK' (by simp;omega) (n:=2*t.2.2.length) (by simp;omega) (by omega) t.1 t.2.2
  rw [show (2*max (t.2.2.length:Int) 8)=((2*t.2.2.length:Nat):Int) by omega,g1,ab]
  exact ⟨_,rfl,rfl,rfl,h.cap0,h.cap1,by simp;omega,nd',hK',by show 8≤S.length;omega,by show 2*(t.2.1++[key]).length≤S.length;simp;omega,by show S.length≤8+4*(t.2.1++[key]).length;simp;omega,g3⟩
 ·rw [decide_eq_false (by omega),cond_false,Cb (by omega),ab]
  obtain ⟨d,e1,e2,e3,e4⟩:=wc (cap:=t.1) h.laid (fun k hk=>(h.keys k hk).by_) hk.by_ (by have:=hk.short;omega) (by omega) (by omega)
  have hz:t.2.2[(home key t.2.2.length+d)%t.2.2.length]? =some 0:=by
   rcases e4 with ⟨h,_⟩ | ⟨j,hj,h,_⟩
   ·exact h
   ·exact absurd (List.mem_of_getElem? h) hn
  rw [show cK t key=_ from e2,ab,cP hz,ab,Int.toNat_natCast]
  have hL:=D7 (LO h.laid key) (key:=key) (by simp) (by omega) e1 hz e3
  exact ⟨_,rfl,rfl,rfl,h.cap0,h.cap1,by simp;omega,nd',hK',by simpa using h.eight,by simp;omega,by simp;omega,by simpa using hL⟩
end So
end Go.Proofs.YtgcgmclghbebjaaGreat
namespace Go.Proofs.YtgcgmclghbebjaaGreat
namespace So
/-! flags -/
noncomputable def fl (a b:Bool):Int:=a.toNat+2*b.toNat
abbrev Gf:=Bool→List Int→Bool
noncomputable def upd (g:Gf) (b:Bool) (v:List Int):Gf:=fun b' v'=>g b' v'||(b'==b&&v'==v)
structure Flags (V:List (List Int)) (g:Gf) (F:List Int):Prop where
 len:F.length=V.length
 at_: ∀ (i:Nat) v,V[i]? =some v→F[i]? =some (fl (g false v) (g true v))
 out: ∀ b v,v∉V→g b v=false
theorem Flags.nil:Flags [] (fun _ _=>false) []:=⟨rfl,fun i v h=>by simp at h,fun _ _ _=>rfl⟩
theorem Flags.add {V:List (List Int)} {g:Gf} {F:List Int} (h:Flags V g F) {v:List Int} (hv:v∉V):Flags (V++[v]) g (F++[0]):=by
 refine ⟨by simp [h.len],fun i u hu=> ?_,fun b u hu=>h.out b u (fun hm=>hu (List.mem_append_left _ hm))⟩
 rw [List.getElem?_append] at hu ⊢
 rw [h.len]
 split at hu
 ·rename_i hi;rw [if_pos hi];exact h.at_ i u hu
 ·rename_i hi
  rw [if_neg hi]
  have h0:i-V.length=0:=by
   by_cases e:i-V.length=0
   ·exact e
   ·rw [List.getElem?_eq_none (by simp;omega)] at hu;cases hu
  rw [h0] at hu ⊢
  simp at hu;subst hu
  rw [h.out false v hv,h.out true v hv];rfl
theorem Flags.set {V:List (List Int)} {g:Gf} {F:List Int} (h:Flags V g F) (nd:V.Nodup) {v:List Int} {i:Nat} (hi:V[i]? =some v) (b:Bool):
  Flags V (upd g b v) (F.set i (fl (g false v|| !b) (g true v||b))):=by
 have hil:i<V.length:=by
  rcases Nat.lt_or_ge i V.length with h | h
  ·exact h
  ·rw [List.getElem?_eq_none h] at hi;cases hi
 refine ⟨by simp [h.len],fun j u hu=> ?_,fun b' u hu=> ?_⟩
 ·rw [dh (by rw [h.len];exact hil)]
  by_cases e:i=j
  ·subst e
   rw [hi] at hu;cases hu
   rw [if_pos rfl]
   unfold upd
   cases b <;> simp
  ·rw [if_neg e,h.at_ j u hu]
   have hne:u≠v:=by
    rintro rfl
    have hjl:j<V.length:=by
     rcases Nat.lt_or_ge j V.length with h | h
     ·exact h
     ·rw [List.getElem?_eq_none h] at hu;cases hu
    rw [List.getElem?_eq_getElem hil] at hi
    rw [List.getElem?_eq_getElem hjl] at hu
    exact e (Gb nd _ _ ((Option.some.inj hi).trans (Option.some.inj hu).symm))
   unfold upd
   rw [beq_eq_false_iff_ne.2 hne];simp
 ·unfold upd
  rw [h.out b' u hu,beq_eq_false_iff_ne.2 (fun e=>hu (e▸List.mem_of_getElem? hi):u≠v)];simp
theorem FY (a b:Bool):orI .u8 (fl a b) 1=fl (a|| !false) (b||false)∧orI .u8 (fl a b) 2=fl (a|| !true) (b||true)∧orI .u8 (fl a b) (kG .u8 1 0)=fl (a|| !false) (b||false)∧orI .u8 (fl a b) (kG .u8 1 1)=fl (a|| !true) (b||true):=by
 cases a <;> cases b <;> decide
theorem Fh (a b:Bool):(iD .u8 (fl a b) 1 != 0)=a∧(iD .u8 (fl a b) 2 != 0)=b∧(iD .u8 (ar .u8 (fl a b) 0) 1==1)=a∧(iD .u8 (ar .u8 (fl a b) 1) 1==1)=b∧(iD .u8 (fl a b) (kG .u8 1 0) != 0)=a∧(iD .u8 (fl a b) (kG .u8 1 1) != 0)=b:=by
 cases a <;> cases b <;> decide
theorem uQ {l:List Int} (h:l.length<1000000000):bm l=some l:=by
 unfold bm
 rw [aW (cr (by omega) (by omega))]
/-! what comes of a set of vectors with flags -/
noncomputable def np (cap:Int) (V:List (List Int)) (v:List Int):List (List Int)×Bool×Int:=if v∈V then (V,false,0) else if cap≤V.length then (V,false,7) else (V++[v],true,0)
noncomputable def cp (V:List (List Int)) (v:List Int) (flag:Int):Int:=if flag<0∨1<flag then 1 else if v∈V then 0 else 10
noncomputable def BB (V:List (List Int)) (g:Gf) (v:List Int) (flag:Int):Gf:=if cp V v flag=0 then upd g (flag==1) v else g
noncomputable def BG (V:List (List Int)) (g:Gf) (v:List Int) (flag:Int):Bool:=if cp V v flag=0 then g (flag==1) v else false
theorem iz {α:Type} {l:List α} {x:α} (h:x∈l): ∃ i:Nat,i<l.length∧l[i]? =some x:=by
 obtain ⟨i,hi,e⟩:=List.getElem_of_mem h
 exact ⟨i,hi,by rw [List.getElem?_eq_getElem hi,e]⟩
/-! the plain store -/
abbrev Fl:=Tb×List Int
structure OkF (s:List Fd) (t:Fl) (V:List (List Int)) (g:Gf):Prop where
 tab:TI t.1
 keys:t.1.2.1=V.map (enc s)
 ins: ∀ v∈V,In s v
 flags:Flags V g t.2
theorem wZ {s:List Fd} (hs:Fds s) {v:List Int} (hv:In s v):Key (enc s v):=
 ⟨z5 s v,by rw [lW hv.len];have:=m6 hs;have:=hs.few;unfold di;omega⟩
theorem lV {s:List Fd} {V:List (List Int)} (hV: ∀ v∈V,In s v) {v:List Int} (hv:In s v):enc s v∈V.map (enc s)↔v∈V:=by
 rw [List.mem_map]
 exact ⟨fun ⟨u,hu,e⟩=>Ho (hV u hu) hv e▸hu,fun h=>⟨v,h,rfl⟩⟩
theorem OkF.nd {s:List Fd} {t:Fl} {V:List (List Int)} {g:Gf} (h:OkF s t V g):V.Nodup:=by
 have:=h.tab.nd
 rw [h.keys] at this
 exact (List.pairwise_map.1 this).imp fun {a b} h e=>h (congrArg (enc s) e)
theorem OkF.len {s:List Fd} {t:Fl} {V:List (List Int)} {g:Gf} (h:OkF s t V g):t.1.2.1.length=V.length:=by rw [h.keys];simp
theorem OkF.at_ {s:List Fd} {t:Fl} {V:List (List Int)} {g:Gf} (h:OkF s t V g) {v:List Int} {i:Nat} (hi:V[i]? =some v):t.1.2.1[i]? =some (enc s v):=by rw [h.keys,List.getElem?_map,hi];rfl
theorem zO (most:Int):tS most=if most<0∨1048576<most then some (((0,[],[]),[]),1) else some (((most,[],List.replicate 8 0),[]),0):=by
 unfold tS
 rw [Ar]
 by_cases h:most<0∨1048576<most
 ·rw [if_pos h,if_pos h];rfl
 ·rw [if_neg h,if_neg h];rfl
theorem JX (s:List Fd) {most:Int} (h0:0≤most) (h1:most≤1048576):OkF s ((most,[],List.replicate 8 0),[]) [] (fun _ _=>false):=
 ⟨AH h0 h1,rfl,fun v hv=>by simp at hv,Flags.nil⟩
theorem J7 {s:List Fd} (hs:Fds s) {t:Fl} {V:List (List Int)} {g:Gf} (h:OkF s t V g) {v:List Int} (hv:In s v):
  ∃ t',nY t (enc s v)=some (t',(np t.1.1 V v).2)∧OkF s t' (np t.1.1 V v).1 g∧t'.1.1=t.1.1:=by
 have hk:=wZ hs hv
 have hN:=h.tab.n
 unfold nY np
 by_cases hm:v∈V
 ·obtain ⟨i,hi,e⟩:=iz hm
  rw [B8 h.tab hk (h.at_ e),ab,if_pos hm]
  exact ⟨t,rfl,h,rfl⟩
 ·have hn:enc s v∉t.1.2.1:=by rw [h.keys,lV h.ins hv];exact hm
  rw [if_neg hm]
  by_cases hc:t.1.1≤(V.length:Int)
  ·rw [if_pos hc,Gx h.tab hk hn (by rw [h.len];exact hc),ab]
   exact ⟨t,rfl,h,rfl⟩
  ·obtain ⟨t',e1,e2,e3,e4⟩:=tY h.tab hk hn (by rw [h.len];omega)
   rw [if_neg hc,e1,ab]
   have hfl:=h.flags.len
   have hVl:=h.len
   refine ⟨(t',t.2++[0]),?_,⟨e4,by rw [e3,h.keys];simp,fun u hu=> ?_,h.flags.add hm⟩,e2⟩
   ·simp only [Bool.not_true,cond_false]
    rw [aW (tH _),xo,aW (cr (by simp;omega) (by simp;omega))]
   ·rcases List.mem_append.1 hu with hu | hu
    ·exact h.ins u hu
    ·simp at hu;subst hu;exact hv
theorem zg {s:List Fd} (hs:Fds s) {t:Fl} {V:List (List Int)} {g:Gf} (h:OkF s t V g) {v:List Int} (hv:In s v):
  (∃ i:Nat,i<V.length∧V[i]? =some v∧v∈V∧bM t.1 (enc s v)=some ((i:Int),true))∨(v∉V∧bM t.1 (enc s v)=some (0,false)):=by
 have hk:=wZ hs hv
 by_cases hm:v∈V
 ·obtain ⟨i,hi,e⟩:=iz hm
  exact .inl ⟨i,hi,e,hm,(fB h.tab hk).1 i (h.at_ e)⟩
 ·exact .inr ⟨hm,(fB h.tab hk).2 (by rw [h.keys,lV h.ins hv];exact hm)⟩
theorem JC {s:List Fd} (hs:Fds s) {t:Fl} {V:List (List Int)} {g:Gf} (h:OkF s t V g) {v:List Int} (hv:In s v):nM t (enc s v)=some (decide (v∈V)):=by
 unfold nM
 rcases zg hs h hv with ⟨i,_,_,hm,e⟩ | ⟨hm,e⟩
 ·rw [e,ab,decide_eq_true hm]
 ·rw [e,ab,decide_eq_false hm]
theorem LY (flag:Int):qh flag=some (if flag=0 then 1 else if flag=1 then 2 else 0):=by
 unfold qh
 by_cases h0:flag=0
 ·subst h0;rfl
 ·by_cases h1:flag=1
  ·subst h1;rfl
  ·rw [if_neg h0,if_neg h1,beq_eq_false_iff_ne.2 h0,beq_eq_false_iff_ne.2 h1];rfl
theorem nF (flag:Int):(flag<0∨1<flag)∨flag=0∨flag=1:=by omega
theorem JL {s:List Fd} (hs:Fds s) {t:Fl} {V:List (List Int)} {g:Gf} (h:OkF s t V g) {v:List Int} (hv:In s v) (flag:Int):
  ∃ t',uH t (enc s v) flag=some (t',cp V v flag)∧OkF s t' V (BB V g v flag)∧t'.1.1=t.1.1:=by
 have hN:=h.tab.n
 have hl:=h.len
 have hfl:=h.flags.len
 unfold uH Bg BB cp
 rw [LY,ab]
 rcases nF flag with hb | hb
 ·rw [if_pos hb,if_neg (by omega),if_neg (by omega),if_neg (by omega)]
  exact ⟨t,rfl,h,rfl⟩
 ·rw [if_neg (show ¬ (flag<0∨1<flag) by omega)]
  have hb0:((if flag=0 then 1 else if flag=1 then 2 else 0:Int)==0)=false:=by
   rcases hb with rfl | rfl <;> rfl
  rw [hb0,cond_false]
  rcases zg hs h hv with ⟨i,hi,e,hm,ef⟩ | ⟨hm,ef⟩
  ·rw [ef,ab,if_pos hm,if_pos rfl]
   have hF:=h.flags.at_ i v e
   simp only [Bool.not_true,cond_false,ru]
   rw [uQ (by omega),ab,cP hF,ab,ab,ab,Int.toNat_natCast]
   refine ⟨(t.1,t.2.set i (fl (g false v|| !(flag==1)) (g true v||(flag==1)))),?_,⟨h.tab,h.keys,h.ins,h.flags.set h.nd e _⟩,rfl⟩
   have hh:=FY (g false v) (g true v)
   rcases hb with rfl | rfl
   ·rw [if_pos rfl,hh.1];rfl
   ·rw [if_neg (show ¬ (1:Int)=0 by decide),if_pos rfl,hh.2.1];rfl
  ·rw [ef,ab,if_neg hm,if_neg (show ¬ (10:Int)=0 by decide)]
   exact ⟨t,rfl,h,rfl⟩
theorem IU {s:List Fd} (hs:Fds s) {t:Fl} {V:List (List Int)} {g:Gf} (h:OkF s t V g) {v:List Int} (hv:In s v) (flag:Int):
  tM t (enc s v) flag=some (BG V g v flag,cp V v flag):=by
 unfold tM tQ BG cp
 rw [LY,ab]
 rcases nF flag with hb | hb
 ·rw [if_pos hb,if_neg (by omega),if_neg (by omega),if_neg (by omega)];rfl
 ·rw [if_neg (show ¬ (flag<0∨1<flag) by omega)]
  have hb0:((if flag=0 then 1 else if flag=1 then 2 else 0:Int)==0)=false:=by
   rcases hb with rfl | rfl <;> rfl
  rw [hb0,cond_false]
  rcases zg hs h hv with ⟨i,hi,e,hm,ef⟩ | ⟨hm,ef⟩
  ·rw [ef,ab,if_pos hm,if_pos rfl]
   simp only [Bool.not_true,cond_false,rK]
   rw [cP (h.flags.at_ i v e),ab,ab,ab]
   have hh:=Fh (g false v) (g true v)
   rcases hb with rfl | rfl
   ·rw [if_pos rfl,hh.1];rfl
   ·rw [if_neg (show ¬ (1:Int)=0 by decide),if_pos rfl,hh.2.1];rfl
  ·rw [ef,ab,if_neg hm,if_neg (show ¬ (10:Int)=0 by decide)];rfl
end So
end Go.Proofs.YtgcgmclghbebjaaGreat
namespace Go.Proofs.YtgcgmclghbebjaaGreat
namespace So
/-! pairs -/
abbrev U32 (n:Int):Prop:=0≤n∧n<4294967296
noncomputable def oJ (a:Int) (k:Nat):Int:=IntKind.u8.wrap (ar .u32 a (k:Int))
noncomputable def ky (a b:Int):List Int:=[oJ a 0,oJ a 8,oJ a 16,oJ a 24,oJ b 0,oJ b 8,oJ b 16,oJ b 24]
theorem ss (a:Int):oJ a 0=a%256∧oJ a 8=a/256%256∧oJ a 16=a/65536%256∧oJ a 24=a/16777216%256:=by
 refine ⟨?_,?_,?_,?_⟩
 ·show IntKind.u8.wrap (a/1)=_
  rw [IntKind.wrap_u8];omega
 ·show IntKind.u8.wrap (a/256)=_
  rw [IntKind.wrap_u8]
 ·show IntKind.u8.wrap (a/65536)=_
  rw [IntKind.wrap_u8]
 ·show IntKind.u8.wrap (a/16777216)=_
  rw [IntKind.wrap_u8]
theorem Ee {a b c d:Int} (ha:U32 a) (hb:U32 b) (hc:U32 c) (hd:U32 d) (h:ky a b=ky c d):a=c∧b=d:=by
 obtain ⟨a0,a1,a2,a3⟩:=ss a
 obtain ⟨b0,b1,b2,b3⟩:=ss b
 obtain ⟨c0,c1,c2,c3⟩:=ss c
 obtain ⟨d0,d1,d2,d3⟩:=ss d
 simp only [ky,List.cons.injEq,and_true] at h
 omega
theorem qa (a b:Int):Key (ky a b):=by
 refine ⟨fun x hx=> ?_,by simp [ky]⟩
 simp only [ky,List.mem_cons,List.not_mem_nil,or_false] at hx
 obtain ⟨a0,a1,a2,a3⟩:=ss a
 obtain ⟨b0,b1,b2,b3⟩:=ss b
 rcases hx with rfl | rfl | rfl | rfl | rfl | rfl | rfl | rfl <;> omega
theorem Lk (a b:Int):(qn a b).bind jY=some (ky a b):=by
 unfold qn
 obtain ⟨m,hm⟩: ∃ m,az=m+5:=⟨2^64-5,rfl⟩
 rw [hm]
 rfl
theorem FQ (p:Tb) (a b:Int):o9 p a b=bM p (ky a b):=by
 have h:=Lk a b
 unfold o9
 obtain ⟨q,h1,h2⟩:=dQ h
 rw [h1,ab,h2,ab]
 cases bM p (ky a b) <;> rfl
theorem Pu (p:Tb) (a b:Int):mR p a b=bd p (ky a b):=by
 have h:=Lk a b
 unfold mR
 obtain ⟨q,h1,h2⟩:=dQ h
 rw [h1,ab,h2,ab]
 cases bd p (ky a b) <;> rfl
/-! rows of a tree -/
noncomputable abbrev FF:(Int→Option Int)→Int→Option Int:=fun k s=>jm k s
theorem wX: ∀ (M n:Nat),n≤M→n<1000000→aq FF (M+1) (n:Int)=some ((n-1:Nat):Int)
 | M,n,h,hn=>by
  have E:aq FF (M+1) (n:Int)=jm (aq FF M) (n:Int):=aK
  rw [E]
  by_cases h2:n<2
  ·generalize aq FF M=k
   unfold jm
   rw [decide_eq_true (by omega),cond_true];congr 1;omega
  ·obtain ⟨M,rfl⟩: ∃ m,M=m+1:=⟨M-1,by omega⟩
   have e1:=wX M ((n+1)/2) (by omega) (by omega)
   have e2:=wX M (n-(n+1)/2) (by omega) (by omega)
   generalize aq FF (M+1)=k at e1 e2 ⊢
   unfold jm
   rw [decide_eq_false (by omega),cond_false]
   rw [nx (show n<9223372036854775807 by omega)]
   rw [show Int.tdiv ((n+1:Nat):Int) 2=(((n+1)/2:Nat):Int) from rfl,w64 (show _∧(((n+1)/2:Nat):Int)≤_ by omega)]
   rw [e1,ab]
   rw [w64 (show _∧(n:Int)-(((n+1)/2:Nat):Int)≤_ by omega),show (n:Int)-(((n+1)/2:Nat):Int)=((n-(n+1)/2:Nat):Int) by omega]
   rw [e2,ab]
   rw [w64 (show _∧(1:Int)+(((n+1)/2-1:Nat):Int)≤_ by omega),w64 (by omega)]
   congr 1;omega
theorem BH (n:Nat) (hn:n<1000000):lB (n:Int)=some ((n-1:Nat):Int):=by
 unfold lB
 obtain ⟨m,hm⟩: ∃ m,az=(m+1000000)+1:=⟨2^64-1000001,rfl⟩
 rw [hm]
 exact wX _ n (by omega) hn
/-! what stands for numbers -/
noncomputable def Code (P:List Tb):Nat→Nat→List Int→Int→Prop
 | 0,_,_,_=>False
 | d+1,row,l,c=>(l.length=1∧l[0]? =some c)∨(2≤l.length∧ ∃ a b t,Code P d (row+1) (l.take ((l.length+1)/2)) a∧Code P d (row+1+((l.length+1)/2-1)) (l.drop ((l.length+1)/2)) b∧
   U32 a∧U32 b∧P[row]? =some t∧ ∃ i:Nat,c=(i:Int)∧t.2.1[i]? =some (ky a b))
abbrev Nd (P:List Tb):Prop:= ∀ (r:Nat) (t:Tb),P[r]? =some t→t.2.1.Nodup
theorem Code.fn {P:List Tb} (nd:Nd P): ∀ {d row:Nat} {l:List Int} {c c':Int},Code P d row l c→Code P d row l c'→c=c'
 | 0,_,_,_,_,h,_=>h.elim
 | d+1,row,l,c,c',h,h'=>by
  rcases h with ⟨h1,h2⟩ | ⟨h1,a,b,t,ha,hb,_,_,ht,i,rfl,hi⟩ <;> rcases h' with ⟨h1',h2'⟩ | ⟨h1',a',b',t',ha',hb',_,_,ht',i',rfl,hi'⟩
  ·rw [h2] at h2';exact Option.some.inj h2'
  ·omega
  ·omega
  ·have e1:=Code.fn nd ha ha'
   have e2:=Code.fn nd hb hb'
   subst e1;subst e2
   rw [ht] at ht';cases ht'
   rw [AD (nd row t ht) hi hi']
theorem Code.inj {P:List Tb}: ∀ {d row:Nat} {l l':List Int} {c:Int},l.length=l'.length→Code P d row l c→Code P d row l' c→l=l'
 | 0,_,_,_,_,_,h,_=>h.elim
 | d+1,row,l,l',c,hl,h,h'=>by
  rcases h with ⟨h1,h2⟩ | ⟨h1,a,b,t,ha,hb,ua,ub,ht,i,rfl,hi⟩ <;> rcases h' with ⟨h1',h2'⟩ | ⟨h1',a',b',t',ha',hb',ua',ub',ht',i',e,hi'⟩
  ·refine List.ext_getElem? fun j=> ?_
   by_cases hj:j=0
   ·rw [hj,h2,h2']
   ·rw [List.getElem?_eq_none (by omega),List.getElem?_eq_none (by omega)]
  ·omega
  ·omega
  ·have:i=i':=by omega
   subst this
   rw [ht] at ht';cases ht'
   rw [hi] at hi'
   obtain ⟨e1,e2⟩:=Ee ua ub ua' ub' (Option.some.inj hi')
   subst e1;subst e2
   rw [← hl] at ha' hb'
   have e3:=Code.inj (by simp [hl]) ha ha'
   have e4:=Code.inj (by simp [hl]) hb hb'
   rw [← List.take_append_drop ((l.length+1)/2) l,← List.take_append_drop ((l.length+1)/2) l',e3,e4]
noncomputable def Ext (P P':List Tb):Prop:= ∀ (r:Nat) (t:Tb),P[r]? =some t→ ∃ t',P'[r]? =some t'∧t.2.1 <+: t'.2.1
theorem Ext.refl (P:List Tb):Ext P P:=fun _r t h=>⟨t,h,List.prefix_refl _⟩
theorem Ext.trans {P Q R:List Tb} (h:Ext P Q) (h':Ext Q R):Ext P R:=fun r t ht=>by
 obtain ⟨t1,h1,h2⟩:=h r t ht
 obtain ⟨t2,h3,h4⟩:=h' r t1 h1
 exact ⟨t2,h3,h2.trans h4⟩
theorem Ep {α:Type} {l l':List α} (h:l <+: l') {i:Nat} {x:α} (hi:l[i]? =some x):l'[i]? =some x:=by
 obtain ⟨r,rfl⟩:=h
 rw [List.getElem?_append_left (j7 hi)];exact hi
theorem Code.ext {P P':List Tb} (he:Ext P P'): ∀ {d row:Nat} {l:List Int} {c:Int},Code P d row l c→Code P' d row l c
 | 0,_,_,_,h=>h.elim
 | d+1,row,l,c,h=>by
  rcases h with h | ⟨h1,a,b,t,ha,hb,ua,ub,ht,i,e,hi⟩
  ·exact .inl h
  ·obtain ⟨t',h2,h3⟩:=he row t ht
   exact .inr ⟨h1,a,b,t',ha.ext he,hb.ext he,ua,ub,h2,i,e,Ep h3 hi⟩
structure m5 (P:List Tb) (cap:Int):Prop where
 ti: ∀ (r:Nat) (t:Tb),P[r]? =some t→TI t
 cap: ∀ (r:Nat) (t:Tb),P[r]? =some t→t.1=cap
theorem m5.nd {P:List Tb} {cap:Int} (h:m5 P cap):Nd P:=fun r t ht=>(h.ti r t ht).nd
theorem Ll {n:Nat} (h:2≤n) (hn:n<1000):IntKind.i64.wrap (Int.tdiv (IntKind.i64.wrap ((n:Int)+1)) 2)=(((n+1)/2:Nat):Int):=by
 rw [nx (by omega),show Int.tdiv ((n+1:Nat):Int) 2=(((n+1)/2:Nat):Int) from rfl,w64 (by omega)]
theorem sH {i j n:Nat} (h:i≤j) (h':j≤n):fi (i:Int) (j:Int) n=true:=by
 unfold fi;simp;omega
theorem Kv {j n:Nat} (h:j≤n):fi 0 (j:Int) n=true:=by
 unfold fi;simp;omega
theorem DP {α:Type} (l:List α) (k:Nat):ba l 0 (k:Int)=l.take k:=by unfold ba;simp
theorem F5 {α:Type} (l:List α) (k:Nat):ba l (k:Int) (l.length:Int)=l.drop k:=by
 unfold ba;simp only [Int.toNat_natCast];rw [List.take_of_length_le (by simp)]
noncomputable abbrev zv:((Int×List Int×List Tb)→Option (Except Int Int))→(Int×List Int×List Tb)→Option (Except Int Int):=fun k s=>fT k s.1 s.2.1 s.2.2
theorem BT {P:List Tb} {cap:Int} (hP:m5 P cap): ∀ (d M row:Nat) (l:List Int),1≤l.length→l.length≤d→l.length<1000→row+l.length≤1000000→d≤M→row+(l.length-1)≤P.length→(∀ x∈l,U32 x)→
  (∃ c,U32 c∧Code P d row l c∧aq zv M ((row:Int),l,P)=some (.ok c))∨
  ((∀ c,¬ Code P d row l c)∧ ∃ e,aq zv M ((row:Int),l,P)=some (.error e))
 | 0,_,_,_,h1,h2,_,_,_,_,_=>by omega
 | d+1,M,row,l,h1,h2,hn,hr,hM,hlen,hu=>by
  obtain ⟨M,rfl⟩: ∃ m,M=m+1:=⟨M-1,by omega⟩
  have E:aq zv (M+1) ((row:Int),l,P)=fT (aq zv M) (row:Int) l P:=aK
  rw [E]
  have IH:=fun row l=>BT hP d M row l
  generalize aq zv M=k at IH ⊢
  clear E
  unfold fT
  by_cases h:l.length=1
  ·have h0:l[0]? =some (l[0]'(by omega)):=List.getElem?_eq_getElem _
   refine .inl ⟨l[0]'(by omega),hu _ (List.getElem_mem _),.inl ⟨h,h0⟩,?_⟩
   rw [show ((l.length:Int)==1)=true by simp;omega,cond_true,o6 h0,ab]
  ·rw [show ((l.length:Int)==1)=false by simp;omega,cond_false,Ll (by omega) hn,aW (Kv (by omega)),DP,nx (by omega)]
   have hh:(l.take ((l.length+1)/2)).length=(l.length+1)/2:=by simp;omega
   have hh2:(l.drop ((l.length+1)/2)).length=l.length-(l.length+1)/2:=by simp
   rcases IH (row+1) (l.take ((l.length+1)/2)) (by omega) (by omega) (by omega) (by omega) (by omega) (by omega) (fun x hx=>hu x (List.mem_of_mem_take hx)) with ⟨a,ua,ha,ea⟩ | ⟨ha,e,ea⟩
   ·rw [ea]
    simp only [xm,ab]
    rw [aW (sH (by omega) (Nat.le_refl _)),F5,BH _ (by omega),ab,w64 (by omega)]
    rw [show ((row+1:Nat):Int)+(((l.length+1)/2-1:Nat):Int)=((row+1+((l.length+1)/2-1):Nat):Int) by omega]
    rcases IH (row+1+((l.length+1)/2-1)) (l.drop ((l.length+1)/2)) (by omega) (by omega) (by omega) (by omega) (by omega) (by omega) (fun x hx=>hu x (List.mem_of_mem_drop hx)) with ⟨b,ub,hb,eb⟩ | ⟨hb,e,eb⟩
    ·rw [eb]
     simp only [ab]
     have hrow:row<P.length:=by omega
     have hPr:P[row]? =some P[row]:=List.getElem?_eq_getElem hrow
     have hT:=hP.ti row _ hPr
     unfold iy
     rw [cP hPr,ab,FQ]
     by_cases hm:ky a b∈P[row].2.1
     ·obtain ⟨i,hi,ei⟩:=iz hm
      have:=hT.n
      refine .inl ⟨(i:Int),⟨by omega,by omega⟩,.inr ⟨by omega,a,b,P[row],ha,hb,ua,ub,hPr,i,rfl,ei⟩,?_⟩
      rw [(fB hT (qa a b)).1 i ei,ab,Bool.not_true,cond_false,ab,Kf (by omega)]
     ·refine .inr ⟨fun c hc=> ?_,⟨(row:Int),?_⟩⟩
      ·rcases hc with ⟨h',_⟩ | ⟨_,a',b',t',ha',hb',_,_,ht',i',_,hi'⟩
       ·omega
       ·rw [hPr] at ht';cases ht'
        rw [ha.fn hP.nd ha',hb.fn hP.nd hb'] at hm
        exact hm (List.mem_of_getElem? hi')
      ·rw [(fB hT (qa a b)).2 hm,ab];rfl
    ·rw [eb]
     refine .inr ⟨fun c hc=> ?_,⟨e,rfl⟩⟩
     rcases hc with ⟨h',_⟩ | ⟨_,_,b',_,_,hb',_⟩
     ·omega
     ·exact hb b' hb'
   ·rw [ea]
    refine .inr ⟨fun c hc=> ?_,⟨e,rfl⟩⟩
    rcases hc with ⟨h',_⟩ | ⟨_,a',_,_,ha',_⟩
    ·omega
    ·exact ha a' ha'
end So
end Go.Proofs.YtgcgmclghbebjaaGreat
namespace Go.Proofs.YtgcgmclghbebjaaGreat
namespace So
theorem H6 {t:Tb} (h:TI t) {k:List Int} (hk:Key k) (hr:k∈t.2.1∨(t.2.1.length:Int)<t.1):
  ∃ t' f e,∃ i:Nat,bd t k=some (t',(i:Int),f,e)∧TI t'∧t'.1=t.1∧t.2.1 <+: t'.2.1∧t'.2.1[i]? =some k∧t'.2.1.length≤t.2.1.length+1:=by
 by_cases hm:k∈t.2.1
 ·obtain ⟨i,hi,e⟩:=iz hm
  exact ⟨t,_,_,i,B8 h hk e,h,rfl,List.prefix_refl _,e,by omega⟩
 ·obtain ⟨t',e1,e2,e3,e4⟩:=tY h hk hm (hr.resolve_left hm)
  exact ⟨t',_,_,_,e1,e4,e2,⟨[k],e3.symm⟩,by rw [e3];simp,by rw [e3];simp⟩
noncomputable abbrev De:((Int×List Int×List Tb)→Option (Int×List Tb))→(Int×List Int×List Tb)→Option (Int×List Tb):=fun k s=>ez k s.1 s.2.1 s.2.2
structure Grown (P P':List Tb) (cap:Int) (lo hi:Nat):Prop where
 tabs:m5 P' cap
 ext:Ext P P'
 len:P'.length=P.length
 out: ∀ r,(r<lo∨hi≤r)→P'[r]? =P[r]?
 one: ∀ (r:Nat) (t t':Tb),P[r]? =some t→P'[r]? =some t'→t'.2.1.length≤t.2.1.length+1
theorem HQ {P:List Tb} {cap:Int} (hP:m5 P cap) {row:Nat} {t:Tb} (ht:P[row]? =some t) {a b:Int} (hr:(t.2.1.length:Int)<cap):
  ∃ c P',∃ i:Nat,fN (row:Int) a b P=some (c,P')∧c=(i:Int)∧U32 c∧Grown P P' cap row (row+1)∧ ∃ t',P'[row]? =some t'∧t'.2.1[i]? =some (ky a b):=by
 have hT:=hP.ti row t ht
 have hrow:=j7 ht
 obtain ⟨t',f,e,i,h1,h2,h3,h4,h5,h6⟩:=H6 hT (qa a b) (.inr (by rw [hP.cap row t ht];exact hr))
 have hi:=j7 h5
 have hn:=h2.n
 refine ⟨(i:Int),P.set row t',i,?_,rfl,⟨by omega,by omega⟩,⟨⟨fun r u hu=> ?_,fun r u hu=> ?_⟩,fun r u hu=> ?_,by simp,fun r hr=> ?_,fun r u u' hu hu'=> ?_⟩,t',by rw [dh hrow,if_pos rfl],h5⟩
 ·unfold fN
  rw [cP ht,ab,Pu,h1,ab,ab,Int.toNat_natCast]
  show some (IntKind.u32.wrap (i:Int),_)=_
  rw [Kf (show _∧(i:Int)≤_ by omega)]
 ·rw [dh hrow] at hu
  split at hu
  ·cases hu;exact h2
  ·exact hP.ti r u hu
 ·rw [dh hrow] at hu
  split at hu
  ·cases hu;rw [h3];exact hP.cap row t ht
  ·exact hP.cap r u hu
 ·by_cases e:row=r
  ·subst e
   rw [ht] at hu;cases hu
   exact ⟨t',by rw [dh hrow,if_pos rfl],h4⟩
  ·exact ⟨u,by rw [dh hrow,if_neg e];exact hu,List.prefix_refl _⟩
 ·rw [dh hrow,if_neg (by omega)]
 ·rw [dh hrow] at hu'
  split at hu'
  ·rename_i e
   subst e
   cases hu'
   rw [ht] at hu;cases hu;exact h6
  ·rw [hu] at hu';cases hu';omega
theorem EF {cap:Int}: ∀ (d M row:Nat) (l:List Int) (P:List Tb),m5 P cap→1≤l.length→l.length≤d→l.length<1000→row+l.length≤1000000→d≤M→row+(l.length-1)≤P.length→(∀ x∈l,U32 x)→
  (∀ (r:Nat) (t:Tb),row≤r→r<row+(l.length-1)→P[r]? =some t→(t.2.1.length:Int)<cap)→
  ∃ c P',aq De M ((row:Int),l,P)=some (c,P')∧U32 c∧Code P' d row l c∧Grown P P' cap row (row+(l.length-1))
 | 0,_,_,_,_,_,h1,h2,_,_,_,_,_,_=>by omega
 | d+1,M,row,l,P,hP,h1,h2,hn,hr,hM,hlen,hu,hroom=>by
  obtain ⟨M,rfl⟩: ∃ m,M=m+1:=⟨M-1,by omega⟩
  have E:aq De (M+1) ((row:Int),l,P)=ez (aq De M) (row:Int) l P:=aK
  rw [E]
  have IH:=fun row l P=>EF (cap:=cap) d M row l P
  generalize aq De M=k at IH ⊢
  clear E
  unfold ez
  by_cases h:l.length=1
  ·have h0:l[0]? =some (l[0]'(by omega)):=List.getElem?_eq_getElem _
   refine ⟨l[0]'(by omega),P,?_,hu _ (List.getElem_mem _),.inl ⟨h,h0⟩,⟨hP,Ext.refl P,rfl,fun _ _=>rfl,fun r t t' e e'=>by rw [e] at e';cases e';omega⟩⟩
   rw [show ((l.length:Int)==1)=true by simp;omega,cond_true,o6 h0,ab]
  ·rw [show ((l.length:Int)==1)=false by simp;omega,cond_false,Ll (by omega) hn,aW (Kv (by omega)),DP,nx (by omega)]
   have hh:(l.take ((l.length+1)/2)).length=(l.length+1)/2:=by simp;omega
   have hh2:(l.drop ((l.length+1)/2)).length=l.length-(l.length+1)/2:=by simp
   obtain ⟨a,P1,e1,ua,ca,g1⟩:=IH (row+1) (l.take ((l.length+1)/2)) P hP (by omega) (by omega) (by omega) (by omega) (by omega) (by omega) (fun x hx=>hu x (List.mem_of_mem_take hx)) (fun r t hr1 hr2=>hroom r t (by omega) (by omega))
   rw [e1,ab,aW (sH (by omega) (Nat.le_refl _)),F5,BH _ (by omega),ab,w64 (by omega)]
   rw [show ((row+1:Nat):Int)+(((l.length+1)/2-1:Nat):Int)=((row+1+((l.length+1)/2-1):Nat):Int) by omega]
   have hl1:=g1.len
   obtain ⟨b,P2,e2,ub,cb,g2⟩:=IH (row+1+((l.length+1)/2-1)) (l.drop ((l.length+1)/2)) P1 g1.tabs (by omega) (by omega) (by omega) (by omega) (by omega) (by omega) (fun x hx=>hu x (List.mem_of_mem_drop hx))
    (fun r t hr1 hr2 ht=>hroom r t (by omega) (by omega) (by rw [← g1.out r (by omega)];exact ht))
   rw [e2,ab]
   have hl2:=g2.len
   have hPr:P[row]? =some (P[row]'(by omega)):=List.getElem?_eq_getElem _
   have hP2:P2[row]? =some (P[row]'(by omega)):=by rw [g2.out row (by omega),g1.out row (by omega)];exact hPr
   obtain ⟨c,P3,i,e3,ec,uc,g3,t',ht',hk⟩:=HQ g2.tabs hP2 (a:=a) (b:=b) (hroom row _ (Nat.le_refl _) (by omega) hPr)
   rw [e3,ab]
   refine ⟨c,P3,rfl,uc,.inr ⟨by omega,a,b,t',(ca.ext g2.ext).ext g3.ext,cb.ext g3.ext,ua,ub,ht',i,ec,hk⟩,⟨g3.tabs,(g1.ext.trans g2.ext).trans g3.ext,by rw [g3.len,hl2,hl1],fun r hr=> ?_,fun r t t3 ht ht3=> ?_⟩⟩
   ·rw [g3.out r (by omega),g2.out r (by omega),g1.out r (by omega)]
   ·by_cases er:r=row
    ·subst er
     rw [hPr] at ht;cases ht
     exact g3.one r _ _ hP2 ht3
    ·rw [g3.out r (by omega)] at ht3
     by_cases e':row+1+((l.length+1)/2-1)≤r
     ·rw [← g1.out r (by omega)] at ht
      exact g2.one r t t3 ht ht3
     ·rw [g2.out r (by omega)] at ht3
      exact g1.one r t t3 ht ht3
/-! all of a vector -/
noncomputable def iO (P:List Tb) (l:List Int) (c:Int):Prop:=(l.length=1∧ ∃ x t,∃ i:Nat,l[0]? =some x∧P[0]? =some t∧c=(i:Int)∧t.2.1[i]? =some (ky x 0))∨(2≤l.length∧Code P l.length 0 l c)
theorem iO.top {P:List Tb} {l:List Int} {c:Int} (h:iO P l c): ∃ t,∃ i:Nat,P[0]? =some t∧c=(i:Int)∧i<t.2.1.length:=by
 rcases h with ⟨_,x,t,i,_,ht,e,hi⟩ | ⟨h2,h⟩
 ·exact ⟨t,i,ht,e,j7 hi⟩
 ·obtain ⟨d,hd⟩: ∃ d,l.length=d+1:=⟨l.length-1,by omega⟩
  rw [hd] at h
  rcases h with ⟨h',_⟩ | ⟨_,a,b,t,_,_,_,_,ht,i,e,hi⟩
  ·omega
  ·exact ⟨t,i,ht,e,j7 hi⟩
theorem iO.inj {P:List Tb} {l l':List Int} {c:Int} (hl:l.length=l'.length) (hu: ∀ x∈l,U32 x) (hu': ∀ x∈l',U32 x) (h:iO P l c) (h':iO P l' c):l=l':=by
 rcases h with ⟨h1,x,t,i,h2,h3,h4,h5⟩ | ⟨h1,h2⟩ <;> rcases h' with ⟨h1',x',t',i',h2',h3',h4',h5'⟩ | ⟨h1',h2'⟩
 ·have:i=i':=by omega
  subst this
  rw [h3] at h3';cases h3'
  rw [h5] at h5'
  have e:=(Ee (hu x (List.mem_of_getElem? h2)) (by decide) (hu' x' (List.mem_of_getElem? h2')) (by decide) (Option.some.inj h5')).1
  subst e
  refine List.ext_getElem? fun j=> ?_
  by_cases hj:j=0
  ·rw [hj,h2,h2']
  ·rw [List.getElem?_eq_none (by omega),List.getElem?_eq_none (by omega)]
 ·omega
 ·omega
 ·rw [← hl] at h2';exact h2.inj hl h2'
theorem iO.ext {P P':List Tb} (he:Ext P P') {l:List Int} {c:Int} (h:iO P l c):iO P' l c:=by
 rcases h with ⟨h1,x,t,i,h2,h3,h4,h5⟩ | ⟨h1,h2⟩
 ·obtain ⟨t',e1,e2⟩:=he 0 t h3
  exact .inl ⟨h1,x,t',i,h2,e1,h4,Ep e2 h5⟩
 ·exact .inr ⟨h1,h2.ext he⟩
theorem iO.fn {P:List Tb} (nd:Nd P) {l:List Int} {c c':Int} (h:iO P l c) (h':iO P l c'):c=c':=by
 rcases h with ⟨h1,x,t,i,h2,h3,h4,h5⟩ | ⟨h1,h2⟩ <;> rcases h' with ⟨h1',x',t',i',h2',h3',h4',h5'⟩ | ⟨h1',h2'⟩
 ·rw [h3] at h3';cases h3'
  rw [h2] at h2';cases h2'
  rw [h4,h4',AD (nd 0 t h3) h5 h5']
 ·omega
 ·omega
 ·exact h2.fn nd h2'
theorem IS {P:List Tb} {cap:Int} (hP:m5 P cap) {l:List Int} (h1:1≤l.length) (hn:l.length<1000) (hlen:max 1 (l.length-1)≤P.length) (hu: ∀ x∈l,U32 x):
  (∃ c,U32 c∧iO P l c∧gU l P=some (.ok c))∨((∀ c,¬ iO P l c)∧ ∃ e,gU l P=some (.error e)):=by
 unfold gU
 by_cases h:l.length=1
 ·have h0:l[0]? =some (l[0]'(by omega)):=List.getElem?_eq_getElem _
  have hP0:P[0]? =some (P[0]'(by omega)):=List.getElem?_eq_getElem _
  have hT:=hP.ti 0 _ hP0
  rw [show ((l.length:Int)==1)=true by simp;omega,cond_true,o6 h0,ab]
  unfold iy
  rw [o6 hP0,ab,FQ]
  by_cases hm:ky (l[0]'(by omega)) 0∈(P[0]'(by omega)).2.1
  ·obtain ⟨i,hi,ei⟩:=iz hm
   have:=hT.n
   refine .inl ⟨(i:Int),⟨by omega,by omega⟩,.inl ⟨h,_,_,i,h0,hP0,rfl,ei⟩,?_⟩
   rw [(fB hT (qa _ _)).1 i ei,ab]
   simp only [Bool.not_true,cond_false]
   rw [Kf (by omega)];rfl
  ·refine .inr ⟨fun c hc=> ?_,⟨((0:Nat):Int),?_⟩⟩
   ·rcases hc with ⟨_,x,t,i,hx,ht,_,hi⟩ | ⟨h',_⟩
    ·rw [h0] at hx;cases hx
     rw [hP0] at ht;cases ht
     exact hm (List.mem_of_getElem? hi)
    ·omega
   ·rw [(fB hT (qa _ _)).2 hm,ab];rfl
 ·rw [show ((l.length:Int)==1)=false by simp;omega,cond_false]
  rcases BT hP l.length az 0 l h1 (Nat.le_refl _) hn (by omega) (by show l.length≤2^64;omega) (by omega) hu with ⟨c,uc,hc,e⟩ | ⟨hc,e,ee⟩
  ·refine .inl ⟨c,uc,.inr ⟨by omega,hc⟩,?_⟩
   rw [show ((0:Nat):Int)=0 from rfl] at e
   have e0:ka 0 l P=some (.ok c):=e
   rw [e0];rfl
  ·refine .inr ⟨fun c h'=> ?_,e,?_⟩
   ·rcases h' with ⟨h',_⟩ | ⟨_,h'⟩
    ·omega
    ·exact hc c h'
   ·rw [show ((0:Nat):Int)=0 from rfl] at ee
    have e0:ka 0 l P=some (.error e):=ee
    rw [e0];rfl
theorem LA {P:List Tb} {cap:Int} (hP:m5 P cap) {l:List Int} (h1:1≤l.length) (hn:l.length<1000) (hlen:max 1 (l.length-1)≤P.length) (hu: ∀ x∈l,U32 x)
  (hroom: ∀ (r:Nat) (t:Tb),P[r]? =some t→(t.2.1.length:Int)<cap):
  ∃ c P',gM l P=some (c,P')∧iO P' l c∧ ∃ hi,Grown P P' cap 0 hi:=by
 unfold gM
 by_cases h:l.length=1
 ·have h0:l[0]? =some (l[0]'(by omega)):=List.getElem?_eq_getElem _
  have hP0:P[0]? =some (P[0]'(by omega)):=List.getElem?_eq_getElem _
  rw [show ((l.length:Int)==1)=true by simp;omega,cond_true,o6 h0,ab]
  obtain ⟨c,P',i,e,ec,uc,g,t',ht',hk⟩:=HQ hP hP0 (a:=l[0]'(by omega)) (b:=0) (hroom 0 _ hP0)
  rw [show ((0:Nat):Int)=0 from rfl] at e
  rw [e,ab]
  exact ⟨c,P',rfl,.inl ⟨h,_,t',i,h0,ht',ec,hk⟩,_,g⟩
 ·rw [show ((l.length:Int)==1)=false by simp;omega,cond_false]
  obtain ⟨c,P',e,uc,hc,g⟩:=EF (cap:=cap) l.length az 0 l P hP h1 (Nat.le_refl _) hn (by omega) (by show l.length≤2^64;omega) (by omega) hu (fun r t _ _=>hroom r t)
  rw [show ((0:Nat):Int)=0 from rfl] at e
  have e0:kB 0 l P=some (c,P'):=e
  rw [e0,ab]
  exact ⟨c,P',rfl,.inr ⟨by omega,hc⟩,_,g⟩
/-! how far numbers are above their ranges' beginnings -/
noncomputable def nB (s:List Fd) (v:List Int):List Int:=List.zipWith (fun f n=>n-f.1) s v
theorem kW {s:List Fd} {v:List Int} (h:v.length=s.length):(nB s v).length=s.length:=by simp [nB,h]
theorem xr {s:List Fd} {v:List Int} (h:v.length=s.length) {i:Nat} (hi:i<s.length):(nB s v)[i]? =some ((v[i]'(by omega))-s[i].1):=by
 unfold nB
 rw [List.getElem?_zipWith,List.getElem?_eq_getElem hi,List.getElem?_eq_getElem (show i<v.length by omega)]
theorem sP {s:List Fd} (hs:Fds s) {v:List Int} (hv:In s v): ∀ x∈nB s v,U32 x:=by
 intro x hx
 obtain ⟨i,hi,e⟩:=iz hx
 rw [kW hv.len] at hi
 rw [xr hv.len hi] at e
 have h1:=hv.each i hi
 have h2:=hs.each s[i] (List.getElem_mem hi)
 rw [← Option.some.inj e]
 constructor <;> omega
theorem EB {s:List Fd} {v v':List Int} (hv:In s v) (hv':In s v') (h:nB s v=nB s v'):v=v':=by
 refine List.ext_getElem (by rw [hv.len,hv'.len]) fun i h1 h2=> ?_
 have hi:i<s.length:=by rw [← hv.len];exact h1
 have e:=congrArg (fun l=>l[i]?) h
 simp only [xr hv.len hi,xr hv'.len hi,Option.some.injEq] at e
 omega
theorem HF {s:List Fd} (hs:Fds s) {v:List Int} (hv:In s v):jW s v=some (nB s v):=by
 have hf:=hs.few
 have hl:=hv.len
 unfold jW
 refine ld (fun i=>((nB s v).take i,(i:Int))) s.length (by simp) (by omega) (fun i hi k=> ?_) (fun k=> ?_)
 ·have hi':i<v.length:=by omega
  have h1:=hv.each i hi
  have h2:=hs.each s[i] (List.getElem_mem hi)
  have hlen:((nB s v).take i).length=i:=by rw [List.length_take,kW hl];omega
  simp only [mB,hl,gi hi,cond_true,bZ hi,bZ hi',ab,nx (show i<9223372036854775807 by omega)]
  rw [w64 (by omega),Kf (by omega),aW (cr (by rw [hlen];simp;omega) (by rw [hlen];simp;omega))]
  rw [List.take_add_one,xr hl hi];rfl
 ·simp only [mB,hl,iS (Nat.lt_irrefl _),cond_false]
  rw [List.take_of_length_le (by rw [kW hl];omega)]
/-! the tree store -/
abbrev Tr:=List Tb×List Int
structure OkT (s:List Fd) (cap:Int) (t:Tr) (V:List (List Int)) (g:Gf):Prop where
 tabs:m5 t.1 cap
 len:t.1.length=max 1 (s.length-1)
 few: ∀ (r:Nat) (x:Tb),t.1[r]? =some x→x.2.1.length≤V.length
 top: ∀ (x:Tb),t.1[0]? =some x→x.2.1.length=V.length
 ins: ∀ v∈V,In s v
 nd:V.Nodup
 code: ∀ (i:Nat) v,V[i]? =some v→iO t.1 (nB s v) (i:Int)
 flags:Flags V g t.2
theorem OkT.Ns {s:List Fd} {cap:Int} {t:Tr} {V:List (List Int)} {g:Gf} (h:OkT s cap t V g): ∃ x,t.1[0]? =some x∧x.2.1.length=V.length∧TI x∧x.1=cap:=by
 have h0:t.1[0]? =some (t.1[0]'(by rw [h.len];omega)):=List.getElem?_eq_getElem _
 exact ⟨_,h0,h.top _ h0,h.tabs.ti 0 _ h0,h.tabs.cap 0 _ h0⟩
theorem zA {s:List Fd} (hs:Fds s) (most:Int):tC s most=if most<0∨1048576<most then some (([],[]),1) else some ((List.replicate (max 1 (s.length-1)) (most,[],List.replicate 8 0),[]),0):=by
 have hf:=hs.few
 unfold tC wH
 rw [Ar]
 by_cases h:most<0∨1048576<most
 ·rw [if_pos h,if_pos h];rfl
 ·rw [if_neg h,if_neg h,ab,ab]
  simp only [show ((0:Int) != 0)=false from rfl,cond_false]
  rw [BH _ (by omega),ab]
  refine ld (fun i=>(List.replicate i (most,[],List.replicate 8 0),(i:Int))) (max 1 (s.length-1)) (by simp) (by omega) (fun i hi k=> ?_) (fun k=> ?_)
  ·simp only [rU]
   rw [decide_eq_true (by omega),cond_true,aW (cr (by simp;omega) (by simp;omega)),nx (by omega)]
   rw [← List.replicate_succ' (n:=i)]
  ·simp only [rU]
   rw [decide_eq_false (by omega),cond_false]
theorem Iv (s:List Fd) {most:Int} (h0:0≤most) (h1:most≤1048576):OkT s most (List.replicate (max 1 (s.length-1)) (most,[],List.replicate 8 0),[]) [] (fun _ _=>false):=by
 have hr: ∀ (r:Nat) (x:Tb),(List.replicate (max 1 (s.length-1)) ((most,[],List.replicate 8 0):Tb))[r]? =some x→x=(most,[],List.replicate 8 0):=by
  intro r x hx
  rw [List.getElem?_replicate] at hx
  split at hx
  ·exact (Option.some.inj hx).symm
  ·cases hx
 exact ⟨⟨fun r x hx=>by rw [hr r x hx];exact AH h0 h1,fun r x hx=>by rw [hr r x hx]⟩,by simp,fun r x hx=>by have:=hr r x hx;subst this;simp,fun x hx=>by have:=hr 0 x hx;subst this;rfl,fun v hv=>by simp at hv,List.nodup_nil,fun i v h=>by simp at h,Flags.nil⟩
theorem yR {s:List Fd} (hs:fy s) {cap:Int} {t:Tr} {V:List (List Int)} {g:Gf} (h:OkT s cap t V g) {v:List Int} (hv:In s v):
  (∃ i:Nat,i<V.length∧V[i]? =some v∧v∈V∧jS t s v=some ((i:Int),true))∨(v∉V∧jS t s v=some (0,false)):=by
 have hf:=hs.few
 have hp:=hs.pos
 have hnl:=kW hv.len
 unfold jS
 rw [HF hs.fds hv,ab]
 rcases IS h.tabs (l:=nB s v) (by omega) (by omega) (by rw [h.len,hnl];omega) (sP hs.fds hv) with ⟨c,uc,hc,e⟩ | ⟨hc,e,ee⟩
 ·obtain ⟨x,i,hx,rfl,hi⟩:=hc.top
  rw [h.top x hx] at hi
  have hVi:V[i]? =some V[i]:=List.getElem?_eq_getElem hi
  have hin:=h.ins _ (List.getElem_mem hi)
  have:=(h.code i _ hVi).inj (by rw [kW hin.len,hnl]) (sP hs.fds hin) (sP hs.fds hv) hc
  have:=EB hin hv this
  have hu:=uc.2
  rw [this] at hVi
  refine .inl ⟨i,hi,hVi,List.mem_of_getElem? hVi,?_⟩
  rw [e]
  simp only [Di,ab]
  rw [w64 (by omega)]
 ·refine .inr ⟨fun hm=> ?_,by rw [ee];rfl⟩
  obtain ⟨i,hi,e'⟩:=iz hm
  exact hc _ (h.code i v e')
theorem G0 {l:List Tb} (h:l.length<1000000):cz l=some l:=by
 unfold cz
 rw [aW (cr (by omega) (by omega))]
theorem Jq {s:List Fd} (hs:fy s) {cap:Int} {t:Tr} {V:List (List Int)} {g:Gf} (h:OkT s cap t V g) {v:List Int} (hv:In s v):
  ∃ t',nQ t s v=some (t',(np cap V v).2)∧OkT s cap t' (np cap V v).1 g:=by
 have hf:=hs.few
 have hp:=hs.pos
 have hnl:=kW hv.len
 obtain ⟨x0,ht0,hl0,hT0,hc0⟩:=h.Ns
 unfold nQ np
 rw [kQ s v (by have:=hv.len;omega),j2.2 hv,ab,show ((0:Int) != 0)=false from rfl,cond_false]
 rcases yR hs h hv with ⟨i,hi,e,hm,ef⟩ | ⟨hm,ef⟩
 ·rw [ef,ab,if_pos hm];exact ⟨t,rfl,h⟩
 ·rw [ef,ab,if_neg hm]
  simp only [cond_false]
  rw [o6 ht0,ab]
  have hM:jN t=some (V.length:Int):=by
   unfold jN
   rw [show ((t.1.length:Int)==0)=false from beq_eq_false_iff_ne.2 (by rw [h.len];omega),cond_false,o6 ht0,ab]
   unfold oV gS
   rw [ab,ab,hl0]
  rw [hM,ab,hc0]
  by_cases hc:cap≤(V.length:Int)
  ·rw [decide_eq_true hc,if_pos hc];exact ⟨t,rfl,h⟩
  ·rw [decide_eq_false hc,if_neg hc,cond_false,G0 (by rw [h.len];omega),ab,HF hs.fds hv,ab]
   obtain ⟨c,P',e1,hcw,hi',gr⟩:=LA h.tabs (l:=nB s v) (by omega) (by omega) (by rw [h.len,hnl];omega) (sP hs.fds hv) (fun r x hx=>by have:=h.few r x hx;omega)
   have hfl:=h.flags.len
   have hVl:V.length≤1048576:=by have:=hT0.n;omega
   rw [e1,ab,aW (tH _),xo,aW (cr (by simp;omega) (by simp;omega))]
   -- the new place
   obtain ⟨x',i,hx',ec,hi''⟩:=hcw.top
   have hone:=gr.one 0 x0 x' ht0 hx'
   have hge:V.length≤i:=by
    rcases Nat.lt_or_ge i V.length with hlt | hge
    ·exfalso
     have hVi:V[i]? =some V[i]:=List.getElem?_eq_getElem hlt
     have hin:=h.ins _ (List.getElem_mem hlt)
     rw [ec] at hcw
     have:=((h.code i _ hVi).ext gr.ext).inj (by rw [kW hin.len,hnl]) (sP hs.fds hin) (sP hs.fds hv) hcw
     have:=EB hin hv this
     exact hm (this▸List.getElem_mem hlt)
    ·exact hge
   have hi3:i=V.length:=by omega
   refine ⟨(P',t.2++[0]),rfl,⟨gr.tabs,by rw [gr.len,h.len],fun r x hx=> ?_,fun x hx=> ?_,fun u hu=> ?_,?_,fun j u hu=> ?_,h.flags.add hm⟩⟩
   ·have hr:r<t.1.length:=by rw [← gr.len];exact j7 hx
    have:=gr.one r _ x (List.getElem?_eq_getElem hr) hx
    have:=h.few r _ (List.getElem?_eq_getElem hr)
    simp;omega
   ·rw [hx'] at hx;cases hx
    simp;omega
   ·rcases List.mem_append.1 hu with hu | hu
    ·exact h.ins u hu
    ·simp at hu;subst hu;exact hv
   ·exact List.nodup_append.2 ⟨h.nd,by simp,fun a ha b hb=>by simp at hb;subst hb;exact fun e=>hm (e▸ha)⟩
   ·rw [List.getElem?_append] at hu
    split at hu
    ·exact (h.code j u hu).ext gr.ext
    ·have hj:j-V.length=0:=by
      by_cases e:j-V.length=0
      ·exact e
      ·rw [List.getElem?_eq_none (by simp;omega)] at hu;cases hu
     rw [hj] at hu
     simp at hu;subst hu
     rw [ec,hi3] at hcw
     rw [show j=V.length by omega];exact hcw
theorem JO {s:List Fd} (hs:fy s) {cap:Int} {t:Tr} {V:List (List Int)} {g:Gf} (h:OkT s cap t V g) {v:List Int} (hv:In s v):nS t s v=some (decide (v∈V),0):=by
 unfold nS
 have:=hs.few
 rw [kQ s v (by have:=hv.len;omega),j2.2 hv,ab,show ((0:Int) != 0)=false from rfl,cond_false]
 rcases yR hs h hv with ⟨i,_,_,hm,e⟩ | ⟨hm,e⟩
 ·rw [e,ab,decide_eq_true hm]
 ·rw [e,ab,decide_eq_false hm]
theorem BZ {s:List Fd} (hs:fy s) {cap:Int} {t:Tr} {V:List (List Int)} {g:Gf} (h:OkT s cap t V g) {v:List Int} (hv:In s v) (flag:Int):
  (cp V v flag≠0∧px t s v flag=some (0,cp V v flag))∨(cp V v flag=0∧(flag=0∨flag=1)∧ ∃ i:Nat,i<V.length∧V[i]? =some v∧px t s v flag=some ((i:Int),0)):=by
 unfold px cp
 have:=hs.few
 rw [kQ s v (by have:=hv.len;omega),j2.2 hv,ab,show ((0:Int) != 0)=false from rfl,cond_false]
 simp only [bF]
 rcases nF flag with hb | hb
 ·rw [if_pos hb,show (flag != 0&&flag != 1)=true by simp;omega]
  exact .inl ⟨by decide,rfl⟩
 ·rw [if_neg (show ¬ (flag<0∨1<flag) by omega),show (flag != 0&&flag != 1)=false by rcases hb with rfl | rfl <;> rfl,cond_false]
  rcases yR hs h hv with ⟨i,hi,e,hm,ef⟩ | ⟨hm,ef⟩
  ·rw [ef,ab,if_pos hm];exact .inr ⟨rfl,hb,i,hi,e,rfl⟩
  ·rw [ef,ab,if_neg hm];exact .inl ⟨by decide,rfl⟩
theorem Ip {s:List Fd} (hs:fy s) {cap:Int} {t:Tr} {V:List (List Int)} {g:Gf} (h:OkT s cap t V g) {v:List Int} (hv:In s v) (flag:Int):
  ∃ t',tu t s v flag=some (t',cp V v flag)∧OkT s cap t' V (BB V g v flag):=by
 obtain ⟨x0,ht0,hl0,hT0,hc0⟩:=h.Ns
 unfold tu BB
 rcases BZ hs h hv flag with ⟨hc,e⟩ | ⟨hc,hb,i,hi,ev,e⟩
 ·rw [e,ab,if_neg hc]
  simp only [show (cp V v flag != 0)=true by simpa using hc,cond_true]
  exact ⟨t,rfl,h⟩
 ·have hfl:=h.flags.len
  have:=hT0.n
  rw [e,ab,if_pos hc,hc]
  simp only [show ((0:Int) != 0)=false from rfl,cond_false]
  rw [uQ (by omega),ab,cP (h.flags.at_ i v ev),ab,aW (decide_eq_true (by omega)),ab,Int.toNat_natCast]
  refine ⟨(t.1,t.2.set i (fl (g false v|| !(flag==1)) (g true v||(flag==1)))),?_,⟨h.tabs,h.len,h.few,h.top,h.ins,h.nd,h.code,h.flags.set h.nd ev _⟩⟩
  have hh:=FY (g false v) (g true v)
  rcases hb with rfl | rfl
  ·rw [hh.2.2.1];rfl
  ·rw [hh.2.2.2];rfl
theorem JF {s:List Fd} (hs:fy s) {cap:Int} {t:Tr} {V:List (List Int)} {g:Gf} (h:OkT s cap t V g) {v:List Int} (hv:In s v) (flag:Int):
  tN t s v flag=some (BG V g v flag,cp V v flag):=by
 unfold tN BG
 rcases BZ hs h hv flag with ⟨hc,e⟩ | ⟨hc,hb,i,hi,ev,e⟩
 ·rw [e,ab,if_neg hc]
  simp only [show (cp V v flag != 0)=true by simpa using hc,cond_true]
 ·rw [e,ab,if_pos hc,hc]
  simp only [show ((0:Int) != 0)=false from rfl,cond_false]
  rw [cP (h.flags.at_ i v ev),ab,aW (decide_eq_true (by omega))]
  have hh:=Fh (g false v) (g true v)
  rcases hb with rfl | rfl
  ·rw [hh.2.2.2.2.1];rfl
  ·rw [hh.2.2.2.2.2];rfl
theorem GW {s:List Fd} {cap:Int} {t:Tr} {V:List (List Int)} {g:Gf} (h:OkT s cap t V g):jN t=some (V.length:Int):=by
 obtain ⟨x0,ht0,hl0,hT0,hc0⟩:=h.Ns
 unfold jN
 rw [show ((t.1.length:Int)==0)=false from beq_eq_false_iff_ne.2 (by rw [h.len];omega),cond_false,o6 ht0,ab]
 unfold oV gS
 rw [ab,ab,hl0]
end So
end Go.Proofs.YtgcgmclghbebjaaGreat
namespace Go.Proofs.YtgcgmclghbebjaaGreat
namespace So
/-! places as bytes -/
noncomputable def b64 (a:Int) (k:Nat):Int:=IntKind.u8.wrap (ar .i64 a (k:Int))
noncomputable def le4 (n:Nat):List Int:=[b64 n 0,b64 n 8,b64 n 16,b64 n 24]
theorem IW (n:Nat):b64 n 0=(n:Int)%256∧b64 n 8=(n:Int)/256%256∧b64 n 16=(n:Int)/65536%256∧b64 n 24=(n:Int)/16777216%256:=by
 refine ⟨?_,?_,?_,?_⟩
 ·show IntKind.u8.wrap ((n:Int)/1)=_
  rw [IntKind.wrap_u8];omega
 ·show IntKind.u8.wrap ((n:Int)/256)=_
  rw [IntKind.wrap_u8]
 ·show IntKind.u8.wrap ((n:Int)/65536)=_
  rw [IntKind.wrap_u8]
 ·show IntKind.u8.wrap ((n:Int)/16777216)=_
  rw [IntKind.wrap_u8]
theorem Qh {a b:Nat} (ha:a<4294967296) (hb:b<4294967296) (h:le4 a=le4 b):a=b:=by
 obtain ⟨a0,a1,a2,a3⟩:=IW a
 obtain ⟨b0,b1,b2,b3⟩:=IW b
 simp only [le4,List.cons.injEq,and_true] at h
 omega
theorem QU (n:Nat):By (le4 n):=fun x hx=>by
 simp only [le4,List.mem_cons,List.not_mem_nil,or_false] at hx
 obtain ⟨a0,a1,a2,a3⟩:=IW n
 rcases hx with rfl | rfl | rfl | rfl <;> omega
theorem Ls (row:List Int) (n:Nat) (hr:row.length<100000):jk row [(n:Int)]=some (row++le4 n):=by
 have h1: ∀ k:(List Int×Int)→Option (List Int),aq (kj 0 k (n:Int)) az (row,0)=k (row++le4 n,1):=by
  intro k
  refine ld (fun i=>(row++(le4 n).take i,(i:Int))) 4 (by simp) (by omega) (fun i hi k'=> ?_) (fun k'=> ?_)
  ·unfold kj
   dsimp only
   have hl:(row++(le4 n).take i).length≤row.length+4:=by
    rw [List.length_append,List.length_take];show _+min i 4≤_;omega
   rw [decide_eq_true (show (i:Int)<4 by omega),cond_true,w64 (show _∧8*(i:Int)≤_ by omega),aW (decide_eq_true (show (0:Int)≤8*(i:Int) by omega)),aW (cr (by simp only [List.length_singleton];omega) (by simp only [List.length_singleton];omega)),nx (show i<9223372036854775807 by omega),List.append_assoc]
   congr 3
   match i,hi with
   | 0,_=>rfl
   | 1,_=>rfl
   | 2,_=>rfl
   | 3,_=>rfl
   | _+4,hi=>omega
  ·unfold kj
   dsimp only
   rw [show decide (((4:Nat):Int)<4)=false from rfl,cond_false,List.take_of_length_le (show (le4 n).length≤4 from Nat.le_refl 4)]
   rfl
 unfold jk
 refine ld (fun i=>(if i=0 then row else row++le4 n,(i:Int))) 1 rfl (by omega) (fun i hi k=> ?_) (fun k=> ?_)
 ·have:i=0:=by omega
  subst this
  unfold nD
  dsimp only
  rw [show decide (((0:Nat):Int)<(([(n:Int)]:List Int).length:Int))=true from rfl,cond_true,show idx [(n:Int)] ((0:Nat):Int)=some (n:Int) from rfl,ab]
  exact h1 k
 ·unfold nD
  dsimp only
  rw [show decide (((1:Nat):Int)<(([(n:Int)]:List Int).length:Int))=false from rfl,cond_false]
  rfl
noncomputable def rowOf (ps:List Nat):List Int:=ps.flatMap le4
theorem wG (ps:List Nat):(rowOf ps).length=4*ps.length:=by
 induction ps with
 | nil=>rfl
 | cons p ps ih=>simp only [rowOf,List.flatMap_cons,List.length_append,List.length_cons] at *; rw [ih];show 4+_=_;omega
theorem zD (ps:List Nat) (n:Nat):rowOf (ps++[n])=rowOf ps++le4 n:=by simp [rowOf]
theorem wF: ∀ {a b:List Nat},a.length=b.length→(∀ x∈a,x<4294967296)→(∀ x∈b,x<4294967296)→rowOf a=rowOf b→a=b
 | [],[],_,_,_,_=>rfl
 | [],_::_,h,_,_,_=>by simp at h
 | _::_,[],h,_,_,_=>by simp at h
 | a::aa,b::bb,h,ha,hb,e=>by
  have e':=List.append_inj (show le4 a++rowOf aa=le4 b++rowOf bb from e) rfl
  rw [Qh (ha a (by simp)) (hb b (by simp)) e'.1,wF (by simpa using h) (fun x hx=>ha x (by simp [hx])) (fun x hx=>hb x (by simp [hx])) e'.2]
theorem B5 {ps:List Nat} (h:ps.length<100):Key (rowOf ps):=by
 refine ⟨fun x hx=> ?_,by rw [wG];omega⟩
 simp only [rowOf,List.mem_flatMap] at hx
 obtain ⟨n,_,hx⟩:=hx
 exact QU n x hx
/-! parts of vectors -/
noncomputable def ch {α:Type} (l:List α) (i:Nat):List α:=(l.drop (2*i)).take 2
noncomputable def nch (s:List Fd):Nat:=(s.length+1)/2
theorem Aa {α:Type} (l:List α) {n i:Nat} (hn:n=l.length) (h:2*i<n):ba l ((2*i:Nat):Int) ((min n (2*i+2):Nat):Int)=ch l i:=by
 unfold ba ch
 rw [Int.toNat_natCast,Int.toNat_natCast]
 by_cases h':2*i+2≤n
 ·rw [show min n (2*i+2)-2*i=2 by omega]
 ·rw [List.take_of_length_le (by simp;omega),List.take_of_length_le (by simp;omega)]
theorem xi {s:List Fd} {v:List Int} (h:In s v) (i:Nat):In (ch s i) (ch v i):=(h.drop (2*i)).take 2
theorem zC {s:List Fd} (h:Fds s) (i:Nat):Fds (ch s i):=(h.drop (2*i)).take 2
theorem QQ {l l':List Int} {n:Nat} (hl:l.length=n) (hl':l'.length=n) (h: ∀ i,i<(n+1)/2→ch l i=ch l' i):l=l':=by
 refine List.ext_getElem? fun k=> ?_
 by_cases hk:k<n
 ·have e:=congrArg (fun x=>x[k%2]?) (h (k/2) (by omega))
  simp only [ch,List.getElem?_take,List.getElem?_drop] at e
  rw [if_pos (by omega),if_pos (by omega),Nat.div_add_mod] at e
  exact e
 ·rw [List.getElem?_eq_none (by omega),List.getElem?_eq_none (by omega)]
structure Pl (P:List Tb) (s:List Fd) (v:List Int) (m:Nat) (ps:List Nat):Prop where
 len:ps.length=m
 at_: ∀ i,i<m→ ∃ p t,ps[i]? =some p∧P[i]? =some t∧t.2.1[p]? =some (enc (ch s i) (ch v i))
theorem Pl.fn {P:List Tb} (nd:Nd P) {s:List Fd} {v:List Int} {m:Nat} {ps ps':List Nat} (h:Pl P s v m ps) (h':Pl P s v m ps'):ps=ps':=by
 refine List.ext_getElem? fun i=> ?_
 by_cases hi:i<m
 ·obtain ⟨p,t,e1,e2,e3⟩:=h.at_ i hi
  obtain ⟨p',t',e1',e2',e3'⟩:=h'.at_ i hi
  rw [e2] at e2';cases e2'
  rw [e1,e1',AD (nd i t e2) e3 e3']
 ·rw [List.getElem?_eq_none (by have:=h.len;omega),List.getElem?_eq_none (by have:=h'.len;omega)]
theorem Pl.inj {P:List Tb} {s:List Fd} {v v':List Int} (hv:In s v) (hv':In s v') {ps:List Nat} (h:Pl P s v (nch s) ps) (h':Pl P s v' (nch s) ps):v=v':=by
 refine QQ hv.len hv'.len fun i hi=> ?_
 obtain ⟨p,t,e1,e2,e3⟩:=h.at_ i hi
 obtain ⟨p',t',e1',e2',e3'⟩:=h'.at_ i hi
 rw [e2] at e2';cases e2'
 rw [e1] at e1';cases e1'
 rw [e3] at e3'
 exact Ho (xi hv i) (xi hv' i) (Option.some.inj e3')
theorem Pl.ext {P P':List Tb} (he:Ext P P') {s:List Fd} {v:List Int} {m:Nat} {ps:List Nat} (h:Pl P s v m ps):Pl P' s v m ps:=
 ⟨h.len,fun i hi=>by
  obtain ⟨p,t,e1,e2,e3⟩:=h.at_ i hi
  obtain ⟨t',h1,h2⟩:=he i t e2
  exact ⟨p,t',e1,h1,Ep h2 e3⟩⟩
theorem Pl.snoc {P:List Tb} {s:List Fd} {v:List Int} {m p:Nat} {t:Tb} {ps:List Nat} (h:Pl P s v m ps) (ht:P[m]? =some t) (hp:t.2.1[p]? =some (enc (ch s m) (ch v m))):Pl P s v (m+1) (ps++[p]):=by
 refine ⟨by simp [h.len],fun i hi=> ?_⟩
 by_cases e:i<m
 ·obtain ⟨p',t',e1,e2,e3⟩:=h.at_ i e
  exact ⟨p',t',by rw [List.getElem?_append_left (by rw [h.len];exact e)];exact e1,e2,e3⟩
 ·have:i=m:=by omega
  subst this
  exact ⟨p,t,by rw [List.getElem?_append_right (by rw [h.len];omega),h.len];simp,ht,hp⟩
theorem Pl.small {P:List Tb} {cap:Int} (hP:m5 P cap) {s:List Fd} {v:List Int} {m:Nat} {ps:List Nat} (h:Pl P s v m ps): ∀ x∈ps,x<4294967296:=by
 intro x hx
 obtain ⟨i,hi,e⟩:=iz hx
 obtain ⟨p,t,e1,e2,e3⟩:=h.at_ i (by rw [← h.len];exact hi)
 rw [e] at e1;cases e1
 have:=j7 e3
 have:=(hP.ti i t e2).n
 omega
/-! the collapsed store -/
abbrev Co:=List Tb×Tb×List Int
structure OkC (s:List Fd) (cap:Int) (c:Co) (V:List (List Int)) (g:Gf):Prop where
 tabs:m5 c.1 cap
 plen:c.1.length=nch s
 few: ∀ (r:Nat) (x:Tb),c.1[r]? =some x→x.2.1.length≤V.length
 rows:TI c.2.1
 rcap:c.2.1.1=cap
 rlen:c.2.1.2.1.length=V.length
 ins: ∀ v∈V,In s v
 nd:V.Nodup
 code: ∀ (j:Nat) v,V[j]? =some v→ ∃ ps,Pl c.1 s v (nch s) ps∧c.2.1.2.1[j]? =some (rowOf ps)
 flags:Flags V g c.2.2
theorem LP {s:List Fd} (hs:Fds s) {v:List Int} (hv:In s v) {c:Co} {cap:Int} (hP:m5 c.1 cap) (hl:c.1.length=nch s) (_hR:TI c.2.1):
  ∀ (d i:Nat) (x:Int) (ps:List Nat) (M:Nat),i+d=nch s→d<M→Pl c.1 s v i ps→
   (∃ ps',Pl c.1 s v (nch s) ps'∧aq (iG c s (s,v)) M ((i:Int),x,rowOf ps)=(bM c.2.1 (rowOf ps')).bind fun r=>bif (!r.2) then some (-1) else some r.1)∨
   ((∀ ps',¬ Pl c.1 s v (nch s) ps')∧aq (iG c s (s,v)) M ((i:Int),x,rowOf ps)=some (-1)):=by
 have hf:=hs.few
 intro d
 induction d with
 | zero=>
  intro i x ps M hi hM hpl
  obtain ⟨m,rfl⟩: ∃ m,M=m+1:=⟨M-1,by omega⟩
  rw [aK]
  have:i=nch s:=by omega
  subst this
  refine .inl ⟨ps,hpl,?_⟩
  unfold iG
  dsimp only
  unfold nch
  rw [w64 (show _∧(((s.length+1)/2:Nat):Int)*2≤_ by omega),decide_eq_false (by omega),cond_false]
 | succ d ih=>
  intro i x ps M hi hM hpl
  obtain ⟨m,rfl⟩: ∃ m,M=m+1:=⟨M-1,by omega⟩
  rw [aK]
  have hin:i<nch s:=by omega
  have h2i:2*i<s.length:=by unfold nch at hin;omega
  have hn9:nch s≤9:=by unfold nch;omega
  have ht:c.1[i]? =some (c.1[i]'(by omega)):=List.getElem?_eq_getElem _
  have hT:=hP.ti i _ ht
  have hk:=wZ (zC hs i) (xi hv i)
  unfold iG
  dsimp only
  rw [w64 (show _∧(i:Int)*2≤_ by omega),decide_eq_true (show (i:Int)*2<(s.length:Int) by omega),cond_true,nx (show i<9223372036854775807 by omega),w64 (show _∧((i+1:Nat):Int)*2≤_ by omega),
   show (i:Int)*2=((2*i:Nat):Int) by omega,show min (s.length:Int) (((i+1:Nat):Int)*2)=((min s.length (2*i+2):Nat):Int) by omega,
   aW (sH (by omega) (by omega)),aW (sH (by omega) (by rw [hv.len];omega)),Aa s rfl h2i,Aa v hv.len.symm h2i,vt (zC hs i) (xi hv i),ab,cP ht,ab]
  dsimp only
  by_cases hm:enc (ch s i) (ch v i)∈(c.1[i]'(by omega)).2.1
  ·obtain ⟨p,hp,ep⟩:=iz hm
   rw [(fB hT hk).1 p ep,ab]
   dsimp only
   rw [Bool.not_true,cond_false,Ls _ _ (by rw [wG,hpl.len];omega),ab,cond_false,← zD]
   exact ih (i+1) x (ps++[p]) m (by omega) (by omega) (hpl.snoc ht ep)
  ·rw [(fB hT hk).2 hm,ab]
   refine .inr ⟨fun ps' h'=> ?_,rfl⟩
   obtain ⟨p,t,_,e2,e3⟩:=h'.at_ i hin
   rw [ht] at e2;cases e2
   exact hm (List.mem_of_getElem? e3)
theorem yO {s:List Fd} (hs:Fds s) {cap:Int} {c:Co} {V:List (List Int)} {g:Gf} (h:OkC s cap c V g) {v:List Int} (hv:In s v):
  (∃ i:Nat,i<V.length∧V[i]? =some v∧v∈V∧gT c s v=some (i:Int))∨(v∉V∧gT c s v=some (-1)):=by
 have hf:=hs.few
 have hn9:nch s≤9:=by unfold nch;omega
 have hnd:=h.tabs.nd
 have e0:gT c s v=aq (iG c s (s,v)) az (((0:Nat):Int),0,rowOf []):=by
  unfold gT gZ
  rw [ab];rfl
 rw [e0]
 rcases LP hs hv h.tabs h.plen h.rows (nch s) 0 0 [] az (by omega) (by show nch s<2^64;omega) ⟨rfl,fun i hi=>by omega⟩ with ⟨ps,hps,e⟩ | ⟨hno,e⟩
 ·rw [e]
  have hkey:=B5 (ps:=ps) (by rw [hps.len];omega)
  by_cases hm:rowOf ps∈c.2.1.2.1
  ·obtain ⟨j,hj,ej⟩:=iz hm
   have hj':j<V.length:=by rw [← h.rlen];exact hj
   have hVj:V[j]? =some V[j]:=List.getElem?_eq_getElem hj'
   obtain ⟨ps',h1,h2⟩:=h.code j _ hVj
   rw [ej] at h2
   have hpp:=wF (by rw [hps.len,h1.len]) (hps.small h.tabs) (h1.small h.tabs) (Option.some.inj h2)
   subst hpp
   have hin:=h.ins _ (List.getElem_mem hj')
   have:=h1.inj hin hv hps
   rw [this] at hVj
   exact .inl ⟨j,hj',hVj,List.mem_of_getElem? hVj,by rw [(fB h.rows hkey).1 j ej];rfl⟩
  ·refine .inr ⟨fun hV=> ?_,by rw [(fB h.rows hkey).2 hm];rfl⟩
   obtain ⟨j,hj,ej⟩:=iz hV
   obtain ⟨ps',h1,h2⟩:=h.code j v ej
   rw [hps.fn hnd h1] at hm
   exact hm (List.mem_of_getElem? h2)
 ·refine .inr ⟨fun hV=> ?_,e⟩
  obtain ⟨j,hj,ej⟩:=iz hV
  obtain ⟨ps',h1,_⟩:=h.code j v ej
  exact hno ps' h1
theorem NU {s:List Fd} (hs:Fds s) {v:List Int} (hv:In s v) {c:Co} {cap:Int} (hFl:c.2.2.length<100000000):
  ∀ (d i:Nat) (P:List Tb) (ps:List Nat) (M:Nat),i+d=nch s→d<M→m5 P cap→P.length=nch s→Pl P s v i ps→(∀ (r:Nat) (x:Tb),i≤r→P[r]? =some x→(x.2.1.length:Int)<cap)→
   ∃ P' ps',Pl P' s v (nch s) ps'∧Grown P P' cap i (nch s)∧aq (eM c s (s,v)) M ((i:Int),P,rowOf ps)=(bd c.2.1 (rowOf ps')).bind fun r=>some ((P',r.1,c.2.2++[0]),true,0):=by
 have hf:=hs.few
 intro d
 induction d with
 | zero=>
  intro i P ps M hi hM hP hl hpl _
  obtain ⟨m,rfl⟩: ∃ m,M=m+1:=⟨M-1,by omega⟩
  rw [aK]
  have:i=nch s:=by omega
  subst this
  refine ⟨P,ps,hpl,⟨hP,Ext.refl P,rfl,fun _ _=>rfl,fun r t t' e e'=>by rw [e] at e';cases e';omega⟩,?_⟩
  unfold eM
  dsimp only
  rw [w64 (show _∧((nch s:Nat):Int)*2≤_ by unfold nch;omega),decide_eq_false (by unfold nch;omega),cond_false,xo]
  cases bd c.2.1 (rowOf ps) with
  | none=>rfl
  | some r=>rw [ab,ab,aW (tH _),aW (cr (by simp;omega) (by simp;omega))]
 | succ d ih=>
  intro i P ps M hi hM hP hl hpl hroom
  obtain ⟨m,rfl⟩: ∃ m,M=m+1:=⟨M-1,by omega⟩
  rw [aK]
  have hin:i<nch s:=by omega
  have h2i:2*i<s.length:=by unfold nch at hin;omega
  have hn9:nch s≤9:=by unfold nch;omega
  have hiP:i<P.length:=by omega
  have ht:P[i]? =some P[i]:=List.getElem?_eq_getElem hiP
  have hT:=hP.ti i _ ht
  have hk:=wZ (zC hs i) (xi hv i)
  obtain ⟨t',f,e,p,h1,h2,h3,h4,h5,h6⟩:=H6 hT hk (.inr (by rw [hP.cap i _ ht];exact hroom i _ (Nat.le_refl _) ht))
  have g1:Grown P (P.set i t') cap i (i+1):=by
   refine ⟨⟨fun r u hu=> ?_,fun r u hu=> ?_⟩,fun r u hu=> ?_,by simp,fun r hr=> ?_,fun r u u' hu hu'=> ?_⟩
   ·rw [dh hiP] at hu
    split at hu
    ·cases hu;exact h2
    ·exact hP.ti r u hu
   ·rw [dh hiP] at hu
    split at hu
    ·cases hu;rw [h3];exact hP.cap i _ ht
    ·exact hP.cap r u hu
   ·by_cases e:i=r
    ·subst e
     rw [ht] at hu;cases hu
     exact ⟨t',by rw [dh hiP,if_pos rfl],h4⟩
    ·exact ⟨u,by rw [dh hiP,if_neg e];exact hu,List.prefix_refl _⟩
   ·rw [dh hiP,if_neg (by omega)]
   ·rw [dh hiP] at hu'
    split at hu'
    ·rename_i e
     subst e
     cases hu'
     rw [ht] at hu;cases hu;exact h6
    ·rw [hu] at hu';cases hu';omega
  obtain ⟨P',ps',k1,k2,k3⟩:=ih (i+1) (P.set i t') (ps++[p]) m (by omega) (by omega) g1.tabs (by simpa using hl) ((hpl.ext g1.ext).snoc (by rw [dh hiP,if_pos rfl]) h5) (fun r x hr hx=>hroom r x (by omega) (by rw [← g1.out r (by omega)];exact hx))
  refine ⟨P',ps',k1,⟨k2.tabs,g1.ext.trans k2.ext,by rw [k2.len];simp,fun r hr=> ?_,fun r t t3 ht1 ht3=> ?_⟩,?_⟩
  ·rw [k2.out r (by omega),g1.out r (by omega)]
  ·by_cases er:r=i
   ·rw [k2.out r (by omega)] at ht3
    exact g1.one r t t3 ht1 ht3
   ·exact k2.one r t t3 (by rw [g1.out r (by omega)];exact ht1) ht3
  ·rw [← k3]
   generalize aq (eM c s (s,v)) m=k
   unfold eM
   dsimp only
   rw [w64 (show _∧(i:Int)*2≤_ by omega),decide_eq_true (show (i:Int)*2<(s.length:Int) by omega),cond_true,nx (show i<9223372036854775807 by omega),w64 (show _∧((i+1:Nat):Int)*2≤_ by omega),
    show (i:Int)*2=((2*i:Nat):Int) by omega,show min (s.length:Int) (((i+1:Nat):Int)*2)=((min s.length (2*i+2):Nat):Int) by omega,
    aW (sH (by omega) (by omega)),aW (sH (by omega) (by rw [hv.len];omega)),Aa s rfl h2i,Aa v hv.len.symm h2i,vt (zC hs i) (xi hv i),ab,cP ht,ab]
   dsimp only
   rw [h1,ab]
   dsimp only
   rw [Ls _ _ (by rw [wG,hpl.len];omega),ab,ab,Bool.not_true,cond_false,← zD,Int.toNat_natCast]
theorem Js {l:List Tb} (h:l.length<1000000):bK l=some l:=by
 unfold bK
 rw [aW (cr (by omega) (by omega))]
theorem yf {s:List Fd} {cap:Int} {c:Co} {V:List (List Int)} {g:Gf} (h:OkC s cap c V g):lI c=some (V.length:Int):=by
 unfold lI gS
 rw [ab,h.rlen]
theorem Jk {s:List Fd} (hs:Fds s) {cap:Int} {c:Co} {V:List (List Int)} {g:Gf} (h:OkC s cap c V g) {v:List Int} (hv:In s v):
  ∃ c',nP c s v=some (c',(np cap V v).2)∧OkC s cap c' (np cap V v).1 g:=by
 have hf:=hs.few
 have hn9:nch s≤9:=by unfold nch;omega
 unfold nP np
 rw [kQ s v (by have:=hv.len;omega),j2.2 hv,ab,show ((0:Int) != 0)=false from rfl,cond_false]
 rcases yO hs h hv with ⟨i,hi,e,hm,ef⟩ | ⟨hm,ef⟩
 ·rw [ef,ab,if_pos hm,decide_eq_true (by omega)];exact ⟨c,rfl,h⟩
 ·rw [ef,ab,if_neg hm,decide_eq_false (by omega),cond_false,yf h,ab,h.rcap]
  by_cases hc:cap≤(V.length:Int)
  ·rw [decide_eq_true hc,if_pos hc];exact ⟨c,rfl,h⟩
  ·have hfl:=h.flags.len
   have hVl:V.length≤1048576:=by have:=h.rows.n;have:=h.rlen;omega
   rw [decide_eq_false hc,if_neg hc,cond_false,Js (by rw [h.plen];omega),ab]
   obtain ⟨P',ps,k1,k2,k3⟩:=NU hs hv (c:=c) (cap:=cap) (by omega) (nch s) 0 c.1 [] az (by omega) (by show nch s<2^64;omega) h.tabs h.plen ⟨rfl,fun i hi=>by omega⟩ (fun r x _ hx=>by have:=h.few r x hx;omega)
   have e0:((gZ s v).bind fun r42=>aq (eM c s r42) az (0,c.1,[]))=aq (eM c s (s,v)) az (((0:Nat):Int),c.1,rowOf []):=by
    unfold gZ
    rw [ab];rfl
   rw [e0,k3]
   have hkey:=B5 (ps:=ps) (by rw [k1.len];omega)
   have hnew:rowOf ps∉c.2.1.2.1:=fun hmem=>by
    obtain ⟨j,hj,ej⟩:=iz hmem
    have hj':j<V.length:=by rw [← h.rlen];exact hj
    have hVj:V[j]? =some V[j]:=List.getElem?_eq_getElem hj'
    obtain ⟨ps',h1,h2⟩:=h.code j _ hVj
    rw [ej] at h2
    have h1':=h1.ext k2.ext
    have hpp:=wF (by rw [k1.len,h1.len]) (k1.small k2.tabs) (h1'.small k2.tabs) (Option.some.inj h2)
    subst hpp
    have:=h1'.inj (h.ins _ (List.getElem_mem hj')) hv k1
    exact hm (this▸List.getElem_mem hj')
   obtain ⟨t',e1,e2,e3,e4⟩:=tY h.rows hkey hnew (by rw [h.rlen,h.rcap];omega)
   rw [e1,ab]
   refine ⟨(P',t',c.2.2++[0]),rfl,⟨k2.tabs,by show P'.length=_;rw [k2.len,h.plen],fun r x hx=> ?_,e4,by show t'.1=cap;rw [e2,h.rcap],by show t'.2.1.length=_;rw [e3];simp [h.rlen],fun u hu=> ?_,?_,fun j u hu=> ?_,h.flags.add hm⟩⟩
   ·have hr:r<c.1.length:=by rw [← k2.len];exact j7 hx
    have:=k2.one r _ x (List.getElem?_eq_getElem hr) hx
    have:=h.few r _ (List.getElem?_eq_getElem hr)
    simp;omega
   ·rcases List.mem_append.1 hu with hu | hu
    ·exact h.ins u hu
    ·simp at hu;subst hu;exact hv
   ·exact List.nodup_append.2 ⟨h.nd,by simp,fun a ha b hb=>by simp at hb;subst hb;exact fun e=>hm (e▸ha)⟩
   ·show ∃ ps,Pl P' s u (nch s) ps∧t'.2.1[j]? =some (rowOf ps)
    rw [List.getElem?_append] at hu
    split at hu
    ·obtain ⟨qs,q1,q2⟩:=h.code j u hu
     exact ⟨qs,q1.ext k2.ext,by rw [e3,List.getElem?_append_left (j7 q2)];exact q2⟩
    ·have hj:j-V.length=0:=by
      by_cases e:j-V.length=0
      ·exact e
      ·rw [List.getElem?_eq_none (by simp;omega)] at hu;cases hu
     rw [hj] at hu
     simp at hu;subst hu
     exact ⟨ps,k1,by rw [e3,show j=c.2.1.2.1.length by rw [h.rlen];omega];simp⟩
theorem Kd {s:List Fd} (hs:Fds s) {cap:Int} {c:Co} {V:List (List Int)} {g:Gf} (h:OkC s cap c V g) {v:List Int} (hv:In s v):nN c s v=some (decide (v∈V),0):=by
 unfold nN
 have:=hs.few
 rw [kQ s v (by have:=hv.len;omega),j2.2 hv,ab,show ((0:Int) != 0)=false from rfl,cond_false]
 rcases yO hs h hv with ⟨i,_,_,hm,e⟩ | ⟨hm,e⟩
 ·rw [e,ab,decide_eq_true hm,decide_eq_true (by omega)]
 ·rw [e,ab,decide_eq_false hm];rfl
theorem BS {s:List Fd} (hs:Fds s) {cap:Int} {c:Co} {V:List (List Int)} {g:Gf} (h:OkC s cap c V g) {v:List Int} (hv:In s v) (flag:Int):
  (cp V v flag≠0∧pB c s v flag=some (0,cp V v flag))∨(cp V v flag=0∧(flag=0∨flag=1)∧ ∃ i:Nat,i<V.length∧V[i]? =some v∧pB c s v flag=some ((i:Int),0)):=by
 unfold pB cp
 have:=hs.few
 rw [kQ s v (by have:=hv.len;omega),j2.2 hv,ab,show ((0:Int) != 0)=false from rfl,cond_false]
 simp only [bF]
 rcases nF flag with hb | hb
 ·rw [if_pos hb,show (decide (flag<0)||decide (1<flag))=true by simpa using hb]
  exact .inl ⟨by decide,rfl⟩
 ·rw [if_neg (show ¬ (flag<0∨1<flag) by omega),show (decide (flag<0)||decide (1<flag))=false by rcases hb with rfl | rfl <;> rfl,cond_false]
  rcases yO hs h hv with ⟨i,hi,e,hm,ef⟩ | ⟨hm,ef⟩
  ·rw [ef,ab,if_pos hm,decide_eq_false (by omega)];exact .inr ⟨rfl,hb,i,hi,e,rfl⟩
  ·rw [ef,ab,if_neg hm];exact .inl ⟨by decide,rfl⟩
theorem Jd {s:List Fd} (hs:Fds s) {cap:Int} {c:Co} {V:List (List Int)} {g:Gf} (h:OkC s cap c V g) {v:List Int} (hv:In s v) (flag:Int):
  ∃ c',uF c s v flag=some (c',cp V v flag)∧OkC s cap c' V (BB V g v flag):=by
 unfold uF BB
 rcases BS hs h hv flag with ⟨hc,e⟩ | ⟨hc,hb,i,hi,ev,e⟩
 ·rw [e,ab,if_neg hc]
  simp only [show (cp V v flag != 0)=true by simpa using hc,cond_true]
  exact ⟨c,rfl,h⟩
 ·have hfl:=h.flags.len
  have:=h.rows.n
  have:=h.rlen
  rw [e,ab,if_pos hc,hc]
  simp only [show ((0:Int) != 0)=false from rfl,cond_false]
  rw [uQ (by omega),ab,cP (h.flags.at_ i v ev),ab,aW (decide_eq_true (by omega)),ab,Int.toNat_natCast]
  refine ⟨(c.1,c.2.1,c.2.2.set i (fl (g false v|| !(flag==1)) (g true v||(flag==1)))),?_,⟨h.tabs,h.plen,h.few,h.rows,h.rcap,h.rlen,h.ins,h.nd,h.code,h.flags.set h.nd ev _⟩⟩
  have hh:=FY (g false v) (g true v)
  rcases hb with rfl | rfl
  ·rw [hh.2.2.1];rfl
  ·rw [hh.2.2.2];rfl
theorem Io {s:List Fd} (hs:Fds s) {cap:Int} {c:Co} {V:List (List Int)} {g:Gf} (h:OkC s cap c V g) {v:List Int} (hv:In s v) (flag:Int):
  tU c s v flag=some (BG V g v flag,cp V v flag):=by
 unfold tU BG
 rcases BS hs h hv flag with ⟨hc,e⟩ | ⟨hc,hb,i,hi,ev,e⟩
 ·rw [e,ab,if_neg hc]
  simp only [show (cp V v flag != 0)=true by simpa using hc,cond_true]
 ·rw [e,ab,if_pos hc,hc]
  simp only [show ((0:Int) != 0)=false from rfl,cond_false]
  rw [cP (h.flags.at_ i v ev),ab,aW (decide_eq_true (by omega))]
  have hh:=Fh (g false v) (g true v)
  rcases hb with rfl | rfl
  ·rw [hh.2.2.1];rfl
  ·rw [hh.2.2.2.1];rfl
theorem zX {s:List Fd} (hs:Fds s) (most:Int):uN s most=if most<0∨1048576<most then some (([],(0,[],[]),[]),1) else some ((List.replicate (nch s) (most,[],List.replicate 8 0),(most,[],List.replicate 8 0),[]),0):=by
 have hf:=hs.few
 unfold uN
 rw [Ar]
 by_cases h:most<0∨1048576<most
 ·rw [if_pos h,if_pos h];rfl
 ·rw [if_neg h,if_neg h,ab]
  simp only [show ((0:Int) != 0)=false from rfl,cond_false]
  have hb:IntKind.i64.wrap (Int.tdiv (IntKind.i64.wrap ((IntKind.i64.wrap ((s.length:Int)+2))-1)) 2)=((nch s:Nat):Int):=by
   rw [w64 (show _∧(s.length:Int)+2≤_ by omega),show (s.length:Int)+2-1=((s.length+1:Nat):Int) by omega,w64 (show _∧((s.length+1:Nat):Int)≤_ by omega),show Int.tdiv ((s.length+1:Nat):Int) 2=((nch s:Nat):Int) from rfl,w64 (by unfold nch;omega)]
  refine ld (fun i=>(List.replicate i (most,[],List.replicate 8 0),(i:Int))) (nch s) (by simp) (by unfold nch;omega) (fun i hi k=> ?_) (fun k=> ?_)
  ·have:nch s≤9:=by unfold nch;omega
   unfold rW
   dsimp only
   rw [hb,gi hi,cond_true,Ar,if_neg h,ab]
   dsimp only
   rw [aW (cr (by simp;omega) (by simp;omega)),nx (by omega),← List.replicate_succ' (n:=i)]
  ·unfold rW
   dsimp only
   rw [hb,iS (Nat.lt_irrefl _),cond_false]
theorem IM (s:List Fd) {most:Int} (h0:0≤most) (h1:most≤1048576):OkC s most (List.replicate (nch s) (most,[],List.replicate 8 0),(most,[],List.replicate 8 0),[]) [] (fun _ _=>false):=by
 have hr: ∀ (r:Nat) (x:Tb),(List.replicate (nch s) ((most,[],List.replicate 8 0):Tb))[r]? =some x→x=(most,[],List.replicate 8 0):=by
  intro r x hx
  rw [List.getElem?_replicate] at hx
  split at hx
  ·exact (Option.some.inj hx).symm
  ·cases hx
 exact ⟨⟨fun r x hx=>by rw [hr r x hx];exact AH h0 h1,fun r x hx=>by rw [hr r x hx]⟩,by simp,fun r x hx=>by have:=hr r x hx;subst this;simp,AH h0 h1,rfl,rfl,fun v hv=>by simp at hv,List.nodup_nil,fun i v h=>by simp at h,Flags.nil⟩
end So
end Go.Proofs.YtgcgmclghbebjaaGreat
namespace Go.Proofs.YtgcgmclghbebjaaGreat
namespace Df
theorem ab {α ρ:Type} (x:α) (k:α→Option ρ):(some x).bind k=k x:=rfl
theorem bF {α ρ:Type} (x:α) (k:α→Option ρ):al x k=k x:=rfl
theorem aW {ρ:Type} (k:Option ρ):chk true k=k:=rfl
theorem cg {α ρ:Type} (d:α) (m:Option α) (k:α→Option ρ):bY true d m k=m.bind k:=rfl
theorem dk {α ρ:Type} (d:α) (m:Option α) (k:α→Option ρ):bY false d m k=k d:=rfl
theorem pz {α:Type} (xs:List α) (k:Nat):idx xs (k:Int)=xs[k]? :=by simp [idx]
theorem bZ {α:Type} {xs:List α} {k:Nat} (h:k<xs.length):idx xs (k:Int)=some xs[k]:=by rw [pz,List.getElem?_eq_getElem h]
theorem vH {α:Type} {xs:List α} {i:Int} (h0:0≤i) (h:i<xs.length): ∃ x,idx xs i=some x:=by
 obtain ⟨k,rfl⟩:=Int.eq_ofNat_of_zero_le h0
 exact ⟨_,bZ (by omega)⟩
theorem sW {α:Type} {l pre r:List α} {x:α} (h:l=pre++x::r):idx l (pre.length:Int)=some x:=by subst h;simp [idx]
theorem Hj {α:Type} {xs:List α} {i j:Int} {x:α} (h0:0≤i) (hi:i<xs.length):idx (xs.set i.toNat x) j=if j=i then some x else idx xs j:=by
 unfold idx
 split
 ·rw [List.getElem?_set]
  by_cases h:j=i
  ·subst h;simp;omega
  ·simp [h];intro h';omega
 ·have:j≠i:=by omega
  simp [this]
theorem gi {α:Type} {l pre r:List α} {x:α} (h:l=pre++x::r):decide ((pre.length:Int)<(List.length l:Int))=true:=by subst h;simp;omega
theorem iS {α:Type} {l pre:List α} (h:l=pre++[]):decide ((pre.length:Int)<(List.length l:Int))=false:=by subst h;simp
theorem pw {n:Nat} (h:n<4611686018427387904):IntKind.i64.wrap ((n:Int)+1)=((n+1:Nat):Int):=by rw [w64 (by omega)];omega
theorem cr {k b:Nat} (h:k*b≤140737488355328) (h2:k≤9223372036854775807):aB k b=true:=by
 simp only [aB,Bool.and_eq_true];exact ⟨Nat.ble_eq_true_of_le h,Nat.ble_eq_true_of_le h2⟩
/-! rows -/
theorem EC {α:Type} {l m:List α} (hl:l.Nodup) (h: ∀ x∈l,x∈m):l.length≤m.length:=by
 classical
 induction l generalizing m with
 | nil=>simp
 | cons x l ih=>
  have hx:=h x (by simp)
  have hn:=List.nodup_cons.1 hl
  obtain ⟨s,t,rfl⟩:=List.append_of_mem hx
  have:=ih (m:=s++t) hn.2 fun y hy=>by
   have:=h y (by simp [hy])
   simp only [List.mem_append,List.mem_cons] at this ⊢
   rcases this with h | rfl | h
   ·exact .inl h
   ·exact absurd hy hn.1
   ·exact .inr h
  simp at this ⊢; omega
theorem HD {α:Type} {R:α→α→Prop} (irr: ∀ a,¬ R a a) (asy: ∀ a b,R a b→ ¬ R b a): ∀ {l m:List α},l.Pairwise R→m.Pairwise R→(∀ x,x∈l↔x∈m)→l=m
 | [],[],_,_,_=>rfl
 | [],y::m,_,_,h=>absurd ((h y).2 (by simp)) (by simp)
 | x::l,[],_,_,h=>absurd ((h x).1 (by simp)) (by simp)
 | x::l,y::m,hl,hm,h=>by
  have hl':=List.pairwise_cons.1 hl
  have hm':=List.pairwise_cons.1 hm
  have hxy:x=y:=by
   rcases List.mem_cons.1 ((h x).1 (by simp)) with e | hx
   ·exact e
   ·rcases List.mem_cons.1 ((h y).2 (by simp)) with e | hy
    ·exact e.symm
    ·exact absurd (hl'.1 y hy) (asy _ _ (hm'.1 x hx))
  subst hxy
  have:l=m:=HD irr asy hl'.2 hm'.2 fun z=>by
   have:=h z
   simp only [List.mem_cons] at this
   constructor
   ·intro hz
    rcases this.1 (.inr hz) with rfl | h
    ·exact absurd (hl'.1 z hz) (irr z)
    ·exact h
   ·intro hz
    rcases this.2 (.inr hz) with rfl | h
    ·exact absurd (hm'.1 z hz) (irr z)
    ·exact h
  rw [this]
/-! the heap of free nodes: a row in some order -/
theorem Ba {h:List Int} {i j:Int} (hi0:0≤i) (hi:i<h.length) (hj0:0≤j) (hj:j<h.length): ∃ h',cJ h i j=some h'∧h'.Perm h∧h'.length=h.length:=by
 obtain ⟨i,rfl⟩:=Int.eq_ofNat_of_zero_le hi0
 obtain ⟨j,rfl⟩:=Int.eq_ofNat_of_zero_le hj0
 have hi':i<h.length:=by omega
 have hj':j<h.length:=by omega
 refine ⟨(h.set i h[j]).set j h[i],?_,List.set_set_perm hi' hj',by simp⟩
 unfold cJ
 rw [bZ hj',bZ hi']
 simp only [ab,Int.toNat_natCast]
 obtain ⟨x,hx⟩: ∃ x,idx (h.set i h[j]) (j:Int)=some x:=vH (xs:=h.set i h[j]) (i:=(j:Int)) hj0 (by rw [List.length_set];exact hj)
 rw [hx];rfl
theorem A5 {h:List Int} {i j:Int} (hi0:0≤i) (hi:i<h.length) (hj0:0≤j) (hj:j<h.length): ∃ b,dx h i j=some b:=by
 unfold dx
 obtain ⟨x,hx⟩:=vH hi0 hi
 obtain ⟨y,hy⟩:=vH hj0 hj
 rw [hx,hy];exact ⟨_,rfl⟩
theorem OR: ∀ (n:Nat) (l:List Int) (j:Nat),j<l.length→l.length<4611686018427387904→j<n→ ∃ l',aq gm n (l,(j:Int))=some l'∧l'.Perm l
 | 0,_,_,_,_,h=>by omega
 | n+1,l,j,hj,hl,hn=>by
  rw [aK]
  unfold gm
  simp only [bF]
  rw [w64 (x:=(j:Int)-1) (by omega)]
  by_cases h0:j=0
  ·subst h0
   refine ⟨l,?_,.refl _⟩
   rfl
  ·have hi:IntKind.i64.wrap (Int.tdiv ((j:Int)-1) 2)=(((j-1)/2:Nat):Int):=by
    rw [show (j:Int)-1=((j-1:Nat):Int) by omega]
    rw [show Int.tdiv ((j-1:Nat):Int) 2=(((j-1)/2:Nat):Int) from rfl]
    exact w64 (by omega)
   rw [hi]
   have hne:((((j-1)/2:Nat):Int)==(j:Int))=false:=by simp;omega
   rw [hne]
   obtain ⟨b,hb⟩:=A5 (h:=l) (i:=(j:Int)) (j:=(((j-1)/2:Nat):Int)) (by omega) (by omega) (by omega) (by omega)
   simp only [Bool.not_false,cg,hb,ab,Bool.false_or]
   cases b
   ·exact ⟨l,rfl,.refl _⟩
   ·obtain ⟨l1,h1,p1,e1⟩:=Ba (h:=l) (i:=(((j-1)/2:Nat):Int)) (j:=(j:Int)) (by omega) (by omega) (by omega) (by omega)
    obtain ⟨l2,h2,p2⟩:=OR n l1 ((j-1)/2) (by omega) (by omega) (by omega)
    refine ⟨l2,?_,p2.trans p1⟩
    simp only [Bool.not_true,cond_false,h1,ab]
    exact h2
theorem QD {h:List Int} (x:Int) (hl:h.length<1099511627776): ∃ h',fY x h=some h'∧h'.Perm (x::h):=by
 unfold fY kU eS iX
 rw [cr (by simp;omega) (by simp;omega)]
 simp only [aW,ab]
 rw [w64 (by simp;omega)]
 rw [show ((List.length (h++[x]):Int)-1)=(h.length:Int) by simp]
 obtain ⟨l,h1,p⟩:=OR az (h++[x]) h.length (by simp) (by simp;omega) (by show _<2^64;omega)
 exact ⟨l,by rw [h1];rfl,p.trans (List.perm_append_comm)⟩
theorem Ht {i0:Int} {m:Nat}: ∀ (n:Nat) (l:List Int) (i:Nat),m<l.length→l.length<1099511627776→i<l.length→l.length-i<n→ ∃ b l',aq (dz i0 (m:Int)) n (l,(i:Int))=some (b,l')∧l'.Perm l∧l'[m]? =l[m]?
 | 0,_,_,_,_,_,h=>by omega
 | n+1,l,i,hm,hl,hi,hn=>by
  rw [aK]
  unfold dz
  simp only [bF]
  rw [w64 (x:=2*(i:Int)) (by omega),w64 (x:=2*(i:Int)+1) (by omega),w64 (x:=2*(i:Int)+1+1) (by omega)]
  by_cases h1:m≤2*i+1
  ·have:decide ((m:Int)≤2*(i:Int)+1)=true:=by simp;omega
   rw [this]
   exact ⟨_,l,rfl,.refl _,rfl⟩
  ·have:decide ((m:Int)≤2*(i:Int)+1)=false:=by simp;omega
   rw [this]
   have:decide (2*(i:Int)+1<0)=false:=by simp;omega
   rw [this]
   simp only [Bool.or_false,cond_false]
   have K: ∀ j:Nat,i<j→j<m→ ∃ b l',hZ i0 l (i:Int) (aq (dz i0 (m:Int)) n) (j:Int)=some (b,l')∧l'.Perm l∧l'[m]? =l[m]? :=by
    intro j hij hjm
    unfold hZ
    obtain ⟨b,hb⟩:=A5 (h:=l) (i:=(j:Int)) (j:=(i:Int)) (by omega) (by omega) (by omega) (by omega)
    rw [hb,ab]
    cases b
    ·exact ⟨_,l,rfl,.refl _,rfl⟩
    ·obtain ⟨l1,g1,p1,e1⟩:=Ba (h:=l) (i:=(i:Int)) (j:=(j:Int)) (by omega) (by omega) (by omega) (by omega)
     have g0:=g1
     obtain ⟨b,l2,g2,p2,q2⟩:=Ht (i0:=i0) (m:=m) n l1 j (by omega) (by omega) (by omega) (by omega)
     refine ⟨b,l2,?_,p2.trans p1,?_⟩
     ·simp only [Bool.not_true,cond_false,g1,ab]
      exact g2
     ·rw [q2]
      unfold cJ at g0
      obtain ⟨x,_,g0⟩:=dQ g0
      obtain ⟨y,_,g0⟩:=dQ g0
      obtain ⟨z,_,g0⟩:=dQ g0
      obtain ⟨u,_,g0⟩:=dQ g0
      cases g0
      rw [List.getElem?_set_ne (show ((j:Nat):Int).toNat≠m by omega),List.getElem?_set_ne (show ((i:Nat):Int).toNat≠m by omega)]
   by_cases h2:2*i+2<m
   ·have:decide (2*(i:Int)+1+1<(m:Int))=true:=by simp;omega
    rw [this]
    obtain ⟨b,hb⟩:=A5 (h:=l) (i:=2*(i:Int)+1+1) (j:=2*(i:Int)+1) (by omega) (by omega) (by omega) (by omega)
    simp only [cg,hb,ab,Bool.true_and]
    cases b
    ·exact K (2*i+1) (by omega) (by omega)
    ·exact K (2*i+2) (by omega) (by omega)
   ·have:decide (2*(i:Int)+1+1<(m:Int))=false:=by simp;omega
    rw [this]
    simp only [dk,Bool.false_and,cond_false]
    exact K (2*i+1) (by omega) (by omega)
theorem QF {h:List Int} (h0:h≠[]) (hl:h.length<1099511627776): ∃ x h',gF h=some (x,h')∧(x::h').Perm h:=by
 have hp:0<h.length:=List.length_pos_iff.2 h0
 unfold gF eS
 rw [ab,w64 (by omega),show ((h.length:Int)-1)=((h.length-1:Nat):Int) by omega]
 obtain ⟨l1,h1,p1,e1⟩:=Ba (h:=h) (i:=0) (j:=((h.length-1:Nat):Int)) (by omega) (by omega) (by omega) (by omega)
 rw [h1,ab]
 unfold ju
 obtain ⟨b,l2,h2,p2,_⟩:=Ht (i0:=0) (m:=h.length-1) az l1 0 (by omega) (by omega) (by omega) (by show _<2^64;omega)
 have h2:aq (dz 0 ((h.length-1:Nat):Int)) az (l1,0)=some (b,l2):=h2
 rw [h2,ab]
 unfold my
 simp only []
 have hl2:l2.length=h.length:=by rw [p2.length_eq,e1]
 rw [w64 (by omega),show ((List.length l2:Int)-1)=((l2.length-1:Nat):Int) by omega,bZ (by omega)]
 simp only [ab]
 rw [qk.2 (by omega),aW]
 refine ⟨_,_,rfl,?_⟩
 have:ba l2 0 ((l2.length-1:Nat):Int)=l2.take (l2.length-1):=by simp [ba]
 rw [this]
 refine List.Perm.trans ?_ (p2.trans p1)
 have e:l2=l2.take (l2.length-1)++[l2[l2.length-1]'(by omega)]:=by
  conv=>lhs;rw [← List.take_append_drop (l2.length-1) l2]
  congr 1
  rw [List.drop_eq_getElem_cons (by omega),List.drop_eq_nil_of_le (by omega)]
 conv=>rhs;rw [e]
 exact (List.perm_append_comm (l₁:=[_]))
end Df
end Go.Proofs.YtgcgmclghbebjaaGreat
namespace Go.Proofs.YtgcgmclghbebjaaGreat
namespace Df
abbrev Nd:=List (Int×Int)×Int
noncomputable def nx (N:List Nd) (i:Int):List (Int×Int):=((idx N i).getD ([],0)).1
noncomputable def rf (N:List Nd) (i:Int):Int:=((idx N i).getD ([],0)).2
noncomputable def tg (N:List Nd) (i:Int):List Int:=(nx N i).map (·.2)
theorem ox {N:List Nd} {i:Int} (h0:0≤i) (h:i<N.length):idx N i=some (nx N i,rf N i):=by
 obtain ⟨x,hx⟩:=vH h0 h
 simp [nx,rf,hx]
theorem wL {N:List Nd} {i j:Int} {x:Nd} (h0:0≤i) (hi:i<N.length):nx (N.set i.toNat x) j=if j=i then x.1 else nx N j:=by
 unfold nx;rw [Hj h0 hi];split <;> rfl
theorem vn {N:List Nd} {i j:Int} {x:Nd} (h0:0≤i) (hi:i<N.length):rf (N.set i.toNat x) j=if j=i then x.2 else rf N j:=by
 unfold rf;rw [Hj h0 hi];split <;> rfl
noncomputable def lX (l:List (Int×Int)):Prop:=l.Pairwise (fun a b=>a.1<b.1)∧ ∀ e∈l,0≤e.1∧e.1<256
noncomputable def At (N:List Nd) (A:List Int):Nat→Int→Prop
 | 0,i=>i∈A∧nx N i=[]
 | h+1,i=>i∈A∧nx N i≠[]∧lX (nx N i)∧ ∀ e∈nx N i,At N A h e.2
theorem At.mem {N:List Nd} {A:List Int}: ∀ {h:Nat} {i:Int},At N A h i→i∈A
 | 0,_,a=>a.1
 | _+1,_,a=>a.1
theorem At.wE {N:List Nd} {A:List Int}: ∀ {h:Nat} {i:Int},At N A h i→lX (nx N i)
 | 0,_,a=>by rw [a.2];exact ⟨List.Pairwise.nil,by simp⟩
 | _+1,_,a=>a.2.2.1
theorem At.uniq {N:List Nd} {A:List Int}: ∀ {h k:Nat} {i:Int},At N A h i→At N A k i→h=k
 | 0,0,_,_,_=>rfl
 | 0,_+1,_,a,b=>absurd a.2 b.2.1
 | _+1,0,_,a,b=>absurd b.2 a.2.1
 | h+1,k+1,i,a,b=>by
  obtain ⟨e,he⟩:=List.exists_mem_of_ne_nil _ a.2.1
  rw [At.uniq (a.2.2.2 e he) (b.2.2.2 e he)]
theorem At.bf {N N':List Nd} {A A':List Int} (hn: ∀ j∈A',j∈A→nx N' j=nx N j) (hc: ∀ j∈A',j∈A→ ∀ e∈nx N j,e.2∈A→e.2∈A'): ∀ {h:Nat} {i:Int},At N A h i→i∈A'→At N' A' h i
 | 0,_,a,m=>⟨m,by rw [hn _ m a.1];exact a.2⟩
 | h+1,i,a,m=>by
  have e:=hn i m a.1
  exact ⟨m,by rw [e];exact a.2.1,by rw [e];exact a.2.2.1,fun x hx=>by
   rw [e] at hx
   exact At.bf hn hc (a.2.2.2 x hx) (hc i m a.1 x hx (a.2.2.2 x hx).mem)⟩
theorem At.grow {N N':List Nd} {A A':List Int} (hs: ∀ j∈A,j∈A') (hn: ∀ j∈A,nx N' j=nx N j) {h:Nat} {i:Int} (a:At N A h i):At N' A' h i:=
 a.bf (fun j _ hj=>hn j hj) (fun _ _ _ _ _ h=>hs _ h) (hs _ a.mem)
noncomputable def acc (N:List Nd):List Int→Int→Prop
 | [],_=>True
 | b::w,i=> ∃ e∈nx N i,e.1=b∧acc N w e.2
theorem acc.same {N N':List Nd} {A:List Int} (hn: ∀ j∈A,nx N' j=nx N j): ∀ {h:Nat} {i:Int},At N A h i→ ∀ {w:List Int},w.length=h→(acc N' w i↔acc N w i)
 | 0,_,_,[],_=>Iff.rfl
 | h+1,i,a,b::w,hw=>by
  unfold acc
  rw [hn i a.1]
  exact exists_congr fun e=>⟨fun ⟨m,x,y⟩=>⟨m,x,(acc.same hn (a.2.2.2 e m) (by simpa using hw)).1 y⟩,fun ⟨m,x,y⟩=>⟨m,x,(acc.same hn (a.2.2.2 e m) (by simpa using hw)).2 y⟩⟩
theorem Fp {l:List (Int×Int)} (h:lX l) {a b:Int×Int} (ha:a∈l) (hb:b∈l) (e:a.1=b.1):a=b:=by
 replace h:=h.1
 induction l with
 | nil=>cases ha
 | cons x l ih=>
  have hp:=List.pairwise_cons.1 h
  rcases List.mem_cons.1 ha with h1 | h1 <;> rcases List.mem_cons.1 hb with h2 | h2
  ·rw [h1,h2]
  ·have:=hp.1 b h2;rw [h1] at e;omega
  ·have:=hp.1 a h1;rw [h2] at e;omega
  ·exact ih h1 h2 hp.2
theorem zm {N:List Nd} {i b:Int} {w:List Int} (hr:lX (nx N i)) {e:Int×Int} (he:e∈nx N i) (hb:e.1=b):acc N (b::w) i↔acc N w e.2:=
 ⟨fun ⟨x,hx,hxb,h⟩=>by rw [Fp hr he hx (by omega)];exact h,fun h=>⟨e,he,hb,h⟩⟩
theorem At.some {N:List Nd} {A:List Int}: ∀ {h:Nat} {i:Int},At N A h i→ ∃ w,w.length=h∧acc N w i
 | 0,_,_=>⟨[],rfl,trivial⟩
 | h+1,i,a=>by
  obtain ⟨e,he⟩:=List.exists_mem_of_ne_nil _ a.2.1
  obtain ⟨w,hw,ha⟩:=(a.2.2.2 e he).some
  exact ⟨e.1::w,by simp [hw],e,he,rfl,ha⟩
theorem Nf {l m:List (Int×Int)} (hl:lX l) (hm:lX m) (h: ∀ x,x∈l↔x∈m):l=m:=
 HD (R:=fun a b=>a.1<b.1) (fun a=>by omega) (fun a b=>by omega) hl.1 hm.1 h
theorem At.inj {N:List Nd} {A:List Int} (hd: ∀ i∈A,∀ j∈A,nx N i=nx N j→i=j): ∀ {h:Nat} {i j:Int},At N A h i→At N A h j→(∀ w,w.length=h→(acc N w i↔acc N w j))→i=j
 | 0,i,j,a,b,_=>hd i a.1 j b.1 (by rw [a.2,b.2])
 | h+1,i,j,a,b,e=>hd i a.1 j b.1 (by
  have half: ∀ {i j:Int},At N A (h+1) i→At N A (h+1) j→(∀ w,w.length=h+1→(acc N w i↔acc N w j))→ ∀ x∈nx N i,x∈nx N j:=by
   intro i j a b e x hx
   obtain ⟨w,hw,hacc⟩:=(a.2.2.2 x hx).some
   obtain ⟨y,hy,hyx,_⟩:=(e (x.1::w) (by simp [hw])).1 ⟨x,hx,rfl,hacc⟩
   have:x.2=y.2:=At.inj hd (a.2.2.2 x hx) (b.2.2.2 y hy) fun v hv=>by
    have:=e (x.1::v) (by simp [hv])
    rwa [zm a.2.2.1 hx rfl,zm b.2.2.1 hy hyx] at this
   have:x=y:=Prod.ext hyx.symm this
   rw [this];exact hy
  exact Nf a.2.2.1 b.2.2.1 fun x=>⟨half a b e x,half b a (fun w hw=>(e w hw).symm) x⟩)
structure Inv (N:List Nd) (F Z A X T:List Int) (W:Nat):Prop where
 nd:(A++F++Z).Nodup
 rng: ∀ i,i∈A++F++Z↔0≤i∧i<N.length
 cnt: ∀ i,rf N i=((A.flatMap (tg N)++X).count i:Nat)
 dead: ∀ i,i∉A→rf N i=0
 top: ∀ i∈A,rf N i=0→i∈T
 dist: ∀ i∈A,∀ j∈A,nx N i=nx N j→i=j
 good: ∀ i∈A,∃ h,h≤W∧At N A h i
variable {N : List Nd} {F Z A X T : List Int} {W : Nat}
theorem Inv.range (I:Inv N F Z A X T W) {i:Int} (h:i∈A):0≤i∧i<N.length:=(I.rng i).1 (by simp [h])
theorem Inv.closed (I:Inv N F Z A X T W) {i:Int} (h:i∈A) {e:Int×Int} (he:e∈nx N i):e.2∈A:=by
 obtain ⟨k,_,a⟩:=I.good i h
 cases k with
 | zero=>rw [a.2] at he;cases he
 | succ k=>exact (a.2.2.2 e he).mem
theorem Inv.ext (I:Inv N F Z A X T W) {i:Int} (h:i∈X):i∈A:=by
 by_cases ha:i∈A
 ·exact ha
 ·have h1:=I.dead i ha
  have h2:=I.cnt i
  have:0<X.count i:=List.count_pos_iff.2 h
  rw [List.count_append] at h2;omega
theorem Inv.pos (I:Inv N F Z A X T W) (i:Int):0≤rf N i:=by rw [I.cnt];omega
theorem Inv.led (I:Inv N F Z A X T W) {j i:Int} (hj:j∈A) (h:i∈tg N j):0<rf N i:=by
 rw [I.cnt]
 have:0<(A.flatMap (tg N)++X).count i:=List.count_pos_iff.2 (by simp only [List.mem_append,List.mem_flatMap];exact .inl ⟨j,hj,h⟩)
 omega
end Df
end Go.Proofs.YtgcgmclghbebjaaGreat
namespace Go.Proofs.YtgcgmclghbebjaaGreat
namespace Df
theorem RX (x y:Int):fM x y=some (if x<y then -1 else if y<x then 1 else 0):=by
 unfold fM kf
 simp only [ab,show (x != x)=false by simp,show (y != y)=false by simp,cond_false]
 by_cases h:x<y
 ·simp [h]
 ·by_cases h':y<x <;> simp [h,h']
theorem O5 (e:Int×Int) (y:Int):ob e y=some (if e.1<y then -1 else if y<e.1 then 1 else 0):=by
 unfold ob;rw [RX];rfl
theorem Rt {i j:Nat} (h:i+j<4611686018427387904):IntKind.i64.wrap (ar .u64 (IntKind.u64.wrap (IntKind.i64.wrap ((i:Int)+j))) 1)=(((i+j)/2:Nat):Int):=by
 rw [w64 (x:=(i:Int)+j) (by omega)]
 have:IntKind.u64.wrap ((i:Int)+j)=(i:Int)+j:=by
  show ((i:Int)+j)%(2^64)=_
  omega
 rw [this]
 have:ar .u64 ((i:Int)+j) 1=((i:Int)+j)/2:=rfl
 rw [this,w64 (by omega)];omega
theorem Bp {x:List (Int×Int)} {t:Int} (hs:x.Pairwise (fun a b=>a.1<b.1)) (hx:x.length<1099511627776): ∀ (n i j:Nat),i≤j→j≤x.length→
  (∀ k (hk:k<x.length),k<i→x[k].1<t)→(∀ k (hk:k<x.length),j≤k→t≤x[k].1)→j-i<n→
  ∃ (m:Nat) (b:Bool),aq (bg x t) n ((i:Int),(j:Int))=some ((m:Int),b)∧m≤x.length∧(∀ k (hk:k<x.length),k<m→x[k].1<t)∧(∀ k (hk:k<x.length),m≤k→t≤x[k].1)∧(b=true↔ ∃ h:m<x.length,x[m].1=t)
 | 0,_,_,_,_,_,_,h=>by omega
 | n+1,i,j,hij,hj,h1,h2,hn=>by
  rw [aK]
  unfold bg
  have hp:=List.pairwise_iff_getElem.1 hs
  simp only [Rt (show i+j<_ by omega),bF]
  by_cases h:i<j
  ·rw [show decide ((i:Int)<(j:Int))=true by simpa using h,cond_true,bZ (show (i+j)/2<x.length by omega),ab,O5,ab]
   by_cases hc:(x[(i+j)/2]'(by omega)).1<t
   ·simp only [hc,if_true,show decide ((-1:Int)<0)=true from rfl,cond_true]
    rw [pw (by omega)]
    exact Bp hs hx n ((i+j)/2+1) j (by omega) hj (fun k hk hki=>by
     by_cases e:k=(i+j)/2
     ·subst e;exact hc
     ·have:=hp k ((i+j)/2) hk (by omega) (by omega);omega) h2 (by omega)
   ·have:decide ((if (x[(i+j)/2]'(by omega)).1<t then (-1:Int) else if t<(x[(i+j)/2]'(by omega)).1 then 1 else 0)<0)=false:=by
     simp only [hc,if_false];split <;> rfl
    rw [this,cond_false]
    exact Bp hs hx n i ((i+j)/2) (by omega) (by omega) h1 (fun k hk hki=>by
     by_cases e:k=(i+j)/2
     ·subst e;omega
     ·have:=hp ((i+j)/2) k (by omega) hk (by omega);omega) (by omega)
  ·have:i=j:=by omega
   subst this
   rw [show decide ((i:Int)<(i:Int))=false by simp,cond_false]
   by_cases hl:i<x.length
   ·rw [show decide ((i:Int)<(List.length x:Int))=true by simpa using hl,cg,bZ hl,ab,cg,O5,ab]
    refine ⟨i,_,rfl,hj,h1,h2,?_⟩
    have:=h2 i hl (Nat.le_refl _)
    simp only [hl,exists_true_left,Bool.true_and,beq_iff_eq]
    split
    ·omega
    ·split <;> omega
   ·rw [show decide ((i:Int)<(List.length x:Int))=false by simpa using hl,dk,dk]
    exact ⟨i,_,rfl,hj,h1,h2,by simp [hl]⟩
theorem ON {x:List (Int×Int)} (t:Int) (hs:lX x) (hx:x.length<1099511627776):
  ∃ (p q:List (Int×Int)),x=p++q∧(∀ e∈p,e.1<t)∧(∀ e∈q,t≤e.1)∧
   aM x t=some ((p.length:Int),(q.head?.map (·.1))==some t):=by
 obtain ⟨m,b,h,hm,h1,h2,hb⟩:=Bp (t:=t) hs.1 hx az 0 x.length (by omega) (by omega) (fun k _ h=>by omega) (fun k h h'=>by omega) (by show _<2^64;omega)
 refine ⟨x.take m,x.drop m,(List.take_append_drop m x).symm,?_,?_,?_⟩
 ·intro e he
  obtain ⟨k,hk,rfl⟩:=List.getElem_of_mem he
  simp only [List.length_take] at hk
  rw [List.getElem_take];exact h1 k _ (by omega)
 ·intro e he
  obtain ⟨k,hk,rfl⟩:=List.getElem_of_mem he
  rw [List.getElem_drop];exact h2 (m+k) _ (by omega)
 ·unfold aM
  have h:aq (bg x t) az (0,(x.length:Int))=some ((m:Int),b):=h
  rw [h,List.length_take,Nat.min_eq_left hm]
  congr 2
  rw [Bool.eq_iff_iff,hb,beq_iff_eq,List.head?_drop]
  by_cases hl:m<x.length
  ·rw [List.getElem?_eq_getElem hl];simp [hl]
  ·rw [List.getElem?_eq_none (by omega)];simp [hl]
theorem Re:bh=aM:=rfl
theorem Rv:wW=oa:=rfl
theorem OK {d:Int×List Nd×Int×Int×List Int} {i:Int} (b:Int) (h0:0≤i) (hi:i<d.2.1.length) (hr:lX (nx d.2.1 i)) (hl:(nx d.2.1 i).length<1099511627776):
  (∃ e∈nx d.2.1 i,e.1=b∧oa d i b=some e.2)∨((∀ e∈nx d.2.1 i,e.1≠b)∧oa d i b=some (-1)):=by
 obtain ⟨p,q,hx,hp,hq,h⟩:=ON b hr hl
 unfold oa
 rw [show (i== -1)=false by simp;omega,cond_false,ox h0 hi]
 simp only [ab]
 rw [h,ab]
 cases q with
 | nil=>
  refine .inr ⟨fun e he=> ?_,rfl⟩
  rw [hx] at he
  have:=hp e (by simpa using he);omega
 | cons e q=>
  by_cases hb:e.1=b
  ·refine .inl ⟨e,by rw [hx];simp,hb,?_⟩
   simp only [List.head?_cons,Option.map_some,hb,beq_self_eq_true,Bool.not_true,cond_false]
   rw [sW hx];rfl
  ·refine .inr ⟨fun x he=> ?_,?_⟩
   ·rw [hx] at he hr
    rcases List.mem_append.1 he with he | he
    ·have:=hp x he;omega
    ·rcases List.mem_cons.1 he with rfl | he'
     ·exact hb
     ·have h1:=(List.pairwise_cons.1 (List.pairwise_append.1 hr.1).2.1).1 x he'
      have h2:=hq e (by simp)
      omega
   ·have:((List.head? (e::q)).map (·.1)==some b)=false:=by simp [hb]
    rw [this];rfl
theorem HH {s1 s2:List (Int×Int)} (hl:s1.length=s2.length) (hb:s1.length<1099511627776): ∀ (n k:Nat),k≤s1.length→s1.length-k<n→
  aq (dy s1 s2) n (k:Int)=some (decide (s1.drop k=s2.drop k))
 | 0,_,_,h=>by omega
 | n+1,k,hk,hn=>by
  rw [aK]
  unfold dy
  by_cases h:k<s1.length
  ·rw [show decide ((k:Int)<(List.length s1:Int))=true by simpa using h,cond_true,bZ h,bZ (hl▸h)]
   simp only [ab]
   rw [pw (by omega),List.drop_eq_getElem_cons h,List.drop_eq_getElem_cons (show k<s2.length from hl▸h)]
   unfold K5
   by_cases e:s1[k]=s2[k]'(hl▸h)
   ·rw [← e]
    simp only [beq_self_eq_true,Bool.and_self,Bool.not_true,cond_false,List.cons.injEq,true_and]
    exact HH hl hb n (k+1) (by omega) (by omega)
   ·have:(s1[k].1==(s2[k]'(hl▸h)).1&&s1[k].2==(s2[k]'(hl▸h)).2)=false:=by
     rw [Bool.eq_false_iff];intro h'
     simp only [Bool.and_eq_true,beq_iff_eq] at h'
     exact e (Prod.ext h'.1 h'.2)
    rw [this]
    simp only [Bool.not_false,cond_true,Option.some.injEq]
    symm;rw [decide_eq_false_iff_not]
    intro h';exact e (List.cons.inj h').1
  ·rw [show decide ((k:Int)<(List.length s1:Int))=false by simpa using h,cond_false,List.drop_eq_nil_of_le (by omega),List.drop_eq_nil_of_le (by omega)];rfl
theorem Sn {s1 s2:List (Int×Int)} (hb:s1.length<1099511627776):cO s1 s2=some (decide (s1=s2)):=by
 unfold cO
 by_cases hl:s1.length=s2.length
 ·rw [show ((List.length s1:Int) != (List.length s2:Int))=false by simp [hl],cond_false]
  exact HH hl hb az 0 (by omega) (by show _<2^64;omega)
 ·have:s1≠s2:=fun e=>hl (by rw [e])
  rw [show ((List.length s1:Int) != (List.length s2:Int))=true by simp only [bne_iff_ne,ne_eq];omega,cond_true]
  simp [this]
theorem oz {N:List Nd} {A:List Int} {y:List (Int×Bool)} {next:List (Int×Int)} (hv: ∀ i:Int,0≤i→i<N.length→((0<rf N i∨du (some y) i false=true)↔i∈A)) (hb: ∀ i∈A,(nx N i).length<1099511627776) (hN:N.length<1099511627776): ∀ (n k:Nat),k≤N.length→N.length-k<n→
  (∃ i:Int,aq (dD next N (some y)) n (k:Int)=some (i,true)∧i∈A∧0≤i∧i<N.length∧nx N i=next)∨
  (aq (dD next N (some y)) n (k:Int)=some (-1,false)∧ ∀ i∈A,(k:Int)≤i→i<N.length→nx N i≠next)
 | 0,_,_,h=>by omega
 | n+1,k,hk,hn=>by
  rw [aK]
  unfold dD
  by_cases h:k<N.length
  ·rw [show decide ((k:Int)<(List.length N:Int))=true by simpa using h,cond_true,ox (by omega) (by omega)]
   simp only [ab,bF]
   rw [pw (by omega)]
   have ih:=oz (next:=next) hv hb hN n (k+1) (by omega) (by omega)
   have hk':=hv (k:Int) (by omega) (by omega)
   have go:(∀ x:Int,x∈A→x=(k:Int)→nx N x≠next)→(∃ i:Int,aq (dD next N (some y)) n ((k+1:Nat):Int)=some (i,true)∧i∈A∧0≤i∧i<N.length∧nx N i=next)∨
     (aq (dD next N (some y)) n ((k+1:Nat):Int)=some (-1,false)∧ ∀ i∈A,(k:Int)≤i→i<N.length→nx N i≠next):=by
    intro hne
    rcases ih with h | ⟨h1,h2⟩
    ·exact .inl h
    ·exact .inr ⟨h1,fun i hi hki hiN=>by
      by_cases e:i=(k:Int)
      ·exact hne i hi e
      ·exact h2 i hi (by omega) hiN⟩
   by_cases ha:(k:Int)∈A
   ·have:(decide (0<rf N (k:Int))||du (some y) (k:Int) false)=true:=by simpa using hk'.2 ha
    rw [this,cg,Sn (hb _ ha),ab]
    by_cases he:nx N (k:Int)=next
    ·left
     exact ⟨(k:Int),by simp [he],ha,by omega,by omega,he⟩
    ·simp only [he,decide_false,Bool.and_false,cond_false]
     exact go fun x _ e=>by rw [e];exact he
   ·have:(decide (0<rf N (k:Int))||du (some y) (k:Int) false)=false:=by
     rw [Bool.eq_false_iff];intro h';exact ha (hk'.1 (by simpa using h'))
    rw [this,dk]
    simp only [Bool.false_and,cond_false]
    exact go fun x hx e=>absurd (e▸hx) ha
  ·rw [show decide ((k:Int)<(List.length N:Int))=false by simpa using h,cond_false]
   exact .inr ⟨rfl,fun i _ h1 h2=>by omega⟩
end Df
end Go.Proofs.YtgcgmclghbebjaaGreat
namespace Go.Proofs.YtgcgmclghbebjaaGreat
namespace Df
theorem m8 {l:List (Int×Int)} (h:lX l):l.length≤256:=by
 have h1:(l.map (·.1)).Nodup:=by
  refine List.pairwise_map.2 (h.1.imp ?_)
  intro a b h;omega
 have:=EC h1 (m:=(List.range 256).map Int.ofNat) fun x hx=>by
  obtain ⟨e,he,rfl⟩:=List.mem_map.1 hx
  have:=h.2 e he
  exact List.mem_map.2 ⟨e.1.toNat,by simp;omega,by simp;omega⟩
 simpa using this
theorem Ky {l:List (Int×Bool)} {r i:Int}:jr (iL l r true) i=if i=r then some true else jr l i:=by
 induction l with
 | nil=>
  by_cases h:i=r
  ·subst h;simp [iL,jr]
  ·simp [iL,jr,h,show (i==r)=false by simpa using h]
 | cons p l ih=>
  unfold iL
  by_cases h:r=p.1
  ·subst h
   simp only [beq_self_eq_true,cond_true]
   by_cases h':i=p.1
   ·subst h';simp [jr]
   ·simp [jr,h',show (i==p.1)=false by simpa using h']
  ·simp only [show (r==p.1)=false by simpa using h,cond_false]
   by_cases h':i=p.1
   ·subst h';simp [jr,Ne.symm h]
   ·simp only [jr,show (i==p.1)=false by simpa using h',cond_false,ih]
theorem zJ {l:List (Int×Bool)} {r i:Int}:du (some (iL l r true)) i false=true↔i=r∨du (some l) i false=true:=by
 unfold du
 simp only [Option.getD_some,Ky]
 by_cases h:i=r <;> simp [h]
theorem Oz {N:List Nd} {F A X T:List Int} {W:Nat} (I:Inv N F [] A X T W) (hN:N.length<1099511627775) (wi ro ma:Int) (y:Option (List (Int×Bool))):
  ∃ i N1 F1,j9 wi N ro ma F y=some (i,N1,F1)∧(i::(A++F1)).Nodup∧(∀ j,j∈i::(A++F1)↔0≤j∧j<N1.length)∧(∀ j,j≠i→nx N1 j=nx N j∧rf N1 j=rf N j)∧rf N i=0∧N1.length≤N.length+1:=by
 unfold j9
 have hnd:=I.nd;have hr:=I.rng
 simp only [List.append_nil] at hnd hr
 by_cases h0:F=[]
 ·subst h0
  simp only [List.append_nil] at hnd hr
  rw [show ((List.length ([]:List Int):Int)==0)=true from rfl,cond_true,cr (by simp;omega) (by simp;omega),aW]
  have hn:((N.length:Nat):Int)∉A:=fun h=>by have:=(hr _).1 h;omega
  refine ⟨(N.length:Nat),N++[([],0)],[],?_,?_,?_,?_,I.dead _ hn,by simp⟩
  ·rw [w64 (by simp;omega)];simp
  ·simp only [List.append_nil];exact List.nodup_cons.2 ⟨hn,hnd⟩
  ·intro j
   simp only [List.append_nil,List.mem_cons,hr j,List.length_append,List.length_cons,List.length_nil]
   omega
  ·intro j hj
   have:idx (N++[([],0)]) j=idx N j:=by
    unfold idx
    split
    ·by_cases h:j.toNat<N.length
     ·rw [List.getElem?_append_left h]
     ·rw [List.getElem?_eq_none (by simp;omega),List.getElem?_eq_none (by omega)]
    ·rfl
   unfold nx rf
   rw [this];exact ⟨rfl,rfl⟩
 ·rw [show ((List.length F:Int)==0)=false by simpa using h0,cond_false]
  have hF:F.length≤N.length:=by
   have:=EC (l:=F) (List.nodup_append.1 hnd).2.1 (m:=(List.range N.length).map Int.ofNat) fun x hx=>by
    have:=(hr x).1 (by simp [hx])
    exact List.mem_map.2 ⟨x.toNat,by simp;omega,by simp;omega⟩
   simpa using this
  obtain ⟨x,F1,h,p⟩:=QF h0 (by omega)
  rw [h,ab]
  have p2:(x::(A++F1)).Perm (A++F):=(List.perm_middle.symm).trans (List.Perm.append_left A p)
  refine ⟨x,N,F1,rfl,p2.nodup_iff.2 hnd,fun j=>(p2.mem_iff).trans (hr j),fun _ _=>⟨rfl,rfl⟩,I.dead x ?_,by omega⟩
  intro hx
  have:=(List.nodup_cons.1 (p2.nodup_iff.2 hnd)).1
  exact this (by simp [hx])
theorem RA {next:List (Int×Int)} {r:Int×List Nd×List Int} {m:List (Int×Bool)} (hx:next.length<1099511627776): ∀ (q p:List (Int×Int)),next=p++q→ ∀ (l:List Nd),(∀ e∈q,0≤e.2∧e.2<l.length)→(∀ j,0≤rf l j∧rf l j+q.length<1099511627776)→
  ∀ n,q.length<n→ ∃ l',aq (fW next r m) n (l,(p.length:Int))=some (r.1,l',r.2.2,some (iL m r.1 true))∧l'.length=l.length∧(∀ j,nx l' j=nx l j)∧ ∀ j,rf l' j=rf l j+((q.map (·.2)).count j:Nat)
 | [],p,h,l,_,_,n,hn=>by
  obtain ⟨n,rfl⟩: ∃ k,n=k+1:=⟨n-1,by simp at hn;omega⟩
  rw [aK]
  unfold fW
  dsimp only
  rw [iS h,cond_false]
  exact ⟨l,rfl,rfl,fun _=>rfl,fun _=>by simp⟩
 | e::q,p,h,l,hq,hb,n,hn=>by
  obtain ⟨n,rfl⟩: ∃ k,n=k+1:=⟨n-1,by simp at hn;omega⟩
  rw [aK]
  unfold fW
  have he:=hq e (by simp)
  have hbe:=hb e.2
  simp only [List.length_cons] at hb hbe
  dsimp only
  rw [gi h,cond_true,sW h]
  simp only [ab]
  rw [ox he.1 he.2]
  simp only [ab]
  have hp:p.length<1099511627776:=by rw [h] at hx;simp at hx;omega
  rw [pw (by omega),w64 (by omega)]
  have hnx: ∀ j,nx (l.set e.2.toNat (nx l e.2,rf l e.2+1)) j=nx l j:=fun j=>by
   rw [wL he.1 he.2];split
   ·rename_i h;rw [h]
   ·rfl
  have hrf: ∀ j,rf (l.set e.2.toNat (nx l e.2,rf l e.2+1)) j=if j=e.2 then rf l j+1 else rf l j:=fun j=>by
   rw [vn he.1 he.2];split
   ·rename_i h;rw [h]
   ·rfl
  obtain ⟨l',h1,h2,h3,h4⟩:=RA (r:=r) (m:=m) hx q (p++[e]) (by rw [h];simp) (l.set e.2.toNat (nx l e.2,rf l e.2+1)) (fun x hx=>by
   rw [List.length_set];exact hq x (by simp [hx])) (fun j=>by
   rw [hrf];have:=hb j;split <;> omega) n (by simp at hn;omega)
  refine ⟨l',?_,by rw [h2,List.length_set],fun j=>(h3 j).trans (hnx j),fun j=> ?_⟩
  ·rw [show ((p.length+1:Nat):Int)=((p++[e]).length:Int) by simp];exact h1
  ·rw [h4,hrf,List.map_cons,List.count_cons]
   by_cases hj:j=e.2
   ·subst hj;simp;omega
   ·have hj': ¬ e.2=j:=fun h=>hj h.symm
    simp [hj,hj']
theorem H3 {N:List Nd} {F A X T:List Int} {W h:Nat} {y:List (Int×Bool)} {next:List (Int×Int)} (I:Inv N F [] A X T W) (hN:N.length<1099511627775) (hb: ∀ j,rf N j<549755813888)
  (hy1: ∀ i,du (some y) i false=true→i∈A) (hy2: ∀ i∈A,rf N i=0→du (some y) i false=true)
  (hr:lX next) (hW:h≤W) (hk:(h=0∧next=[])∨ ∃ k,h=k+1∧next≠[]∧ ∀ e∈next,At N A k e.2) (hT: ∀ t∈T,t∈next.map (·.2)) (wi ro ma:Int):
  ∃ r N' F' y' A',jg next wi N ro ma F (some y)=some (r,N',F',some y')∧Inv N' F' [] A' X [r] W∧nx N' r=next∧(∀ j∈A,j∈A'∧nx N' j=nx N j)∧At N' A' h r∧
   (∀ i,du (some y') i false=true→i∈A')∧(∀ i∈A',rf N' i=0→du (some y') i false=true)∧N'.length≤N.length+1∧ ∀ j,rf N' j≤256+rf N j:=by
 have hlen:=m8 hr
 have hkA: ∀ e∈next,e.2∈A:=by
  rcases hk with ⟨_,rfl⟩ | ⟨k,_,_,h⟩
  ·intro e he;cases he
  ·exact fun e he=>(h e he).mem
 have hat: ∀ {N' A'},(∀ j∈A,j∈A')→(∀ j∈A,nx N' j=nx N j)→ ∀ r∈A',nx N' r=next→At N' A' h r:=by
  intro N' A' h1 h2 r hr' hn
  rcases hk with ⟨rfl,h⟩ | ⟨k,rfl,hne,h⟩
  ·exact ⟨hr',by rw [hn,h]⟩
  ·exact ⟨hr',by rw [hn];exact hne,by rw [hn];exact hr,fun e he=>by rw [hn] at he;exact (h e he).grow h1 h2⟩
 unfold jg
 have hv: ∀ i:Int,0≤i→i<N.length→((0<rf N i∨du (some y) i false=true)↔i∈A):=fun i _ _=>by
  constructor
  ·rintro (h | h)
   ·by_cases ha:i∈A
    ·exact ha
    ·have:=I.dead i ha;omega
   ·exact hy1 i h
  ·intro ha
   have:=I.pos i
   by_cases h0:rf N i=0
   ·exact .inr (hy2 i ha h0)
   ·exact .inl (by omega)
 have hs:=oz (next:=next) hv (fun i hi=>by
  obtain ⟨k,_,a⟩:=I.good i hi
  have:=m8 a.wE;omega) (by omega) az 0 (by omega) (by show _<2^64;omega)
 have he:oG next wi N ro ma F (some y)=aq (dD next N (some y)) az ((0:Nat):Int):=rfl
 rw [he]
 rcases hs with ⟨i,h1,h2,h3,h4,h5⟩ | ⟨h1,h2⟩
 ·rw [h1]
  refine ⟨i,N,F,y,A,rfl,⟨I.nd,I.rng,I.cnt,I.dead,fun j hj h0=> ?_,I.dist,I.good⟩,h5,fun j hj=>⟨hj,rfl⟩,hat (fun _ h=>h) (fun _ _=>rfl) i h2 h5,hy1,hy2,by omega,fun j=>by omega⟩
  have:=hT j (I.top j hj h0)
  have:=I.led h2 (i:=j) (by unfold tg;rw [h5];exact this)
  omega
 ·rw [h1]
  simp only [ab,cond_false]
  obtain ⟨i,N1,F1,g1,g2,g3,g4,g5,g6⟩:=Oz I hN wi ro ma (some y)
  rw [g1]
  simp only [ab]
  have hi:=(g3 i).1 (by simp)
  obtain ⟨x,hx⟩:=vH hi.1 hi.2
  rw [hx]
  simp only [ab]
  have hiA:i∉A:=fun h=>(List.nodup_cons.1 g2).1 (by simp [h])
  have n1: ∀ j,nx (N1.set i.toNat (next,0)) j=if j=i then next else nx N j:=fun j=>by
   rw [wL hi.1 hi.2];split
   ·rfl
   ·rename_i h;exact (g4 j h).1
  have r1: ∀ j,rf (N1.set i.toNat (next,0)) j=rf N j:=fun j=>by
   rw [vn hi.1 hi.2];split
   ·rename_i h;rw [h,g5]
   ·rename_i h;exact (g4 j h).2
  obtain ⟨N',e1,e2,e3,e4⟩:=RA (next:=next) (r:=(i,N1,F1)) (m:=y) (by omega) next [] rfl (N1.set i.toNat (next,0)) (fun e he=>by
   rw [List.length_set];exact (g3 _).1 (by simp [hkA e he])) (fun j=>by
   rw [r1];have:=I.pos j;have:=hb j;omega) az (by show _<2^64;omega)
  have e1:aq (fW next (i,N1,F1) y) az (N1.set i.toNat (next,0),0)=some (i,N',F1,some (iL y i true)):=e1
  rw [e1]
  have nA: ∀ j∈A,nx N' j=nx N j:=fun j hj=>by
   rw [e3,n1,if_neg (fun h=>hiA (by rw [← h];exact hj))]
  have nI:nx N' i=next:=by rw [e3,n1,if_pos rfl]
  have rJ: ∀ j,rf N' j=rf N j+((next.map (·.2)).count j:Nat):=fun j=>by rw [e4,r1]
  have tJ: ∀ j∈A,tg N' j=tg N j:=fun j hj=>by unfold tg;rw [nA j hj]
  have tA:A.flatMap (tg N')=A.flatMap (tg N):=by rw [List.flatMap_def,List.flatMap_def,List.map_congr_left tJ]
  have cI: ∀ j,rf N' j=(((i::A).flatMap (tg N')++X).count j:Nat):=fun j=>by
   rw [rJ,I.cnt,List.flatMap_cons,tA,List.append_assoc,List.count_append (l₁:=tg N' i)]
   unfold tg;rw [nI];omega
  refine ⟨i,N',F1,iL y i true,i::A,rfl,⟨?_,?_,cI,?_,?_,?_,?_⟩,nI,fun j hj=>⟨by simp [hj],nA j hj⟩,hat (fun j hj=>by simp [hj]) nA i (by simp) nI,?_,?_,?_,?_⟩
  ·simp only [List.append_nil];exact g2
  ·intro j;simp only [List.append_nil];rw [e2,List.length_set];exact g3 j
  ·intro j hj
   simp only [List.mem_cons,not_or] at hj
   rw [rJ,I.dead j hj.2,List.count_eq_zero.2]
   ·rfl
   ·intro h
    obtain ⟨e,he,rfl⟩:=List.mem_map.1 h
    exact hj.2 (hkA e he)
  ·intro j hj h0
   rcases List.mem_cons.1 hj with rfl | hj
   ·simp
   ·have:=rJ j
    have:=I.pos j
    have h:=hT j (I.top j hj (by omega))
    have:=List.count_pos_iff.2 h
    omega
  ·intro a ha b hb' hab
   rcases List.mem_cons.1 ha with h4 | h4 <;> rcases List.mem_cons.1 hb' with h5 | h5
   ·rw [h4,h5]
   ·rw [h4,nI,nA b h5] at hab
    exact absurd hab.symm (h2 b h5 (by have:=I.range h5;omega) (I.range h5).2)
   ·rw [h5,nI,nA a h4] at hab
    exact absurd hab (h2 a h4 (by have:=I.range h4;omega) (I.range h4).2)
   ·rw [nA a h4,nA b h5] at hab
    exact I.dist a h4 b h5 hab
  ·intro j hj
   rcases List.mem_cons.1 hj with rfl | hj
   ·exact ⟨h,hW,hat (fun j hj=>by simp [hj]) nA _ (by simp) nI⟩
   ·obtain ⟨k,hk,a⟩:=I.good j hj
    exact ⟨k,hk,a.grow (fun j hj=>by simp [hj]) nA⟩
  ·intro j hj
   rcases zJ.1 hj with rfl | hj
   ·simp
   ·simp [hy1 j hj]
  ·intro j hj h0
   rw [zJ]
   rcases List.mem_cons.1 hj with rfl | hj
   ·exact .inl rfl
   ·have:=rJ j
    have:=I.pos j
    exact .inr (hy2 j hj (by omega))
  ·rw [e2,List.length_set];exact g6
  ·intro j
   rw [rJ]
   have:=List.count_le_length (a:=j) (l:=next.map (·.2))
   simp at this;omega
end Df
end Go.Proofs.YtgcgmclghbebjaaGreat
namespace Go.Proofs.YtgcgmclghbebjaaGreat
namespace Df
theorem Pc {ρ:Type} {x:List (Int×Int)} (hx:lX x) {b r:Int} (hb:0≤b∧b<256) (K:List (Int×Int)→Option ρ):
  ∃ y,lX y∧y≠[]∧(∀ e,e∈y↔e=(b,r)∨(e∈x∧e.1≠b))∧
   ((bh x b).bind fun r46=>
    bif r46.2 then ((idx x r46.1).bind fun _=>K (List.set x (Int.toNat r46.1) (b,r)))
    else (chk (oE r46.1 (List.length x))<|chk (aB (List.length x+List.length ([(b,r)]:List (Int×Int))) 16)<|K (fU x r46.1 ([(b,r)]:List (Int×Int)))))=K y:=by
 have hl:=m8 hx
 obtain ⟨p,q,e,hp,hq,h⟩:=ON b hx (by omega)
 rw [Re,h]
 simp only [ab]
 have hR:=hx
 rw [e] at hR
 have hA:=List.pairwise_append.1 hR.1
 have mk: ∀ q':List (Int×Int),q'.Pairwise (fun a b=>a.1<b.1)→(∀ e∈q',b<e.1)→(∀ e∈q',e∈q)→lX (p++(b,r)::q'):=by
  intro q' h1 h2 h3
  refine ⟨List.pairwise_append.2 ⟨hA.1,List.pairwise_cons.2 ⟨h2,h1⟩,?_⟩,?_⟩
  ·intro u hu v hv
   rcases List.mem_cons.1 hv with rfl | hv
   ·exact hp u hu
   ·exact hA.2.2 u hu v (h3 v hv)
  ·intro u hu
   rcases List.mem_append.1 hu with hu | hu
   ·exact hR.2 u (by simp [hu])
   ·rcases List.mem_cons.1 hu with rfl | hu
    ·exact hb
    ·exact hR.2 u (by simp [h3 u hu])
 have out: ∀ q':List (Int×Int),(∀ e∈q',b<e.1)→chk (oE (p.length:Int) (List.length x)) (chk (aB (List.length x+List.length ([(b,r)]:List (Int×Int))) 16) (K (fU x (p.length:Int) [(b,r)])))=K (p++(b,r)::q):=by
  intro _ _
  rw [EK.2 (by rw [e];simp;omega),cr (by simp;omega) (by simp;omega),aW,aW]
  congr 1
  unfold fU
  rw [e];simp
 cases q with
 | nil=>
  refine ⟨p++[(b,r)],mk [] .nil (by simp) (by simp),by simp,fun u=> ?_,?_⟩
  ·rw [e]
   simp only [List.mem_append,List.mem_singleton,List.append_nil]
   constructor
   ·rintro (h | h)
    ·exact .inr ⟨h,by have:=hp u h;omega⟩
    ·exact .inl h
   ·rintro (h | h)
    ·exact .inr h
    ·exact .inl h.1
  ·exact out [] (by simp)
 | cons z q=>
  have hz:=List.pairwise_cons.1 hA.2.1
  by_cases hb':z.1=b
  ·refine ⟨p++(b,r)::q,mk q hz.2 (fun u hu=>by have:=hz.1 u hu;omega) (by simp+contextual),by simp,fun u=> ?_,?_⟩
   ·rw [e]
    simp only [List.mem_append,List.mem_cons]
    constructor
    ·rintro (h | h | h)
     ·exact .inr ⟨.inl h,by have:=hp u h;omega⟩
     ·exact .inl h
     ·exact .inr ⟨.inr (.inr h),by have:=hz.1 u h;omega⟩
    ·rintro (h | ⟨h | h | h,hn⟩)
     ·exact .inr (.inl h)
     ·exact .inl h
     ·rw [h] at hn;exact absurd hb' hn
     ·exact .inr (.inr h)
   ·simp only [List.head?_cons,Option.map_some,hb',beq_self_eq_true,cond_true]
    rw [sW e]
    simp only [ab,Int.toNat_natCast]
    rw [e];simp
  ·have hlt:b<z.1:=by have:=hq z (by simp);omega
   refine ⟨p++(b,r)::z::q,mk (z::q) hA.2.1 (fun u hu=>by
    rcases List.mem_cons.1 hu with rfl | hu
    ·exact hlt
    ·have:=hz.1 u hu;omega) (fun _ h=>h),by simp,fun u=> ?_,?_⟩
   ·rw [e]
    simp only [List.mem_append,List.mem_cons]
    constructor
    ·rintro (h | h | h | h)
     ·exact .inr ⟨.inl h,by have:=hp u h;omega⟩
     ·exact .inl h
     ·exact .inr ⟨.inr (.inl h),by rw [h];omega⟩
     ·exact .inr ⟨.inr (.inr h),by have:=hz.1 u h;omega⟩
    ·rintro (h | ⟨h | h | h,hn⟩)
     ·exact .inr (.inl h)
     ·exact .inl h
     ·exact .inr (.inr (.inl h))
     ·exact .inr (.inr (.inr h))
   ·have:((List.head? (z::q)).map (·.1)==some b)=false:=by simp [hb']
    rw [this,cond_false]
    exact out [] (by simp)
abbrev SP:=Int×List Int×Int×List Nd×Int×Int×List Int×Option (List (Int×Bool))
abbrev RP:=Int×List Nd×List Int×Option (List (Int×Bool))
noncomputable def PUT (k:SP→Option RP) (s:SP):Option RP:=fC k s.1 s.2.1 s.2.2.1 s.2.2.2.1 s.2.2.2.2.1 s.2.2.2.2.2.1 s.2.2.2.2.2.2.1 s.2.2.2.2.2.2.2
theorem put_eq (at_:Int) (w:List Int) (wi:Int) (N:List Nd) (ro ma:Int) (F:List Int) (y:Option (List (Int×Bool))):mg at_ w wi N ro ma F y=aq PUT az (at_,w,wi,N,ro,ma,F,y):=rfl
theorem O9 {ρ:Type} (x:List (Int×Int)) (k:Int) (e:Int×Int) (K:List (Int×Int)→Option ρ):(Be 16 x k [e]).bind K=chk (oE k x.length) (chk (aB (x.length+[e].length) 16) (K (fU x k [e]))):=by
 show (chk (oE k x.length&&aB (x.length+[e].length) 16) (some (fU x k [e]))).bind K=_
 cases oE k x.length <;> cases aB (x.length+[e].length) 16 <;> rfl
theorem RD {l:List (Int×Int)} (h:l.length<1000000000):cM l=some l:=by
 unfold cM
 rw [So.aW (So.cr (by omega) (by omega))]
noncomputable def MT (N:List Nd) (_F A X:List Int) (W:Nat) (w:List Int) (at_:Int) (res:Option RP):Prop:=
 ∃ r N' F' y' A',res=some (r,N',F',some y')∧Inv N' F' [] A' X [r] W∧(∀ j∈A,j∈A'∧nx N' j=nx N j)∧At N' A' w.length r∧
  (∀ i,du (some y') i false=true→i∈A')∧(∀ i∈A',rf N' i=0→du (some y') i false=true)∧N'.length≤N.length+(w.length+1)∧(∀ j,rf N' j≤256*((w.length:Int)+1)+rf N j)∧
  ∀ v,v.length=w.length→(acc N' v r↔v=w∨(at_≠ -1∧acc N v at_))
theorem Ku {W:Nat} (wi ro ma:Int) {X:List Int}: ∀ (w:List Int) (at_:Int) (N:List Nd) (F A:List Int) (y:List (Int×Bool)),(∀ b∈w,0≤b∧b<256)→w.length≤W→(at_= -1∨At N A w.length at_)→Inv N F [] A X [] W→
  (∀ i,du (some y) i false=true→i∈A)→(∀ i∈A,rf N i=0→du (some y) i false=true)→N.length+(w.length+1)<1099511627775→(∀ j,rf N j+256*((w.length:Int)+1)<549755813888)→ ∀ n,w.length<n→
  MT N F A X W w at_ (aq PUT n (at_,w,wi,N,ro,ma,F,some y))
 | [],at_,N,F,A,y,_,hW,hat,I,hy1,hy2,hN,hrf,n,hn=>by
  obtain ⟨n,rfl⟩: ∃ k,n=k+1:=⟨n-1,by simp at hn;omega⟩
  rw [aK]
  unfold PUT fC
  simp only [List.length_nil]
  rw [show (((0:Nat):Int)==0)=true from rfl,cond_true]
  obtain ⟨r,N',F',y',A',h1,h2,h3,h4,h5,h6,h7,h8,h9⟩:=H3 (h:=0) (next:=[]) I (by simp at hN;omega) (fun j=>by have:=hrf j;simp at this;omega) hy1 hy2 ⟨.nil,by simp⟩ (by omega) (.inl ⟨rfl,rfl⟩) (by simp) wi ro ma
  rw [h1]
  refine ⟨r,N',F',y',A',rfl,h2,h4,h5,h6,h7,by simp;omega,fun j=>by have:=h9 j;simp;omega,fun v hv=> ?_⟩
  have:v=[]:=List.length_eq_zero_iff.1 hv
  subst this
  simp [acc]
 | b::w,at_,N,F,A,y,hw,hW,hat,I,hy1,hy2,hN,hrf,n,hn=>by
  obtain ⟨n,rfl⟩: ∃ k,n=k+1:=⟨n-1,by simp at hn;omega⟩
  rw [aK]
  simp only [List.length_cons] at hN hW hrf hn hat
  have hb:=hw b (by simp)
  -- the rest of the word, and the node
  have rest: ∀ (at2:Int) (x:List (Int×Int)),lX x→(∀ e∈x,At N A w.length e.2)→(at2= -1∨At N A w.length at2)→(at2≠ -1→(b,at2)∈x)→(∀ e∈x,e.1=b→at2≠ -1)→
    (at_≠ -1→nx N at_=x)→(at_= -1→x=[])→oa (wi,N,ro,ma,F) at_ b=some at2→
    MT N F A X W (b::w) at_ (mQ (aq PUT n) at_ (b::w) wi N ro ma F (some y) x):=by
   intro at2 x hx hk ha2 hin hout hx1 hx2 hto
   unfold mQ
   rw [show idx (b::w) 0=some b from rfl]
   simp only [ab]
   rw [qk.2 (by simp;omega),aW,Rv,hto]
   simp only [ab]
   rw [show ba (b::w) 1 ((List.length (b::w):Nat):Int)=w by simp [ba]]
   obtain ⟨r,N1,F1,y1,A1,h1,h2,h3,h4,h5,h6,h7,h8,h9⟩:=Ku wi ro ma w at2 N F A y (fun c hc=>hw c (by simp [hc])) (by omega) ha2 I hy1 hy2 (by omega) (fun j=>by have:=hrf j;omega) n (by omega)
   rw [h1]
   simp only [ab,bF,O9]
   obtain ⟨z,hz,hz0,hzm,hze⟩:=Pc hx hb (r:=r) (mn wi ro ma (r,N1,F1,some y1))
   rw [hze]
   unfold mn
   have kz: ∀ e∈z,At N1 A1 w.length e.2:=by
    intro e he
    rcases (hzm e).1 he with rfl | ⟨he,_⟩
    ·exact h4
    ·exact (hk e he).grow (fun j hj=>(h3 j hj).1) (fun j hj=>(h3 j hj).2)
   obtain ⟨r',N',F',y',A',g1,g2,g3,g4,g5,g6,g7,g8,g9⟩:=H3 (h:=w.length+1) (next:=z) h2 (by omega) (fun j=>by have:=hrf j;have:=h8 j;omega) h5 h6 hz hW (.inr ⟨w.length,rfl,hz0,kz⟩) (fun t ht=>by
    simp only [List.mem_singleton] at ht
    subst ht
    exact List.mem_map.2 ⟨(b,t),(hzm _).2 (.inl rfl),rfl⟩) wi ro ma
   simp only []
   rw [g1]
   refine ⟨r',N',F',y',A',rfl,g2,fun j hj=>⟨(g4 j (h3 j hj).1).1,by rw [(g4 j (h3 j hj).1).2,(h3 j hj).2]⟩,g5,g6,g7,by simp;omega,fun j=>by have:=h8 j;have:=g9 j;simp;omega,?_⟩
   intro v hv
   cases v with
   | nil=>simp at hv
   | cons c v=>
    have hv:v.length=w.length:=by simpa using hv
    have s1: ∀ e∈z,(acc N' v e.2↔acc N1 v e.2):=fun e he=>acc.same (fun j hj=>(g4 j hj).2) (kz e he) hv
    have s2: ∀ e∈x,(acc N1 v e.2↔acc N v e.2):=fun e he=>acc.same (fun j hj=>(h3 j hj).2) (hk e he) hv
    constructor
    ·rintro ⟨e,he,hec,ha⟩
     rw [g3] at he
     rw [s1 e he] at ha
     rcases (hzm e).1 he with rfl | ⟨hex,hne⟩
     ·rcases (h9 v hv).1 ha with rfl | ⟨h0,ha⟩
      ·left;rw [← hec]
      ·right
       have hxa:at_≠ -1:=fun h=>by have:=hin h0;rw [hx2 h] at this;cases this
       exact ⟨hxa,(b,at2),by rw [hx1 hxa];exact hin h0,hec,ha⟩
     ·right
      have hxa:at_≠ -1:=fun h=>by rw [hx2 h] at hex;cases hex
      exact ⟨hxa,e,by rw [hx1 hxa];exact hex,hec,(s2 e hex).1 ha⟩
    ·rintro (h | ⟨hxa,e,he,hec,ha⟩)
     ·cases h
      refine ⟨(b,r),by rw [g3];exact (hzm _).2 (.inl rfl),rfl,?_⟩
      rw [s1 _ ((hzm _).2 (.inl rfl))]
      exact (h9 w rfl).2 (.inl rfl)
     ·rw [hx1 hxa] at he
      by_cases hcb:e.1=b
      ·have h0:=hout e he hcb
       have:e=(b,at2):=Fp hx he (hin h0) hcb
       subst this
       refine ⟨(b,r),by rw [g3];exact (hzm _).2 (.inl rfl),hec,?_⟩
       rw [s1 _ ((hzm _).2 (.inl rfl))]
       exact (h9 v hv).2 (.inr ⟨h0,ha⟩)
      ·have hz':=(hzm e).2 (.inr ⟨he,hcb⟩)
       exact ⟨e,by rw [g3];exact hz',hec,(s1 e hz').2 ((s2 e he).2 ha)⟩
  show MT N F A X W (b::w) at_ (fC (aq PUT n) at_ (b::w) wi N ro ma F (some y))
  generalize aq PUT n=k at rest ⊢
  unfold fC
  simp only [bF]
  rw [show ((List.length (b::w):Int)==0)=false by simp;omega,cond_false]
  by_cases h0:at_= -1
  ·subst h0
   rw [show ((-1:Int) != -1)=false from rfl,cond_false]
   exact rest (-1) [] ⟨.nil,by simp⟩ (by simp) (.inl rfl) (by simp) (by simp) (by simp) (by simp) rfl
  ·have a:=hat.resolve_left h0
   have hm:=I.range a.mem
   rw [show (at_ != -1)=true by simpa [bne_iff_ne] using h0,cond_true,ox hm.1 hm.2]
   simp only [ab]
   have hl:=m8 a.wE
   rw [RD (by omega)]
   simp only [ab]
   rcases OK (d:=(wi,N,ro,ma,F)) b hm.1 hm.2 a.wE (by simp only [];omega) with ⟨e,he,heb,h⟩ | ⟨hne,h⟩
   ·have ae:=a.2.2.2 e he
    have hpos:=(I.range ae.mem).1
    exact rest e.2 (nx N at_) a.wE a.2.2.2 (.inr ae) (fun _=>by rw [← heb];exact he) (fun _ _ _=>by omega) (fun _=>rfl) (fun h=>absurd h h0) h
   ·exact rest (-1) (nx N at_) a.wE a.2.2.2 (.inl rfl) (by simp) (fun e he heb=>absurd heb (hne e he)) (fun _=>rfl) (fun h=>absurd h h0) h
end Df
end Go.Proofs.YtgcgmclghbebjaaGreat
namespace Go.Proofs.YtgcgmclghbebjaaGreat
namespace Df
abbrev SL:=Int×Int×List Nd×Int×Int×List Int×Option (List (Int×Bool))
abbrev RL:=List Nd×List Int
noncomputable def xv (k:SL→Option RL) (s:SL):Option RL:=iU k s.1 s.2.1 s.2.2.1 s.2.2.2.1 s.2.2.2.2.1 s.2.2.2.2.2.1 s.2.2.2.2.2.2
theorem OF (i wi:Int) (N:List Nd) (ro ma:Int) (F:List Int) (y:Option (List (Int×Bool))):kh i wi N ro ma F y=aq xv az (i,wi,N,ro,ma,F,y):=rfl
noncomputable def Leaves (N:List Nd) (Z A X:List Int) (W:Nat) (res:Option RL):Prop:=
 ∃ N' F' A',res=some (N',F')∧Inv N' F' Z A' X [] W∧N'.length=N.length∧(∀ j∈A',j∈A∧nx N' j=nx N j)∧ ∀ j,rf N' j≤rf N j
theorem Inv.E3 {N:List Nd} {F Z A X T:List Int} {W:Nat} (I:Inv N F Z A X T W):F.length≤N.length:=by
 have:=EC (l:=F) (List.nodup_append.1 (List.nodup_append.1 I.nd).1).2.1 (m:=(List.range N.length).map Int.ofNat) fun x hx=>by
  have:=(I.rng x).1 (by simp [hx])
  exact List.mem_map.2 ⟨x.toNat,by simp;omega,by simp;omega⟩
 simpa using this
theorem Inv.perm {N:List Nd} {F Z A X X' T:List Int} {W:Nat} (I:Inv N F Z A X T W) (p:X'.Perm X):Inv N F Z A X' T W:=
 ⟨I.nd,I.rng,fun i=>by rw [I.cnt i,List.count_append,List.count_append,p.count_eq],I.dead,I.top,I.dist,I.good⟩
theorem Aj {W k n:Nat} {wi ro ma i:Int} {y:Option (List (Int×Bool))} {Z X:List Int} {x:Nd}
  (ih:x.1≠[]→ ∀ (i:Int) (N:List Nd) (F Z A X:List Int),At N A k i→Inv N F Z A (i::X) [] W→N.length<1099511627775→(∀ j,rf N j<549755813888)→Leaves N Z A X W (aq xv n (i,wi,N,ro,ma,F,y))) (hx:x.1.length<1099511627776):
  ∀ (q p:List (Int×Int)),x.1=p++q→ ∀ (l:List Nd) (F A:List Int),(∀ e∈q,e.2∈A→At l A k e.2)→Inv l F (i::Z) A (q.map (·.2)++X) [] W→l.length<1099511627775→(∀ j,rf l j<549755813888)→ ∀ m,q.length<m→
   Leaves l Z A X W (aq (ik (aq xv n) i wi ro ma y x) m (l,F,(p.length:Int)))
 | [],p,h,l,F,A,_,I,hl,hr,m,hm=>by
  obtain ⟨m,rfl⟩: ∃ k,m=k+1:=⟨m-1,by simp at hm;omega⟩
  rw [aK]
  unfold ik
  dsimp only
  rw [iS h,cond_false]
  have hi:0≤i∧i<l.length:=(I.rng i).1 (by simp)
  have hiA:i∉A:=fun h=>by
   have:=(List.nodup_append.1 I.nd).2.2 i (by simp [h]) i (by simp)
   exact this rfl
  rw [ox hi.1 hi.2,ab]
  obtain ⟨F',hF,pF⟩:=QD i (h:=F) (by have:=I.E3;omega)
  rw [hF,ab]
  have nJ: ∀ j,j≠i→nx (l.set i.toNat ([],0)) j=nx l j:=fun j h=>by rw [wL hi.1 hi.2,if_neg h]
  have nA: ∀ j∈A,nx (l.set i.toNat ([],0)) j=nx l j:=fun j h=>nJ j fun e=>hiA (e▸h)
  have rJ: ∀ j,rf (l.set i.toNat ([],0)) j=rf l j:=fun j=>by
   rw [vn hi.1 hi.2];split
   ·rename_i h;rw [h,I.dead i hiA]
   ·rfl
  have tJ: ∀ j∈A,tg (l.set i.toNat ([],0)) j=tg l j:=fun j hj=>by unfold tg;rw [nA j hj]
  have tA:A.flatMap (tg (l.set i.toNat ([],0)))=A.flatMap (tg l):=by rw [List.flatMap_def,List.flatMap_def,List.map_congr_left tJ]
  have pp:(A++F'++Z).Perm (A++F++(i::Z)):=by
   refine List.Perm.trans ?_ (List.perm_middle (l₁:=A++F) (a:=i) (l₂:=Z)).symm
   rw [List.append_assoc]
   refine (List.Perm.append_left A (List.Perm.append_right Z pF)).trans ?_
   rw [List.append_assoc]
   exact List.perm_middle
  refine ⟨l.set i.toNat ([],0),F',A,rfl,⟨pp.nodup_iff.2 I.nd,fun j=> ?_,fun j=> ?_,fun j hj=> ?_,fun j hj h=> ?_,fun a ha b hb h=> ?_,fun j hj=> ?_⟩,by simp,fun j hj=>⟨hj,nA j hj⟩,fun j=>by rw [rJ];omega⟩
  ·rw [pp.mem_iff,I.rng,List.length_set]
  ·rw [rJ,tA,I.cnt];rfl
  ·rw [rJ,I.dead j hj]
  ·rw [rJ] at h;exact I.top j hj h
  ·rw [nA a ha,nA b hb] at h;exact I.dist a ha b hb h
  ·obtain ⟨h,hW,a⟩:=I.good j hj
   exact ⟨h,hW,a.grow (fun _ h=>h) nA⟩
 | e::q,p,h,l,F,A,ha,I,hl,hr,m,hm=>by
  obtain ⟨m,rfl⟩: ∃ k,m=k+1:=⟨m-1,by simp at hm;omega⟩
  rw [aK]
  have I:Inv l F (i::Z) A (e.2::(q.map (·.2)++X)) [] W:=I
  have heA:=I.ext (i:=e.2) (by simp)
  obtain ⟨N',F',A',h1,h2,h3,h4,h5⟩:=ih (by rw [h];simp) e.2 l F (i::Z) A _ (ha e (by simp) heA) I hl hr
  have hp:p.length<1099511627776:=by rw [h] at hx;simp at hx;omega
  obtain ⟨N2,F2,A2,g1,g2,g3,g4,g5⟩:=Aj ih hx q (p++[e]) (by rw [h];simp) N' F' A' (fun z hz hzA=>by
   have:=ha z (by simp [hz]) (h4 _ hzA).1
   exact this.bf (fun j hj _=>(h4 j hj).2) (fun j hj _ u hu _=>by
    have:u∈nx N' j:=by rw [(h4 j hj).2];exact hu
    exact h2.closed hj this) hzA) h2 (by omega) (fun j=>by have:=h5 j;have:=hr j;omega) m (by simp at hm;omega)
  refine ⟨N2,F2,A2,?_,g2,by omega,fun j hj=>⟨(h4 j (g4 j hj).1).1,by rw [(g4 j hj).2,(h4 j (g4 j hj).1).2]⟩,fun j=>by have:=h5 j;have:=g5 j;omega⟩
  unfold ik
  dsimp only
  rw [gi h,cond_true,sW h]
  simp only [ab]
  rw [h1]
  simp only [ab]
  rw [pw (by omega),show ((p.length+1:Nat):Int)=((p++[e]).length:Int) by simp]
  exact g1
theorem Nu {W:Nat} {wi ro ma:Int} {y:Option (List (Int×Bool))}: ∀ (h n:Nat),h<n→ ∀ (i:Int) (N:List Nd) (F Z A X:List Int),At N A h i→Inv N F Z A (i::X) [] W→N.length<1099511627775→(∀ j,rf N j<549755813888)→Leaves N Z A X W (aq xv n (i,wi,N,ro,ma,F,y)):=by
 intro h
 induction h with
 | zero=> ?_
 | succ k ih=> ?_
 all_goals
  intro n hn i N F Z A X a I hN hr
  obtain ⟨n,rfl⟩: ∃ k,n=k+1:=⟨n-1,by omega⟩
  rw [aK]
  unfold xv iU
  dsimp only
  have hi:=I.range a.mem
  have hpos:0<rf N i:=by
   rw [I.cnt]
   have:0<(A.flatMap (tg N)++i::X).count i:=List.count_pos_iff.2 (by simp)
   omega
  rw [ox hi.1 hi.2]
  simp only [ab]
  rw [w64 (x:=rf N i-1) (by have:=hr i;omega)]
  have n1:nx (N.set i.toNat (nx N i,rf N i-1))=nx N:=by
   funext j;rw [wL hi.1 hi.2];split
   ·rename_i h;rw [h]
   ·rfl
  have r1: ∀ j,rf (N.set i.toNat (nx N i,rf N i-1)) j=if j=i then rf N i-1 else rf N j:=fun j=>by rw [vn hi.1 hi.2]
  have l1:(N.set i.toNat (nx N i,rf N i-1)).length=N.length:=by simp
  have t1:tg (N.set i.toNat (nx N i,rf N i-1))=tg N:=by unfold tg;rw [n1]
  have c1: ∀ j,rf (N.set i.toNat (nx N i,rf N i-1)) j=((A.flatMap (tg N)++X).count j:Nat):=fun j=>by
   rw [r1]
   have hc:=I.cnt j
   rw [List.count_append,List.count_cons] at hc
   rw [List.count_append]
   split
   ·rename_i h;subst h;simp at hc;omega
   ·rename_i h
    have:(i==j)=false:=by simp;exact fun e=>h e.symm
    rw [this] at hc;simp at hc;omega
  rw [ox (N:=N.set i.toNat (nx N i,rf N i-1)) hi.1 (by rw [l1];exact hi.2)]
  simp only [ab]
  rw [r1,if_pos rfl,n1]
  have n1': ∀ j,nx (N.set i.toNat (nx N i,rf N i-1)) j=nx N j:=fun j=>by rw [n1]
  generalize N.set i.toNat (nx N i,rf N i-1)=N1 at*
  by_cases hz:0<rf N i-1
  ·rw [show decide (0<rf N i-1)=true by simpa using hz,cond_true]
   refine ⟨N1,F,A,rfl,⟨I.nd,fun j=>by rw [l1];exact I.rng j,fun j=>by rw [t1];exact c1 j,fun j hj=> ?_,fun j hj h=> ?_,fun u hu v hv h=> ?_,fun j hj=> ?_⟩,l1,fun j hj=>⟨hj,n1' j⟩,fun j=>by rw [r1];split <;> rename_i h <;> first | (rw [h];omega) | omega⟩
   ·rw [r1,if_neg (fun h=>hj (by rw [h];exact a.mem))];exact I.dead j hj
   ·rw [r1] at h
    split at h
    ·omega
    ·exact I.top j hj h
   ·rw [n1] at h;exact I.dist u hu v hv h
   ·obtain ⟨k,hk,a⟩:=I.good j hj
    exact ⟨k,hk,a.grow (fun _ h=>h) fun j _=>n1' j⟩
  ·rw [show decide (0<rf N i-1)=false by simpa using hz,cond_false]
   have h1:rf N i=1:=by omega
   have hc0:(A.flatMap (tg N)++X).count i=0:=by
    have:=c1 i;rw [r1,if_pos rfl] at this;omega
   have hn0:=List.count_eq_zero.1 hc0
   have pA:A.Perm (i::A.erase i):=List.perm_cons_erase a.mem
   have ndA:A.Nodup:=(List.nodup_append.1 (List.nodup_append.1 I.nd).1).1
   have hiE:i∉A.erase i:=(List.nodup_cons.1 (pA.nodup_iff.1 ndA)).1
   have mE: ∀ j,j∈A.erase i→j∈A:=fun j hj=>List.mem_of_mem_erase hj
   have mN: ∀ j,j∈A→j≠i→j∈A.erase i:=fun j hj h=>(List.mem_erase_of_ne h).2 hj
   have pp:(A.erase i++F++(i::Z)).Perm (A++F++Z):=by
    refine List.perm_middle.trans ?_
    rw [List.append_assoc,List.append_assoc]
    exact (List.Perm.append_right (F++Z) pA).symm
   have kp: ∀ {h:Nat} {j:Int},At N A h j→j∈A.erase i→At N1 (A.erase i) h j:=fun b hb=>b.bf (fun j _ _=>n1' j) (fun j _ hj e he heA=>mN _ heA fun h=>hn0 (by
    simp only [List.mem_append,List.mem_flatMap]
    exact .inl ⟨j,hj,List.mem_map.2 ⟨e,he,h⟩⟩)) hb
   have I1:Inv N1 F (i::Z) (A.erase i) ((nx N i).map (·.2)++X) [] W:=⟨pp.nodup_iff.2 I.nd,fun j=>by rw [pp.mem_iff,I.rng,l1],fun j=>by
     rw [c1,t1]
     have:=(pA.flatMap_right (tg N)).count_eq j
     rw [List.flatMap_cons,List.count_append] at this
     rw [List.count_append,List.count_append,List.count_append,this]
     unfold tg;omega,fun j hj=>by
     rw [r1];split
     ·omega
     ·rename_i h;exact I.dead j fun hj'=>hj (mN j hj' h),fun j hj h=>by
     rw [r1,if_neg (fun h=>hiE (by have h2:=hj;rw [h] at h2;exact h2))] at h
     exact I.top j (mE j hj) h,fun u hu v hv h=>by
     rw [n1] at h;exact I.dist u (mE u hu) v (mE v hv) h,fun j hj=>by
     obtain ⟨k,hk,b⟩:=I.good j (mE j hj)
     exact ⟨k,hk,kp b hj⟩⟩
   have hl:=m8 a.wE
   obtain ⟨k',hk',ih'⟩: ∃ k',(∀ e∈nx N i,At N A k' e.2)∧(nx N i≠[]→ ∀ (i:Int) (N:List Nd) (F Z A X:List Int),At N A k' i→Inv N F Z A (i::X) [] W→N.length<1099511627775→(∀ j,rf N j<549755813888)→Leaves N Z A X W (aq xv n (i,wi,N,ro,ma,F,y))):=by
    first
    | exact ⟨0,by rw [a.2];simp,fun h=>absurd a.2 h⟩
    | exact ⟨k,a.2.2.2,fun _=>ih n (by omega)⟩
   obtain ⟨N',F',A',g1,g2,g3,g4,g5⟩:=Aj (x:=(nx N i,rf N i-1)) (p:=[]) (q:=nx N i) ih' (by simp only [];omega) rfl N1 F (A.erase i) (fun e he heA=>kp (hk' e he) heA) I1 (by omega) (fun j=>by rw [r1];have:=hr j;have:=hr i;split <;> omega) az (by show _<2^64;omega)
   exact ⟨N',F',A',g1,g2,by omega,fun j hj=>⟨mE j (g4 j hj).1,by rw [(g4 j hj).2,n1]⟩,fun j=>by
    have:=g5 j
    rw [r1] at this
    split at this
    ·rename_i h;rw [h] at this ⊢; omega
    ·exact this⟩
end Df
end Go.Proofs.YtgcgmclghbebjaaGreat
namespace Go.Proofs.YtgcgmclghbebjaaGreat
namespace Df
abbrev D:=Int×List Nd×Int×Int×List Int
structure Good (d:D) (W m:Nat) (A:List Int):Prop where
 wide:d.1=W
 w1:1≤W∧W≤64
 m4:m≤2097152
 inv:Inv d.2.1 d.2.2.2.2 [] A (if d.2.2.1= -1 then [] else [d.2.2.1]) [] W
 root:(d.2.2.1= -1∧A=[])∨At d.2.1 A W d.2.2.1
 long:d.2.1.length≤66*m
 refs: ∀ j,rf d.2.1 j≤16896*(m:Int)
 many:d.2.2.2.1=m
noncomputable def qV (d:D) (v:List Int):Prop:=d.2.2.1≠ -1∧acc d.2.1 v d.2.2.1
theorem QR {W:Nat} (h:1≤W∧W≤64):w6 (W:Int)=some (((W:Int),[],-1,0,[]),0):=by
 unfold w6
 simp only [bF]
 rw [show decide ((W:Int)<1)=false by simp;omega,show decide (64<(W:Int))=false by simp;omega]
 rfl
theorem M7 {W:Nat} (h:1≤W∧W≤64):Good ((W:Int),[],-1,0,[]) W 0 [] where
 wide:=rfl
 w1:=h
 m4:=by omega
 inv:=⟨by simp,fun i=>by simp;try omega,fun i=>by simp [rf,idx],fun i _=>by simp [rf,idx],by simp,by simp,by simp⟩
 root:= .inl ⟨rfl,rfl⟩
 long:=by simp
 refs:=fun j=>by simp [rf,idx]
 many:=rfl
theorem yy {d:D} {F Z A X T:List Int} {W:Nat} (I:Inv d.2.1 F Z A X T W) {w:List Int} (hw:w.length<1099511627776): ∀ (q p:List Int),w=p++q→ ∀ at_:Int,(at_= -1∨ ∃ h,At d.2.1 A h at_)→ ∀ n,q.length<n→
  ∃ r,aq (kc d w) n (at_,(p.length:Int))=some (((w.length:Int)==d.1&&decide (0<d.1))&&r)∧(∀ h,At d.2.1 A h at_→q.length=h→(r=true↔acc d.2.1 q at_))∧(at_= -1→r=false)
 | [],p,h,at_,ha,n,hn=>by
  obtain ⟨n,rfl⟩: ∃ k,n=k+1:=⟨n-1,by simp at hn;omega⟩
  rw [aK]
  unfold kc
  dsimp only
  rw [iS h,cond_false]
  refine ⟨at_ != -1,rfl,fun h a _=> ?_,fun h=>by simp [h]⟩
  have:=I.range a.mem
  simp only [acc,iff_true,bne_iff_ne,ne_eq];omega
 | b::q,p,h,at_,ha,n,hn=>by
  obtain ⟨n,rfl⟩: ∃ k,n=k+1:=⟨n-1,by simp at hn;omega⟩
  rw [aK]
  have hp:p.length<1099511627776:=by rw [h] at hw;simp at hw;omega
  have go: ∀ at2:Int,(at2= -1∨ ∃ h,At d.2.1 A h at2)→oa d at_ b=some at2→(∀ h,At d.2.1 A (h+1) at_→(at2= -1∧ ∀ e∈nx d.2.1 at_,e.1≠b)∨((b,at2)∈nx d.2.1 at_∧At d.2.1 A h at2))→(at_= -1→at2= -1)→
    ∃ r,kc d w (aq (kc d w) n) (at_,(p.length:Int))=some (((w.length:Int)==d.1&&decide (0<d.1))&&r)∧(∀ h,At d.2.1 A h at_→(b::q).length=h→(r=true↔acc d.2.1 (b::q) at_))∧(at_= -1→r=false):=by
   intro at2 ha2 hto hk hneg
   obtain ⟨r,h1,h2,h3⟩:=yy I hw q (p++[b]) (by rw [h];simp) at2 ha2 n (by simp at hn;omega)
   refine ⟨r,?_,fun k a hq=> ?_,fun h=>h3 (hneg h)⟩
   ·unfold kc
    dsimp only
    rw [gi h,cond_true,sW h]
    simp only [ab]
    rw [hto]
    simp only [ab]
    rw [pw (by omega),show ((p.length+1:Nat):Int)=((p++[b]).length:Int) by simp]
    exact h1
   ·obtain ⟨k,rfl⟩: ∃ j,k=j+1:=⟨k-1,by simp at hq;omega⟩
    rcases hk k a with ⟨rfl,hno⟩ | ⟨he,a2⟩
    ·rw [h3 rfl]
     simp only [Bool.false_eq_true,false_iff]
     rintro ⟨e,he,heb,_⟩
     exact hno e he heb
    ·rw [h2 k a2 (by simpa using hq),zm a.2.2.1 he rfl]
  by_cases h0:at_= -1
  ·subst h0
   exact go (-1) (.inl rfl) rfl (fun h a=>by have:=I.range a.mem;omega) (fun _=>rfl)
  ·obtain ⟨k,a⟩:=ha.resolve_left h0
   have hm:=I.range a.mem
   have hl:=m8 a.wE
   rcases OK (d:=d) b hm.1 hm.2 a.wE (by omega) with ⟨e,he,heb,hto⟩ | ⟨hno,hto⟩
   ·obtain ⟨k,rfl⟩: ∃ j,k=j+1:=by
     cases k with
     | zero=>rw [a.2] at he;cases he
     | succ j=>exact ⟨j,rfl⟩
    exact go e.2 (.inr ⟨k,a.2.2.2 e he⟩) hto (fun k' a'=> .inr ⟨by rw [← heb];exact he,a'.2.2.2 e he⟩) (fun h=>absurd h h0)
   ·exact go (-1) (.inl rfl) hto (fun k' a'=> .inl ⟨rfl,hno⟩) (fun h=>absurd h h0)
theorem LJ {d:D} {W m:Nat} {A:List Int} (G:Good d W m A) {w:List Int} (hw:w.length<1099511627776): ∃ r,gw d w=some r∧(r=true↔w.length=W∧qV d w):=by
 have hr:=G.root
 obtain ⟨r,h1,h2,h3⟩:=yy (d:=d) G.inv hw w [] rfl d.2.2.1 (by rcases hr with h | h;exact .inl h.1;exact .inr ⟨W,h⟩) az (by show _<2^64;omega)
 refine ⟨_,h1,?_⟩
 have:=G.w1
 rw [G.wide]
 simp only [Bool.and_eq_true,beq_iff_eq,decide_eq_true_eq]
 constructor
 ·rintro ⟨⟨hl,_⟩,hr1⟩
  have hl:w.length=W:=by omega
  refine ⟨hl,?_⟩
  rcases hr with h | h
  ·rw [h3 h.1] at hr1;cases hr1
  ·have:=G.inv.range h.mem
   exact ⟨by omega,(h2 W h hl).1 hr1⟩
 ·rintro ⟨hl,h0,ha⟩
  refine ⟨⟨by omega,by omega⟩,(h2 W (hr.resolve_left fun h=>h0 h.1) hl).2 ha⟩
theorem Ru {l:List Nd} (h:l.length<1000000000):bW l=some l:=by
 unfold bW
 rw [So.aW (So.cr (by omega) (by omega))]
theorem LK {d:D} {W m:Nat} {A:List Int} (G:Good d W m A) (hm:m<2097152) {w:List Int} (hb: ∀ b∈w,0≤b∧b<256) (hl:w.length<1099511627776):
  (w.length≠W∧cQ d w=some (d,false,1))∨(w.length=W∧qV d w∧cQ d w=some (d,false,0))∨
  (w.length=W∧ ¬ qV d w∧ ∃ d' A',cQ d w=some (d',true,0)∧Good d' W (m+1) A'∧ ∀ v,v.length=W→(qV d' v↔v=w∨qV d v)):=by
 have hW:=G.w1
 obtain ⟨r,hr,hrt⟩:=LJ G hl
 by_cases hlen: ¬ w.length=W
 ·left
  refine ⟨hlen,?_⟩
  unfold cQ
  simp only [bF]
  rw [G.wide,show ((w.length:Int) != (W:Int))=true by simp only [bne_iff_ne,ne_eq];omega]
  rfl
 replace hlen:w.length=W:=Decidable.not_not.1 hlen
 right
 have pre:cQ d w=(gw d w).bind fun r21=>bif r21 then (some (d,false,0)) else ((bW d.2.1).bind fun r32=>
   (cZ d.2.2.2.2).bind fun r37=>
   (mg d.2.2.1 w d.1 r32 d.2.2.1 d.2.2.2.1 r37 (some []:(Option (List (Int×Bool))))).bind fun r44=>
   (idx r44.2.1 r44.1).bind fun e54=>
   (idx r44.2.1 r44.1).bind fun e60=>
   bif (d.2.2.1 != (-1)) then (
   (kh d.2.2.1 d.1 (List.set r44.2.1 (Int.toNat r44.1) (e60.1,(IntKind.i64.wrap (e54.2+1)))) r44.1 d.2.2.2.1 r44.2.2.1 r44.2.2.2).bind fun r75=>
   oI d r44 r75.1 r75.2)
   else (
   oI d r44 (List.set r44.2.1 (Int.toNat r44.1) (e60.1,(IntKind.i64.wrap (e54.2+1)))) r44.2.2.1)):=by
  unfold cQ
  simp only [bF]
  rw [G.wide,show ((w.length:Int) != (W:Int))=false by simp;omega,show ((W:Int)==0)=false by simp;omega]
  rfl
 rw [pre,hr]
 simp only [ab]
 by_cases ht:qV d w
 ·left
  exact ⟨hlen,ht,by rw [hrt.2 ⟨hlen,ht⟩];rfl⟩
 right
 refine ⟨hlen,ht,?_⟩
 have hrf:r=false:=by
  rw [← Bool.not_eq_true];intro h;exact ht (hrt.1 h).2
 rw [hrf,cond_false]
 have hN:=G.long
 have hR:=G.refs
 have hF:=G.inv.E3
 rw [Ru (by omega),So.ab,So.Cb (by omega),So.ab]
 have hroot:d.2.2.1= -1∨At d.2.1 A w.length d.2.2.1:=by
  rcases G.root with h | h
  ·exact .inl h.1
  ·exact .inr (by rw [hlen];exact h)
 obtain ⟨r,N',F',y',A',h1,h2,h3,h4,h5,h6,h7,h8,h9⟩:=Ku (W:=W) d.1 d.2.2.1 d.2.2.2.1 w d.2.2.1 d.2.1 d.2.2.2.2 A [] hb (by omega) hroot G.inv (fun i h=>by simp [du,jr] at h) (fun i hi h0=>absurd (G.inv.top i hi h0) (by simp)) (by omega) (fun j=>by have:=hR j;omega) az (by show _<2^64;omega)
 rw [put_eq,h1]
 simp only [ab]
 have hrA:=h4.mem
 have hir:=h2.range hrA
 rw [ox hir.1 hir.2]
 simp only [ab]
 have hrr:=h8 r
 have hrr2:=hR r
 have hrr3:=h2.pos r
 rw [w64 (x:=rf N' r+1) (by omega)]
 have n1:nx (N'.set r.toNat (nx N' r,rf N' r+1))=nx N':=by
  funext j;rw [wL hir.1 hir.2];split
  ·rename_i h;rw [h]
  ·rfl
 have r1: ∀ j,rf (N'.set r.toNat (nx N' r,rf N' r+1)) j=if j=r then rf N' r+1 else rf N' j:=fun j=>by rw [vn hir.1 hir.2]
 have l1:(N'.set r.toNat (nx N' r,rf N' r+1)).length=N'.length:=by simp
 have t1:tg (N'.set r.toNat (nx N' r,rf N' r+1))=tg N':=by unfold tg;rw [n1]
 have n1': ∀ j,nx (N'.set r.toNat (nx N' r,rf N' r+1)) j=nx N' j:=fun j=>by rw [n1]
 generalize N'.set r.toNat (nx N' r,rf N' r+1)=N1 at*
 -- one more leads to the new root
 have I1:Inv N1 F' [] A' (r::(if d.2.2.1= -1 then [] else [d.2.2.1])) [] W:=⟨h2.nd,fun j=>by rw [l1];exact h2.rng j,fun j=>by
   rw [r1,t1]
   have hc:=h2.cnt j
   rw [List.count_append] at hc
   rw [List.count_append,List.count_cons]
   split
   ·rename_i h;subst h;simp;omega
   ·rename_i h
    have:(r==j)=false:=by simp;exact fun e=>h e.symm
    rw [this];simp;omega,fun j hj=>by
   rw [r1,if_neg (fun h=>hj (by rw [h];exact hrA))];exact h2.dead j hj,fun j hj h=>by
   rw [r1] at h
   have:=h2.pos j
   split at h
   ·omega
   ·rename_i hne
    have:=h2.top j hj h
    simp at this;exact absurd this hne,fun u hu v hv h=>by rw [n1] at h;exact h2.dist u hu v hv h,fun j hj=>by
   obtain ⟨k,hk,a⟩:=h2.good j hj
   exact ⟨k,hk,a.grow (fun _ h=>h) fun j _=>n1' j⟩⟩
 have a1:At N1 A' w.length r:=h4.grow (fun _ h=>h) fun j _=>n1' j
 have hr0:r≠ -1:=by omega
 have acc1: ∀ v:List Int,v.length=w.length→(acc N1 v r↔v=w∨qV d v):=fun v hv=>by
  rw [acc.same (A:=A') (N:=N') (fun j _=>n1' j) h4 hv];exact h9 v hv
 have mm:IntKind.i64.wrap (d.2.2.2.1+1)=((m+1:Nat):Int):=by rw [G.many,w64 (by omega)];omega
 by_cases h0:d.2.2.1= -1
 ·rw [show (d.2.2.1 != -1)=false by simp [h0],cond_false]
  refine ⟨(d.1,N1,r,IntKind.i64.wrap (d.2.2.2.1+1),F'),A',rfl,⟨G.wide,hW,by omega,?_,.inr (by rw [← hlen];exact a1),by simp only [];omega,fun j=> ?_,mm⟩,fun v hv=> ?_⟩
  ·simp only [if_neg hr0]
   simp only [if_pos h0] at I1
   exact I1
  ·simp only []
   rw [r1]
   have:=h8 j;have:=hR j
   split <;> omega
  ·show (r≠ -1∧acc N1 v r)↔_
   rw [acc1 v (by omega)]
   exact ⟨fun h=>h.2,fun h=>⟨hr0,h⟩⟩
 ·rw [show (d.2.2.1 != -1)=true by simpa [bne_iff_ne] using h0,cond_true]
  simp only [if_neg h0] at I1
  have aR:=G.root.resolve_left fun h=>h0 h.1
  have aR1:At N1 A' W d.2.2.1:=aR.grow (fun j hj=>(h3 j hj).1) fun j hj=>by rw [n1,(h3 j hj).2]
  have I2:Inv N1 F' [] A' (d.2.2.1::[r]) [] W:=I1.perm (List.Perm.swap r d.2.2.1 [])
  obtain ⟨N2,F2,A2,g1,g2,g3,g4,g5⟩:=Nu (W:=W) (wi:=d.1) (ro:=r) (ma:=d.2.2.2.1) (y:=some y') W az (by show _<2^64;omega) d.2.2.1 N1 F' [] A' [r] aR1 I2 (by omega) (fun j=>by rw [r1];have:=h8 j;have:=hR j;split <;> omega)
  rw [OF,g1]
  have rA2:=g2.ext (i:=r) (by simp)
  have a2:At N2 A2 W r:=by
   rw [← hlen]
   exact a1.bf (fun j hj _=>(g4 j hj).2) (fun j hj _ e he _=>g2.closed hj (by rw [(g4 j hj).2];exact he)) rA2
  have acc2: ∀ v:List Int,v.length=W→(acc N1 v r↔acc N2 v r):=fun v hv=>acc.same (N:=N2) (N':=N1) (A:=A2) (fun j hj=>(g4 j hj).2.symm) a2 hv
  refine ⟨(d.1,N2,r,IntKind.i64.wrap (d.2.2.2.1+1),F2),A2,rfl,⟨G.wide,hW,by omega,?_,.inr a2,by simp only [];omega,fun j=> ?_,mm⟩,fun v hv=> ?_⟩
  ·simp only [if_neg hr0];exact g2
  ·simp only []
   have g:=g5 j
   rw [r1] at g
   have:=h8 j;have:=hR j
   split at g <;> omega
  ·show (r≠ -1∧acc N2 v r)↔_
   rw [← acc2 v hv,acc1 v (by omega)]
   exact ⟨fun h=>h.2,fun h=>⟨hr0,h⟩⟩
end Df
end Go.Proofs.YtgcgmclghbebjaaGreat
