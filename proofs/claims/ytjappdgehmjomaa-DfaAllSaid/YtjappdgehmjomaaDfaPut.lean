/-
  Put: the node that takes what another one takes, and a word. (own)
-/
import Derived.Test.YtjappdgehmjomaaDfaNode
namespace Go.Proofs.Ytjappdgehmjomaa
namespace Df

/-- an edge is laid among edges -/
theorem edge_ok {ρ : Type} {x : List (Int × Int)} (hx : Rise x) {b r : Int} (hb : 0 ≤ b ∧ b < 256) (K : List (Int × Int) → Option ρ) :
    ∃ y, Rise y ∧ y ≠ [] ∧ (∀ e, e ∈ y ↔ e = (b, r) ∨ (e ∈ x ∧ e.1 ≠ b)) ∧
      ((slices_BinarySearchFunc_api_Edge_api_Edge_byte_s3 x b).bind fun r46 =>
        bif r46.2 then ((idx x r46.1).bind fun _ => K (List.set x (Int.toNat r46.1) (b, r)))
        else (chk (insB r46.1 (List.length x)) <| chk (roomB (List.length x + List.length ([(b, r)] : List (Int × Int))) 16) <| K (insL x r46.1 ([(b, r)] : List (Int × Int))))) = K y := by
  have hl := rise_len hx
  obtain ⟨p, q, e, hp, hq, h⟩ := bs_ok b hx (by omega)
  rw [bs3_eq, h]
  simp only [bind_s]
  have hR := hx
  rw [e] at hR
  have hA := List.pairwise_append.1 hR.1
  have mk : ∀ q' : List (Int × Int), q'.Pairwise (fun a b => a.1 < b.1) → (∀ e ∈ q', b < e.1) → (∀ e ∈ q', e ∈ q) → Rise (p ++ (b, r) :: q') := by
    intro q' h1 h2 h3
    refine ⟨List.pairwise_append.2 ⟨hA.1, List.pairwise_cons.2 ⟨h2, h1⟩, ?_⟩, ?_⟩
    · intro u hu v hv
      rcases List.mem_cons.1 hv with rfl | hv
      · exact hp u hu
      · exact hA.2.2 u hu v (h3 v hv)
    · intro u hu
      rcases List.mem_append.1 hu with hu | hu
      · exact hR.2 u (by simp [hu])
      · rcases List.mem_cons.1 hu with rfl | hu
        · exact hb
        · exact hR.2 u (by simp [h3 u hu])
  have out : ∀ q' : List (Int × Int), (∀ e ∈ q', b < e.1) → chk (insB (p.length : Int) (List.length x)) (chk (roomB (List.length x + List.length ([(b, r)] : List (Int × Int))) 16) (K (insL x (p.length : Int) [(b, r)]))) = K (p ++ (b, r) :: q) := by
    intro _ _
    rw [insB_iff.2 (by rw [e]; simp; omega), room_t (by simp; omega) (by simp; omega), chk_t, chk_t]
    congr 1
    unfold insL
    rw [e]; simp
  cases q with
  | nil =>
    refine ⟨p ++ [(b, r)], mk [] .nil (by simp) (by simp), by simp, fun u => ?_, ?_⟩
    · rw [e]
      simp only [List.mem_append, List.mem_singleton, List.append_nil]
      constructor
      · rintro (h | h)
        · exact .inr ⟨h, by have := hp u h; omega⟩
        · exact .inl h
      · rintro (h | h)
        · exact .inr h
        · exact .inl h.1
    · exact out [] (by simp)
  | cons z q =>
    have hz := List.pairwise_cons.1 hA.2.1
    by_cases hb' : z.1 = b
    · refine ⟨p ++ (b, r) :: q, mk q hz.2 (fun u hu => by have := hz.1 u hu; omega) (by simp +contextual), by simp, fun u => ?_, ?_⟩
      · rw [e]
        simp only [List.mem_append, List.mem_cons]
        constructor
        · rintro (h | h | h)
          · exact .inr ⟨.inl h, by have := hp u h; omega⟩
          · exact .inl h
          · exact .inr ⟨.inr (.inr h), by have := hz.1 u h; omega⟩
        · rintro (h | ⟨h | h | h, hn⟩)
          · exact .inr (.inl h)
          · exact .inl h
          · rw [h] at hn; exact absurd hb' hn
          · exact .inr (.inr h)
      · simp only [List.head?_cons, Option.map_some, hb', beq_self_eq_true, cond_true]
        rw [idx_mid e]
        simp only [bind_s, Int.toNat_natCast]
        rw [e]; simp
    · have hlt : b < z.1 := by have := hq z (by simp); omega
      refine ⟨p ++ (b, r) :: z :: q, mk (z :: q) hA.2.1 (fun u hu => by
        rcases List.mem_cons.1 hu with rfl | hu
        · exact hlt
        · have := hz.1 u hu; omega) (fun _ h => h), by simp, fun u => ?_, ?_⟩
      · rw [e]
        simp only [List.mem_append, List.mem_cons]
        constructor
        · rintro (h | h | h | h)
          · exact .inr ⟨.inl h, by have := hp u h; omega⟩
          · exact .inl h
          · exact .inr ⟨.inr (.inl h), by rw [h]; omega⟩
          · exact .inr ⟨.inr (.inr h), by have := hz.1 u h; omega⟩
        · rintro (h | ⟨h | h | h, hn⟩)
          · exact .inr (.inl h)
          · exact .inl h
          · exact .inr (.inr (.inl h))
          · exact .inr (.inr (.inr h))
      · have : ((List.head? (z :: q)).map (·.1) == some b) = false := by simp [hb']
        rw [this, cond_false]
        exact out [] (by simp)

abbrev SP := Int × List Int × Int × List Nd × Int × Int × List Int × Option (List (Int × Bool))
abbrev RP := Int × List Nd × List Int × Option (List (Int × Bool))
def PUT (k : SP → Option RP) (s : SP) : Option RP := dfa_work_put_F k s.1 s.2.1 s.2.2.1 s.2.2.2.1 s.2.2.2.2.1 s.2.2.2.2.2.1 s.2.2.2.2.2.2.1 s.2.2.2.2.2.2.2
theorem put_eq (at_ : Int) (w : List Int) (wi : Int) (N : List Nd) (ro ma : Int) (F : List Int) (y : Option (List (Int × Bool))) : dfa_work_put at_ w wi N ro ma F y = fixN PUT FUEL (at_, w, wi, N, ro, ma, F, y) := rfl

/-- what put gives -/
def Puts (N : List Nd) (_F A X : List Int) (W : Nat) (w : List Int) (at_ : Int) (res : Option RP) : Prop :=
  ∃ r N' F' y' A', res = some (r, N', F', some y') ∧ Inv N' F' [] A' X [r] W ∧ (∀ j ∈ A, j ∈ A' ∧ nx N' j = nx N j) ∧ At N' A' w.length r ∧
    (∀ i, mgetD (some y') i false = true → i ∈ A') ∧ (∀ i ∈ A', rf N' i = 0 → mgetD (some y') i false = true) ∧ N'.length ≤ N.length + (w.length + 1) ∧ (∀ j, rf N' j ≤ 256 * ((w.length : Int) + 1) + rf N j) ∧
    ∀ v, v.length = w.length → (acc N' v r ↔ v = w ∨ (at_ ≠ -1 ∧ acc N v at_))

theorem put_ok {W : Nat} (wi ro ma : Int) {X : List Int} : ∀ (w : List Int) (at_ : Int) (N : List Nd) (F A : List Int) (y : List (Int × Bool)), (∀ b ∈ w, 0 ≤ b ∧ b < 256) → w.length ≤ W → (at_ = -1 ∨ At N A w.length at_) → Inv N F [] A X [] W →
    (∀ i, mgetD (some y) i false = true → i ∈ A) → (∀ i ∈ A, rf N i = 0 → mgetD (some y) i false = true) → N.length + (w.length + 1) < 1048575 → (∀ j, rf N j + 256 * ((w.length : Int) + 1) < 1073741824) → ∀ n, w.length < n →
    Puts N F A X W w at_ (fixN PUT n (at_, w, wi, N, ro, ma, F, some y))
  | [], at_, N, F, A, y, _, hW, hat, I, hy1, hy2, hN, hrf, n, hn => by
    obtain ⟨n, rfl⟩ : ∃ k, n = k + 1 := ⟨n - 1, by simp at hn; omega⟩
    rw [fixN_succ]
    unfold PUT dfa_work_put_F
    simp only [List.length_nil]
    rw [show (((0 : Nat) : Int) == 0) = true from rfl, cond_true]
    obtain ⟨r, N', F', y', A', h1, h2, h3, h4, h5, h6, h7, h8, h9⟩ := node_ok (h := 0) (next := []) I (by simp at hN; omega) (fun j => by have := hrf j; simp at this; omega) hy1 hy2 ⟨.nil, by simp⟩ (by omega) (.inl ⟨rfl, rfl⟩) (by simp) wi ro ma
    rw [h1]
    refine ⟨r, N', F', y', A', rfl, h2, h4, h5, h6, h7, by simp; omega, fun j => by have := h9 j; simp; omega, fun v hv => ?_⟩
    have : v = [] := List.length_eq_zero_iff.1 hv
    subst this
    simp [acc]
  | b :: w, at_, N, F, A, y, hw, hW, hat, I, hy1, hy2, hN, hrf, n, hn => by
    obtain ⟨n, rfl⟩ : ∃ k, n = k + 1 := ⟨n - 1, by simp at hn; omega⟩
    rw [fixN_succ]
    simp only [List.length_cons] at hN hW hrf hn hat
    have hb := hw b (by simp)
    -- the rest of the word, and the node
    have rest : ∀ (at2 : Int) (x : List (Int × Int)), Rise x → (∀ e ∈ x, At N A w.length e.2) → (at2 = -1 ∨ At N A w.length at2) → (at2 ≠ -1 → (b, at2) ∈ x) → (∀ e ∈ x, e.1 = b → at2 ≠ -1) →
        (at_ ≠ -1 → nx N at_ = x) → (at_ = -1 → x = []) → dfa_to (wi, N, ro, ma, F) at_ b = some at2 →
        Puts N F A X W (b :: w) at_ (dfa_work_put_K1 (fixN PUT n) at_ (b :: w) wi N ro ma F (some y) x) := by
      intro at2 x hx hk ha2 hin hout hx1 hx2 hto
      unfold dfa_work_put_K1
      rw [show idx (b :: w) 0 = some b from rfl]
      simp only [bind_s]
      rw [cutB_iff.2 (by simp; omega), chk_t, to3_eq, hto]
      simp only [bind_s]
      rw [show cutL (b :: w) 1 ((List.length (b :: w) : Nat) : Int) = w by simp [cutL]]
      obtain ⟨r, N1, F1, y1, A1, h1, h2, h3, h4, h5, h6, h7, h8, h9⟩ := put_ok wi ro ma w at2 N F A y (fun c hc => hw c (by simp [hc])) (by omega) ha2 I hy1 hy2 (by omega) (fun j => by have := hrf j; omega) n (by omega)
      rw [h1]
      simp only [bind_s]
      obtain ⟨z, hz, hz0, hzm, hze⟩ := edge_ok hx hb (r := r) (dfa_work_put_K2 wi ro ma (r, N1, F1, some y1))
      rw [hze]
      unfold dfa_work_put_K2
      have kz : ∀ e ∈ z, At N1 A1 w.length e.2 := by
        intro e he
        rcases (hzm e).1 he with rfl | ⟨he, _⟩
        · exact h4
        · exact (hk e he).grow (fun j hj => (h3 j hj).1) (fun j hj => (h3 j hj).2)
      obtain ⟨r', N', F', y', A', g1, g2, g3, g4, g5, g6, g7, g8, g9⟩ := node_ok (h := w.length + 1) (next := z) h2 (by omega) (fun j => by have := hrf j; have := h8 j; omega) h5 h6 hz hW (.inr ⟨w.length, rfl, hz0, kz⟩) (fun t ht => by
        simp only [List.mem_singleton] at ht
        subst ht
        exact List.mem_map.2 ⟨(b, t), (hzm _).2 (.inl rfl), rfl⟩) wi ro ma
      simp only []
      rw [g1]
      refine ⟨r', N', F', y', A', rfl, g2, fun j hj => ⟨(g4 j (h3 j hj).1).1, by rw [(g4 j (h3 j hj).1).2, (h3 j hj).2]⟩, g5, g6, g7, by simp; omega, fun j => by have := h8 j; have := g9 j; simp; omega, ?_⟩
      intro v hv
      cases v with
      | nil => simp at hv
      | cons c v =>
        have hv : v.length = w.length := by simpa using hv
        have s1 : ∀ e ∈ z, (acc N' v e.2 ↔ acc N1 v e.2) := fun e he => acc.same (fun j hj => (g4 j hj).2) (kz e he) hv
        have s2 : ∀ e ∈ x, (acc N1 v e.2 ↔ acc N v e.2) := fun e he => acc.same (fun j hj => (h3 j hj).2) (hk e he) hv
        constructor
        · rintro ⟨e, he, hec, ha⟩
          rw [g3] at he
          rw [s1 e he] at ha
          rcases (hzm e).1 he with rfl | ⟨hex, hne⟩
          · rcases (h9 v hv).1 ha with rfl | ⟨h0, ha⟩
            · left; rw [← hec]
            · right
              have hxa : at_ ≠ -1 := fun h => by have := hin h0; rw [hx2 h] at this; cases this
              exact ⟨hxa, (b, at2), by rw [hx1 hxa]; exact hin h0, hec, ha⟩
          · right
            have hxa : at_ ≠ -1 := fun h => by rw [hx2 h] at hex; cases hex
            exact ⟨hxa, e, by rw [hx1 hxa]; exact hex, hec, (s2 e hex).1 ha⟩
        · rintro (h | ⟨hxa, e, he, hec, ha⟩)
          · cases h
            refine ⟨(b, r), by rw [g3]; exact (hzm _).2 (.inl rfl), rfl, ?_⟩
            rw [s1 _ ((hzm _).2 (.inl rfl))]
            exact (h9 w rfl).2 (.inl rfl)
          · rw [hx1 hxa] at he
            by_cases hcb : e.1 = b
            · have h0 := hout e he hcb
              have : e = (b, at2) := rise_one hx he (hin h0) hcb
              subst this
              refine ⟨(b, r), by rw [g3]; exact (hzm _).2 (.inl rfl), hec, ?_⟩
              rw [s1 _ ((hzm _).2 (.inl rfl))]
              exact (h9 v hv).2 (.inr ⟨h0, ha⟩)
            · have hz' := (hzm e).2 (.inr ⟨he, hcb⟩)
              exact ⟨e, by rw [g3]; exact hz', hec, (s1 e hz').2 ((s2 e he).2 ha)⟩
    unfold PUT dfa_work_put_F
    simp only []
    rw [show ((List.length (b :: w) : Int) == 0) = false by simp; omega, cond_false]
    by_cases h0 : at_ = -1
    · subst h0
      rw [show ((-1 : Int) != -1) = false from rfl, cond_false]
      exact rest (-1) [] ⟨.nil, by simp⟩ (by simp) (.inl rfl) (by simp) (by simp) (by simp) (by simp) rfl
    · have a := hat.resolve_left h0
      have hm := I.range a.mem
      rw [show (at_ != -1) = true by simpa [bne_iff_ne] using h0, cond_true, idx_nd hm.1 hm.2]
      simp only [bind_s]
      have hl := rise_len a.rise
      unfold slices_Clone_api_Edge_api_Edge
      rw [room_t (by simp; omega) (by simp; omega), chk_t]
      simp only [bind_s, List.nil_append]
      rcases to_ok (d := (wi, N, ro, ma, F)) b hm.1 hm.2 a.rise (by simp only []; omega) with ⟨e, he, heb, h⟩ | ⟨hne, h⟩
      · have ae := a.2.2.2 e he
        have hpos := (I.range ae.mem).1
        exact rest e.2 (nx N at_) a.rise a.2.2.2 (.inr ae) (fun _ => by rw [← heb]; exact he) (fun _ _ _ => by omega) (fun _ => rfl) (fun h => absurd h h0) h
      · exact rest (-1) (nx N at_) a.rise a.2.2.2 (.inl rfl) (by simp) (fun e he heb => absurd heb (hne e he)) (fun _ => rfl) (fun h => absurd h h0) h
end Df
end Go.Proofs.Ytjappdgehmjomaa
