import Derived.Test.YtlhaaccdiienbaaMCut
namespace Go.Proofs.Ytlhaaccdiienbaa.X
open Go.RowKit Go.Proofs.YtlhaaccdiienbaaW.PrintWords Go.Proofs.YtlhaaccdiienbaaW.PrintLast Go.Proofs.YtlhaaccdiienbaaW.PrintMore

theorem foldl_mn (l : List Int) : ∀ a : Int, l.foldl mn a < 0 ↔ a < 0 ∨ ∃ x ∈ l, x < 0 := by
  induction l with
  | nil => intro a; simp
  | cons y r ih =>
    intro a
    rw [List.foldl_cons, ih]
    have : mn a y < 0 ↔ a < 0 ∨ y < 0 := by unfold mn; split <;> omega
    rw [this]
    simp [or_assoc]
theorem foldl_mx (l : List Int) : ∀ a : Int, 0 < l.foldl mx a ↔ 0 < a ∨ ∃ x ∈ l, 0 < x := by
  induction l with
  | nil => intro a; simp
  | cons y r ih =>
    intro a
    rw [List.foldl_cons, ih]
    have : 0 < mx a y ↔ 0 < a ∨ 0 < y := by unfold mx; split <;> omega
    rw [this]
    simp [or_assoc]
theorem foldl_mx_ge (l : List Int) : ∀ a : Int, a ≤ l.foldl mx a := by
  induction l with
  | nil => intro a; simp
  | cons y r ih =>
    intro a
    rw [List.foldl_cons]
    have := ih (mx a y)
    have h : a ≤ mx a y := by unfold mx; split <;> omega
    omega
theorem minF_neg (l : List Int) (h : 0 < l.length) : minF l < 0 ↔ ∃ i, i < l.length ∧ l.getD i 0 < 0 := by
  unfold minF
  rw [foldl_mn]
  constructor
  · rintro (h1 | ⟨x, hx, hn⟩)
    · refine ⟨0, h, ?_⟩
      cases l with
      | nil => simp at h
      | cons y r => simpa using h1
    · obtain ⟨i, hi, rfl⟩ := List.getElem_of_mem hx
      exact ⟨i, hi, by rw [getDI l i hi]; exact hn⟩
  · rintro ⟨i, hi, hn⟩
    rw [getDI l i hi] at hn
    exact .inr ⟨_, List.getElem_mem hi, hn⟩
theorem noneIn_iff (l : List Int) (h : 0 < l.length) (hn : ¬ minF l < 0) : noneIn l = true ↔ ¬ ∃ i, i < l.length ∧ l.getD i 0 > 0 := by
  unfold noneIn maxF
  have h0 : 0 ≤ l.foldl mx (l.headD 0) := by
    have := foldl_mx_ge l (l.headD 0)
    have h1 : 0 ≤ l.headD 0 := by
      rw [minF_neg l h] at hn
      cases l with
      | nil => simp at h
      | cons y r =>
        by_cases c : y < 0
        · exact absurd ⟨0, by simp, by simpa using c⟩ hn
        · simp; omega
    omega
  have h1 := foldl_mx l (l.headD 0)
  have h2 : (0 < l.headD 0 ∨ ∃ x ∈ l, 0 < x) ↔ ∃ i, i < l.length ∧ l.getD i 0 > 0 := by
    constructor
    · rintro (q | ⟨x, hx, q⟩)
      · refine ⟨0, h, ?_⟩
        cases l with
        | nil => simp at h
        | cons y r => simpa using q
      · obtain ⟨i, hi, rfl⟩ := List.getElem_of_mem hx
        exact ⟨i, hi, by rw [getDI l i hi]; exact q⟩
    · rintro ⟨i, hi, q⟩
      rw [getDI l i hi] at q
      exact .inr ⟨_, List.getElem_mem hi, q⟩
  rw [← h2, ← h1, beq_iff_eq]
  omega

section
variable (s0 s1 s2 s3 s4 s5 : ByteArray) (n6 : Int) (l : List S65) (l1 : List Int) (l2 : List (List Int))
theorem wrong_l6 (h2 : l2.length ≤ 9223372036854775807) (k : Nat) (hk : ∀ p ∈ l2, k < p.length) (R : Int) :
    ∀ (d i : Nat) (x : Int), i + d = l2.length → (wholeK x ((colK l2 k).drop i) = true → Ev (fun q => sr19_Wrong.l5 q l2 (wrap64 ((k : Int) + 1)) s0 s1 s2 s3 s4 s5 n6 l) R) → (wholeK x ((colK l2 k).drop i) = false → R = 3) → Ev (fun q => sr19_Wrong.l6 q l2 k x i s0 s1 s2 s3 s4 s5 n6 l) R := by
  intro d
  induction d with
  | zero =>
    intro i x hi hy hn
    refine Ev.step (fun q => by rw [sr19_Wrong.l6]) ?_
    simp only [if_neg (show ¬ (i : Int) < (l2.length : Int) by omega)]
    have e : (colK l2 k).drop i = [] := List.drop_eq_nil_of_le (by unfold colK; rw [List.length_map]; omega)
    rw [e] at hy hn
    unfold wholeK at hy hn
    by_cases c : x = 0
    · simp only [if_pos c]; exact hy (decide_eq_true c)
    · simp only [if_neg c]; rw [hn (decide_eq_false c)]; exact Ev.now _
  | succ d ih =>
    intro i x hi hy hn
    have hlt : i < l2.length := by omega
    have hkl : k < (l2.getD i []).length := by rw [getD5 l2 i hlt]; exact hk _ (List.getElem_mem hlt)
    refine Ev.step (fun q => by rw [sr19_Wrong.l6]) ?_
    rw [colK_drop l2 k i hlt, wholeK] at hy hn
    simp only [if_pos (show (i : Int) < (l2.length : Int) by omega), if_pos (show (0 : Int) ≤ (i : Int) by omega), if_pos (show (0 : Int) ≤ (k : Int) by omega), rd5, rdN, if_pos (show (k : Int) < ((l2.getD i []).length : Int) by omega), wrap_succ hlt h2]
    by_cases c : (l2.getD i []).getD k 0 > x
    · simp only [if_pos c]
      rw [if_pos c] at hn
      rw [hn rfl]; exact Ev.now _
    · simp only [if_neg c]
      rw [if_neg c] at hy hn
      exact ih (i + 1) _ (by omega) hy hn
theorem wrong_l5 (h2 : l2.length ≤ 9223372036854775807) (hl : l.length ≤ 9223372036854775807) (hk : ∀ p ∈ l2, p.length = l.length) :
    ∀ d k : Nat, k + d = l.length → (∀ q, q < k → wholeK (l.getD q z65).f1 (colK l2 q) = true) → Ev (fun q => sr19_Wrong.l5 q l2 k s0 s1 s2 s3 s4 s5 n6 l) (if wholeB l l2 = true then 0 else 3) := by
  intro d
  induction d with
  | zero =>
    intro k hk' hq
    refine Ev.step (fun q => by rw [sr19_Wrong.l5]) ?_
    simp only [if_neg (show ¬ (k : Int) < (l.length : Int) by omega)]
    have e : wholeB l l2 = true := by unfold wholeB; rw [List.all_eq_true]; exact fun q h => hq q (by have := List.mem_range.mp h; omega)
    rw [if_pos e]; exact Ev.now _
  | succ d ih =>
    intro k hk' hq
    have hlt : k < l.length := by omega
    refine Ev.step (fun q => by rw [sr19_Wrong.l5]) ?_
    simp only [if_pos (show (k : Int) < (l.length : Int) by omega), if_pos (show (0 : Int) ≤ (k : Int) by omega), rd65]
    refine wrong_l6 s0 s1 s2 s3 s4 s5 n6 l l2 h2 k (fun p hp => by rw [hk p hp]; exact hlt) _ l2.length 0 _ (by omega) ?_ ?_
    · intro hy
      rw [List.drop_zero] at hy
      rw [wrap_succ hlt hl]
      refine ih (k + 1) (by omega) ?_
      intro q hqi
      by_cases e : q = k
      · subst e; exact hy
      · exact hq q (by omega)
    · intro hn
      rw [List.drop_zero] at hn
      rw [if_neg (by rw [wholeB_no hlt hn]; decide)]
theorem wrong_l4 (hlr : ∀ p ∈ l2, p.length ≤ 9223372036854775807) (i : Nat) (hi : i < l2.length) (R : Int)
    (hy : (∃ q, q < (l2.getD i []).length ∧ (l2.getD i []).getD q 0 > 0) → Ev (fun q => sr19_Wrong.l3 q l2 (wrap64 ((i : Int) + 1)) s0 s1 s2 s3 s4 s5 n6 l) R) (hn : (¬ ∃ q, q < (l2.getD i []).length ∧ (l2.getD i []).getD q 0 > 0) → R = 4) :
    ∀ (d j : Nat) (b : Bool), j + d = (l2.getD i []).length → (b = true → ∃ q, q < (l2.getD i []).length ∧ (l2.getD i []).getD q 0 > 0) → (b = false → ∀ q, q < j → ¬ (l2.getD i []).getD q 0 > 0) → Ev (fun q => sr19_Wrong.l4 q l2 i b j s0 s1 s2 s3 s4 s5 n6 l) R := by
  have hpl : (l2.getD i []).length ≤ 9223372036854775807 := by rw [getD5 l2 i hi]; exact hlr _ (List.getElem_mem hi)
  intro d
  induction d with
  | zero =>
    intro j b hj hb1 hb2
    refine Ev.step (fun q => by rw [sr19_Wrong.l4]) ?_
    simp only [if_pos (show (0 : Int) ≤ (i : Int) by omega), if_pos (show (i : Int) < (l2.length : Int) by omega), rd5, if_neg (show ¬ (j : Int) < ((l2.getD i []).length : Int) by omega)]
    cases b with
    | true => simp only [if_true]; exact hy (hb1 rfl)
    | false =>
      simp only [Bool.false_eq_true, if_false]
      rw [hn (by rintro ⟨q, hq, hp⟩; exact hb2 rfl q (by omega) hp)]
      exact Ev.now _
  | succ d ih =>
    intro j b hj hb1 hb2
    refine Ev.step (fun q => by rw [sr19_Wrong.l4]) ?_
    simp only [if_pos (show (0 : Int) ≤ (i : Int) by omega), if_pos (show (i : Int) < (l2.length : Int) by omega), rd5, if_pos (show (j : Int) < ((l2.getD i []).length : Int) by omega), wrap_succ (show j < (l2.getD i []).length by omega) hpl]
    cases b with
    | true => simp only [if_true]; exact ih (j + 1) true (by omega) hb1 (by intro q; cases q)
    | false =>
      simp only [Bool.false_eq_true, if_false, if_pos (show (0 : Int) ≤ (j : Int) by omega), rdN]
      refine ih (j + 1) _ (by omega) ?_ ?_
      · intro q; rw [decide_eq_true_iff] at q; exact ⟨j, by omega, q⟩
      · intro q q' hq'
        rw [decide_eq_false_iff_not] at q
        by_cases e : q' = j
        · subst e; exact q
        · exact hb2 rfl q' (by omega)
theorem wrong_l3 (h2 : l2.length ≤ 9223372036854775807) (hlr : ∀ p ∈ l2, p.length ≤ 9223372036854775807) (hnone : ∀ p ∈ l2, noneIn p = true ↔ ¬ ∃ i, i < p.length ∧ p.getD i 0 > 0) (R : Int) (hy : l2.any noneIn = false → Ev (fun q => sr19_Wrong.l5 q l2 0 s0 s1 s2 s3 s4 s5 n6 l) R) (hn : l2.any noneIn = true → R = 4) :
    ∀ d i : Nat, i + d = l2.length → (∀ q, q < i → noneIn (l2.getD q []) = false) → Ev (fun q => sr19_Wrong.l3 q l2 i s0 s1 s2 s3 s4 s5 n6 l) R := by
  intro d
  induction d with
  | zero =>
    intro i hi hq
    refine Ev.step (fun q => by rw [sr19_Wrong.l3]) ?_
    simp only [if_neg (show ¬ (i : Int) < (l2.length : Int) by omega)]
    refine hy ?_
    rw [List.any_eq_false]
    intro p hp
    obtain ⟨q, hq', rfl⟩ := List.getElem_of_mem hp
    have := hq q (by omega)
    rw [getD5 l2 q hq'] at this
    rw [this]; decide
  | succ d ih =>
    intro i hi hq
    have hlt : i < l2.length := by omega
    refine Ev.step (fun q => by rw [sr19_Wrong.l3]) ?_
    simp only [if_pos (show (i : Int) < (l2.length : Int) by omega)]
    have hN := hnone (l2.getD i []) (by rw [getD5 l2 i hlt]; exact List.getElem_mem hlt)
    refine wrong_l4 s0 s1 s2 s3 s4 s5 n6 l l2 hlr i hlt R ?_ ?_ (l2.getD i []).length 0 false (by omega) (by intro q; cases q) (by intro _ q hq; omega)
    · intro hp
      rw [wrap_succ hlt h2]
      refine ih (i + 1) (by omega) ?_
      intro q hqi
      by_cases e : q = i
      · subst e
        cases c : noneIn (l2.getD q []) with
        | false => rfl
        | true => exact absurd hp (hN.mp c)
      · exact hq q (by omega)
    · intro hp
      refine hn (List.any_eq_true.mpr ⟨l2.getD i [], by rw [getD5 l2 i hlt]; exact List.getElem_mem hlt, hN.mpr hp⟩)
theorem wrong_l2 (h1 : l1.length ≤ 9223372036854775807) (R : Int) (hy : sortedB l1 = true → Ev (fun q => sr19_Wrong.l3 q l2 0 s0 s1 s2 s3 s4 s5 n6 l) R) (hn : sortedB l1 = false → R = 6) :
    ∀ d i : Nat, 1 ≤ i → i + d = l1.length → (∀ q, 1 ≤ q → q < i → ¬ l1.getD q 0 < l1.getD (q - 1) 0) → Ev (fun q => sr19_Wrong.l2 q l1 l2 i s0 s1 s2 s3 s4 s5 n6 l) R := by
  intro d
  induction d with
  | zero =>
    intro i hi1 hi hq
    refine Ev.step (fun q => by rw [sr19_Wrong.l2]) ?_
    simp only [if_neg (show ¬ (i : Int) < (l1.length : Int) by omega)]
    exact hy (sortedB_yes (fun q a b => hq q a (by omega)))
  | succ d ih =>
    intro i hi1 hi hq
    have hlt : i < l1.length := by omega
    refine Ev.step (fun q => by rw [sr19_Wrong.l2]) ?_
    obtain ⟨j, rfl⟩ : ∃ j, i = j + 1 := ⟨i - 1, by omega⟩
    have e : wrap64 (((j + 1 : Nat) : Int) - 1) = (j : Int) := by unfold wrap64; omega
    simp only [if_pos (show ((j + 1 : Nat) : Int) < (l1.length : Int) by omega), if_pos (show (0 : Int) ≤ ((j + 1 : Nat) : Int) by omega), e, if_pos (show (0 : Int) ≤ (j : Int) by omega), if_pos (show (j : Int) < (l1.length : Int) by omega), rdN, wrap_succ hlt h1]
    by_cases c : l1.getD (j + 1) 0 < l1.getD j 0
    · simp only [if_pos c]
      rw [hn (sortedB_no hlt (by simpa using c))]; exact Ev.now _
    · simp only [if_neg c]
      refine ih (j + 1 + 1) (by omega) (by omega) ?_
      intro q a b
      by_cases e : q = j + 1
      · subst e; simpa using c
      · exact hq q a (by omega)
theorem wrong_l1 (hlr : ∀ p ∈ l2, p.length ≤ 9223372036854775807) (i : Nat) (hi : i < l2.length) (hp : 0 < (l2.getD i []).length) (R : Int) (hy : ¬ minF (l2.getD i []) < 0 → Ev (fun q => sr19_Wrong.l0 q l1 l2 (wrap64 ((i : Int) + 1)) s0 s1 s2 s3 s4 s5 n6 l) R) (hn : minF (l2.getD i []) < 0 → R = 1) :
    ∀ d j : Nat, j + d = (l2.getD i []).length → (∀ q, q < j → ¬ (l2.getD i []).getD q 0 < 0) → Ev (fun q => sr19_Wrong.l1 q l1 l2 i j s0 s1 s2 s3 s4 s5 n6 l) R := by
  have hpl : (l2.getD i []).length ≤ 9223372036854775807 := by rw [getD5 l2 i hi]; exact hlr _ (List.getElem_mem hi)
  intro d
  induction d with
  | zero =>
    intro j hj hq
    refine Ev.step (fun q => by rw [sr19_Wrong.l1]) ?_
    simp only [if_pos (show (0 : Int) ≤ (i : Int) by omega), if_pos (show (i : Int) < (l2.length : Int) by omega), rd5, if_neg (show ¬ (j : Int) < ((l2.getD i []).length : Int) by omega)]
    refine hy ?_
    rw [minF_neg _ hp]
    rintro ⟨q, hq', h⟩
    exact hq q (by omega) h
  | succ d ih =>
    intro j hj hq
    refine Ev.step (fun q => by rw [sr19_Wrong.l1]) ?_
    simp only [if_pos (show (0 : Int) ≤ (i : Int) by omega), if_pos (show (i : Int) < (l2.length : Int) by omega), rd5, if_pos (show (j : Int) < ((l2.getD i []).length : Int) by omega), if_pos (show (0 : Int) ≤ (j : Int) by omega), rdN, wrap_succ (show j < (l2.getD i []).length by omega) hpl]
    by_cases c : (l2.getD i []).getD j 0 < 0
    · simp only [if_pos c]
      rw [hn ((minF_neg _ hp).mpr ⟨j, by omega, c⟩)]; exact Ev.now _
    · simp only [if_neg c]
      refine ih (j + 1) (by omega) ?_
      intro q hqi
      by_cases e : q = j
      · subst e; exact c
      · exact hq q (by omega)
theorem wrong_l0 (h2 : l2.length ≤ 9223372036854775807) (hlr : ∀ p ∈ l2, p.length ≤ 9223372036854775807) (h12 : l2.length = l1.length) (hl0 : 0 < l.length) (R : Int)
    (hy : l1.any notDay = false → l2.any (badPart l.length) = false → Ev (fun q => sr19_Wrong.l2 q l1 l2 1 s0 s1 s2 s3 s4 s5 n6 l) R) (hn : (l1.any notDay = true ∨ l2.any (badPart l.length) = true) → R = 1) :
    ∀ d i : Nat, i + d = l2.length → (∀ q, q < i → notDay (l1.getD q 0) = false ∧ badPart l.length (l2.getD q []) = false) → Ev (fun q => sr19_Wrong.l0 q l1 l2 i s0 s1 s2 s3 s4 s5 n6 l) R := by
  intro d
  induction d with
  | zero =>
    intro i hi hq
    refine Ev.step (fun q => by rw [sr19_Wrong.l0]) ?_
    simp only [if_neg (show ¬ (i : Int) < (l2.length : Int) by omega)]
    refine hy ?_ ?_
    · rw [List.any_eq_false]
      intro p hp
      obtain ⟨q, hq', rfl⟩ := List.getElem_of_mem hp
      have := (hq q (by omega)).1
      rw [getDI l1 q hq'] at this
      rw [this]; decide
    · rw [List.any_eq_false]
      intro p hp
      obtain ⟨q, hq', rfl⟩ := List.getElem_of_mem hp
      have := (hq q (by omega)).2
      rw [getD5 l2 q hq'] at this
      rw [this]; decide
  | succ d ih =>
    intro i hi hq
    have hlt : i < l2.length := by omega
    have hd : notDay (l1.getD i 0) = true → R = 1 := fun h => hn (.inl (List.any_eq_true.mpr ⟨l1.getD i 0, by rw [getDI l1 i (by omega)]; exact List.getElem_mem (by omega), h⟩))
    have hb : badPart l.length (l2.getD i []) = true → R = 1 := fun h => hn (.inr (List.any_eq_true.mpr ⟨l2.getD i [], by rw [getD5 l2 i hlt]; exact List.getElem_mem hlt, h⟩))
    have J2 : R = 1 → Ev (fun q => sr19_Wrong.j2 q l1 l2 i true s0 s1 s2 s3 s4 s5 n6 l) R := by
      intro hR
      refine Ev.step (fun q => by rw [sr19_Wrong.j2]) ?_
      simp only [if_true]; rw [hR]; exact Ev.now _
    refine Ev.step (fun q => by rw [sr19_Wrong.l0]) ?_
    simp only [if_pos (show (i : Int) < (l2.length : Int) by omega), if_pos (show (0 : Int) ≤ (i : Int) by omega), if_pos (show (i : Int) < (l1.length : Int) by omega), rdN, rd5]
    unfold notDay at hd
    by_cases c1 : l1.getD i 0 < 0
    · simp only [if_pos c1]; exact J2 (hd (by rw [decide_eq_true c1]; rfl))
    · simp only [if_neg c1]
      by_cases c2 : l1.getD i 0 > 1048576
      · simp only [if_pos c2]; exact J2 (hd (by rw [decide_eq_true (show 1048576 < l1.getD i 0 from c2), Bool.or_true]))
      · simp only [if_neg c2]
        have hnd : notDay (l1.getD i 0) = false := by unfold notDay; rw [decide_eq_false c1, decide_eq_false (show ¬ 1048576 < l1.getD i 0 by omega)]; rfl
        by_cases c3 : (l2.getD i []).length = l.length
        · rw [bne_eq_false_iff_eq.mpr (show ((l2.getD i []).length : Int) = (l.length : Int) by omega)]
          refine Ev.step (fun q => by rw [sr19_Wrong.j2]) ?_
          simp only [Bool.false_eq_true, if_false]
          unfold badPart at hb
          rw [decide_eq_true c3] at hb
          refine wrong_l1 s0 s1 s2 s3 s4 s5 n6 l l1 l2 hlr i hlt (by omega) R ?_ ?_ (l2.getD i []).length 0 (by omega) (fun q h => by omega)
          · intro hm
            rw [wrap_succ hlt h2]
            refine ih (i + 1) (by omega) ?_
            intro q hqi
            by_cases e : q = i
            · subst e
              exact ⟨hnd, by unfold badPart; rw [decide_eq_true c3, decide_eq_false hm]; rfl⟩
            · exact hq q (by omega)
          · intro hm
            exact hb (by rw [decide_eq_true hm]; rfl)
        · rw [bne_iff_ne.mpr (show ¬ ((l2.getD i []).length : Int) = (l.length : Int) by omega)]
          exact J2 (hb (by unfold badPart; rw [decide_eq_false c3]; rfl))
theorem mayB_pos {s0 s1 s2 s3 s4 s5 : ByteArray} {n6 : Int} {l : List S65} (h : mayB s0 s1 s2 s3 s4 s5 n6 l = true) : 1 ≤ l.length ∧ l.length ≤ 64 := by
  unfold mayB restB linesB at h
  simp only [Bool.and_eq_true, decide_eq_true_eq] at h
  exact h.2.2.2.2.2.2
theorem ref_wrong_ev (hl : l.length ≤ 9223372036854775807) (hn : ∀ x ∈ l, x.f0.size ≤ 9223372036854775807) (g0 : s0.size ≤ 9223372036854775807) (g1 : s1.size ≤ 9223372036854775807) (g2 : s2.size ≤ 9223372036854775807) (g4 : s4.size ≤ 9223372036854775807) (g5 : s5.size ≤ 9223372036854775807)
    (h1 : l1.length ≤ 9223372036854775807) (h2 : l2.length ≤ 9223372036854775807) (hlr : ∀ p ∈ l2, p.length ≤ 9223372036854775807) :
    Ev (fun k => sr19_Wrong.f k s0 s1 s2 s3 s4 s5 n6 l l1 l2) (askP (mayB s0 s1 s2 s3 s4 s5 n6 l) l l1 l2) := by
  unfold sr19_Wrong.f
  refine Ev.bind (ref_may_ev s0 s1 s2 s3 s4 s5 n6 l hl hn g0 g1 g2 g4 g5) ?_
  have J0 : badShape (mayB s0 s1 s2 s3 s4 s5 n6 l) l1 l2 = true → Ev (fun q => sr19_Wrong.j0 q l1 l2 true s0 s1 s2 s3 s4 s5 n6 l) (askP (mayB s0 s1 s2 s3 s4 s5 n6 l) l l1 l2) := by
    intro h
    refine Ev.step (fun q => by rw [sr19_Wrong.j0]) ?_
    simp only [if_true]
    unfold askP
    rw [if_pos h]; exact Ev.now _
  cases hm : mayB s0 s1 s2 s3 s4 s5 n6 l with
  | false =>
    rw [hm] at J0
    simp only [Bool.false_eq_true, if_false]
    exact J0 rfl
  | true =>
    rw [hm] at J0
    simp only [if_true]
    by_cases c1 : l2.length = l1.length
    · simp only [if_pos (show (l2.length : Int) = (l1.length : Int) by omega)]
      by_cases c2 : l2.length < 1
      · simp only [if_pos (show (l2.length : Int) < 1 by omega)]
        exact J0 (by unfold badShape; rw [decide_eq_true c1, decide_eq_true c2]; rfl)
      · simp only [if_neg (show ¬ (l2.length : Int) < 1 by omega)]
        by_cases c3 : l2.length > 64
        · rw [decide_eq_true (show (l2.length : Int) > 64 by omega)]
          exact J0 (by unfold badShape; rw [decide_eq_true c1, decide_eq_false c2, decide_eq_true (show 64 < l2.length from c3)]; rfl)
        · rw [decide_eq_false (show ¬ (l2.length : Int) > 64 by omega)]
          refine Ev.step (fun q => by rw [sr19_Wrong.j0]) ?_
          simp only [Bool.false_eq_true, if_false]
          have hbs : badShape true l1 l2 = false := by unfold badShape; rw [decide_eq_true c1, decide_eq_false c2, decide_eq_false (show ¬ 64 < l2.length from c3)]; rfl
          have hpos := mayB_pos hm
          have hA : askP true l l1 l2 = if l1.any notDay = true then 1 else if l2.any (badPart l.length) = true then 1 else if sortedB l1 = true then (if l2.any noneIn = true then 4 else if wholeB l l2 = true then 0 else 3) else 6 := by
            unfold askP; rw [if_neg (by rw [hbs]; decide)]
          rw [hA]
          refine wrong_l0 s0 s1 s2 s3 s4 s5 n6 l l1 l2 h2 hlr c1 (by omega) _ ?_ ?_ l2.length 0 (by omega) (fun q h => by omega)
          · intro e1 e2
            rw [e1, e2]
            simp only [Bool.false_eq_true, if_false]
            have hlen := parts_len e2
            refine wrong_l2 s0 s1 s2 s3 s4 s5 n6 l l1 l2 h1 _ ?_ ?_ (l1.length - 1) 1 (Nat.le_refl _) (by omega) (fun q a b => by omega)
            · intro e3
              rw [if_pos e3]
              refine wrong_l3 s0 s1 s2 s3 s4 s5 n6 l l2 h2 hlr ?_ _ ?_ ?_ l2.length 0 (by omega) (fun q h => by omega)
              · intro p hp
                refine noneIn_iff p (by rw [hlen p hp]; omega) ?_
                rw [List.any_eq_false] at e2
                have := e2 p hp
                unfold badPart at this
                rw [hlen p hp] at this
                simpa using this
              · intro e4
                rw [if_neg (by rw [e4]; decide)]
                exact wrong_l5 s0 s1 s2 s3 s4 s5 n6 l l2 h2 hl hlen l.length 0 (by omega) (fun q h => by omega)
              · intro e4
                rw [if_pos e4]
            · intro e3
              rw [if_neg (by rw [e3]; decide)]
          · rintro (e | e)
            · rw [if_pos e]
            · rw [if_pos e]; split <;> rfl
    · simp only [if_neg (show ¬ (l2.length : Int) = (l1.length : Int) by omega)]
      exact J0 (by unfold badShape; rw [decide_eq_false c1]; rfl)
end
end Go.Proofs.Ytlhaaccdiienbaa.X
