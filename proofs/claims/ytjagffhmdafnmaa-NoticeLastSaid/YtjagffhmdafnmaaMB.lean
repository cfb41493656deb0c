/- Plain laws of this claim: what the printed functions of the layer notice, and of the references on days, answer (no program in sight). -/
import Derived.Test.YtjagffhmdafnmaaMA
import Derived.Test.YtjagffhmdafnmaaX5
namespace Go.Proofs.Ytjagffhmdafnmaa.X
open Go.RowKit Go.Proofs.YtjagffhmdafnmaaW.PrintWords Go.Proofs.YtjagffhmdafnmaaW.PrintLast Go.Proofs.YtjagffhmdafnmaaW.PrintMore

/-! ### the reference's days -/
theorem ref_is_eq (d : Int) : supercargoref02_Is.f d = some (decide (0 ≤ d ∧ d ≤ 1048576)) := by
  unfold supercargoref02_Is.f
  by_cases h : d ≥ 0
  · rw [if_pos h]; congr 1; rw [decide_eq_decide]; omega
  · rw [if_neg h]; congr 1; symm; rw [decide_eq_false_iff_not]; omega
theorem ref_rises_loop (l : List Int) (top : Int) (hl : l.length ≤ 9223372036854775807) : ∀ d i : Nat, i + d = l.length → (∀ j, j < i → okAt l top j) → Ev (fun k => supercargoref02_rises.l0 k l top i) (decide (Rises l top)) := by
  intro d
  induction d with
  | zero =>
    intro i hi ho
    refine Ev.step (fun k => by rw [supercargoref02_rises.l0]) ?_
    have e : decide (Rises l top) = decide ((l.length : Int) ≤ 4096) := by
      rw [decide_eq_decide]
      unfold Rises
      constructor
      · rintro ⟨_, h⟩; omega
      · intro h; exact ⟨fun i hi' => ho i (by omega), by omega⟩
    simp only [if_neg (show ¬ ((i : Int) < (l.length : Int)) by omega)]
    rw [e]
    exact Ev.now _
  | succ d ih =>
    intro i hi ho
    refine Ev.step (fun k => by rw [supercargoref02_rises.l0]) ?_
    have hlt : i < l.length := by omega
    simp only [if_pos (show ((i : Int) < (l.length : Int)) by omega), if_pos (show (0 : Int) ≤ i by omega), rd_nat]
    have hno : ¬ okAt l top i → Ev (fun _ : Nat => some false) (decide (Rises l top)) := by
      intro h
      have e : decide (Rises l top) = false := by
        rw [decide_eq_false_iff_not]
        exact fun hr => h (hr.1 i hlt)
      rw [e]
      exact Ev.now _
    by_cases h1 : l.getD i 0 < 0
    · simp only [if_pos h1]
      exact hno (fun h => by have := h.1; omega)
    · simp only [if_neg h1]
      by_cases h2 : l.getD i 0 > top
      · simp only [if_pos h2]
        exact hno (fun h => by have := h.2.1; omega)
      · simp only [if_neg h2]
        have hw : wrap64 ((i : Int) + 1) = ((i + 1 : Nat) : Int) := wrap_succ hlt hl
        by_cases h3 : (i : Int) > 0
        · have hw2 : wrap64 ((i : Int) - 1) = ((i - 1 : Nat) : Int) := by unfold wrap64; omega
          simp only [if_pos h3, hw2, rd_nat]
          simp only [if_pos (show (0 : Int) ≤ ((i - 1 : Nat) : Int) by omega), if_pos (show ((i - 1 : Nat) : Int) < (l.length : Int) by omega)]
          by_cases h4 : l.getD (i - 1) 0 ≥ l.getD i 0
          · simp only [if_pos h4]
            exact hno (fun h => by have := h.2.2 (by omega); omega)
          · simp only [if_neg h4, hw]
            refine ih (i + 1) (by omega) ?_
            intro j hj
            by_cases e : j = i
            · subst e; exact ⟨by omega, by omega, fun _ => by omega⟩
            · exact ho j (by omega)
        · simp only [if_neg h3, hw]
          refine ih (i + 1) (by omega) ?_
          intro j hj
          have : i = 0 := by omega
          subst this
          obtain rfl : j = 0 := by omega
          exact ⟨by omega, by omega, fun h => by omega⟩
theorem ref_may_ev (r h : List Int) (hr : r.length ≤ 9223372036854775807) (hh : h.length ≤ 9223372036854775807) : Ev (fun k => supercargoref02_May.f k r h) (decide (May r h)) := by
  unfold supercargoref02_May.f supercargoref02_rises.f
  refine Ev.bind (ref_rises_loop r 6 hr r.length 0 (by omega) (fun j hj => by omega)) ?_
  by_cases h1 : Rises r 6
  · simp only [h1, decide_true, if_true]
    refine Ev.bind (ref_rises_loop h 1048576 hh h.length 0 (by omega) (fun j hj => by omega)) ?_
    have e : decide (May r h) = decide (Rises h 1048576) := by rw [decide_eq_decide]; unfold May; exact ⟨fun z => z.2, fun z => ⟨h1, z⟩⟩
    rw [e]
    exact Ev.now _
  · simp only [h1, decide_false]
    have e : decide (May r h) = false := by rw [decide_eq_false_iff_not]; exact fun z => h1 z.1
    rw [e]
    exact Ev.now _
theorem ref_in_loop (l : List Int) (x : Int) (hl : l.length ≤ 9223372036854775807) : ∀ d i : Nat, i + d = l.length → (∀ j, j < i → l.getD j 0 ≠ x) → Ev (fun k => supercargoref02_in.l0 k l x i) (decide (x ∈ l)) := by
  intro d
  induction d with
  | zero =>
    intro i hi ho
    refine Ev.step (fun k => by rw [supercargoref02_in.l0]) ?_
    have e : decide (x ∈ l) = false := by
      rw [decide_eq_false_iff_not]
      intro h
      obtain ⟨j, hj, rfl⟩ := List.getElem_of_mem h
      exact absurd (by rw [List.getD_eq_getElem?_getD]; simp [hj]) (ho j (by omega))
    simp only [if_neg (show ¬ ((i : Int) < (l.length : Int)) by omega), e]
    exact Ev.now _
  | succ d ih =>
    intro i hi ho
    have hlt : i < l.length := by omega
    refine Ev.step (fun k => by rw [supercargoref02_in.l0]) ?_
    simp only [if_pos (show ((i : Int) < (l.length : Int)) by omega), if_pos (show (0 : Int) ≤ i by omega), rd_nat, wrap_succ hlt hl]
    by_cases hx : l.getD i 0 = x
    · have e : decide (x ∈ l) = true := by
        rw [decide_eq_true_iff, ← hx, List.getD_eq_getElem?_getD]; simp [hlt]
      simp only [if_pos hx, e]
      exact Ev.now _
    · simp only [if_neg hx]
      refine ih (i + 1) (by omega) ?_
      intro j hj
      by_cases e : j = i
      · subst e; exact hx
      · exact ho j (by omega)
theorem ref_in_ev (l : List Int) (x : Int) (hl : l.length ≤ 9223372036854775807) : Ev (fun k => supercargoref02_in.f k l x) (decide (x ∈ l)) := ref_in_loop l x hl l.length 0 (by omega) (fun j hj => by omega)
theorem ref_rests_ev (r h : List Int) (hl : r.length ≤ 9223372036854775807) (hl2 : h.length ≤ 9223372036854775807) (d : Int) : Ev (fun k => supercargoref02_Rests.f k r h d) (decide (0 ≤ d ∧ d ≤ 1048576) && !wkE r h d) := by
  unfold supercargoref02_Rests.f
  simp only [ref_is_eq, Option.bind_some]
  by_cases hd : 0 ≤ d ∧ d ≤ 1048576
  · simp only [hd, and_self, decide_true, if_true, Bool.true_and]
    refine Ev.bind (ref_may_ev r h hl hl2) ?_
    unfold wkE
    by_cases hm : May r h
    · simp only [hm, decide_true, if_true, Int.tmod_eq_emod_of_nonneg hd.1]
      refine Ev.bind (ref_in_ev r (d % 7) hl) ?_
      unfold wk
      by_cases h1 : d % 7 ∈ r
      · simp only [h1, decide_true, if_true, Bool.true_or, Bool.not_not]; exact Ev.now _
      · simp only [h1, decide_false, Bool.false_or, Bool.not_not]
        exact Ev.bind (ref_in_ev h d hl2) (Ev.now _)
    · simp only [hm, decide_false, if_false, wk_nil, Bool.not_true]
      exact Ev.now _
  · simp only [hd, decide_false, Bool.false_and]
    exact Ev.now _
theorem ref_works_ev (r h : List Int) (hl : r.length ≤ 9223372036854775807) (hl2 : h.length ≤ 9223372036854775807) (d : Int) : Ev (fun k => supercargoref02_Works.f k r h d) (decide (0 ≤ d ∧ d ≤ 1048576) && wkE r h d) := by
  unfold supercargoref02_Works.f
  simp only [ref_is_eq, Option.bind_some]
  by_cases hd : 0 ≤ d ∧ d ≤ 1048576
  · have := ref_rests_ev r h hl hl2 d
    simp only [hd, and_self, decide_true, if_true, Bool.true_and] at this ⊢
    refine Ev.bind this ?_
    rw [Bool.not_not]
    exact Ev.now _
  · simp only [hd, decide_false, Bool.false_and]
    exact Ev.now _

/-! ### the program's notices -/
def daysP (r h : List Int) (p t : Int) : Int := if (addP r h p 5).2 = true then (if (addP r h p 5).1 ≤ mx t p then 0 else betweenP r h (mx t p + 1) ((addP r h p 5).1 + 1)) else 0
theorem addP_bd (r h : List Int) (d n : Int) (hn : 1 ≤ n) : 0 ≤ (addP r h d n).1 ∧ (addP r h d n).1 ≤ 1048576 := by
  unfold addP
  by_cases hd : 0 ≤ d ∧ d ≤ 1048576
  · rw [if_pos hd]
    obtain ⟨d, rfl⟩ := Int.eq_ofNat_of_zero_le hd.1
    rcases nth_spec (wkE r h) (1048576 - (d : Int)).toNat n (d + 1) hn with ⟨e, he, a, b, _⟩ | ⟨he, _⟩
    · rw [show ((d : Int) + 1) = ((d + 1 : Nat) : Int) from rfl, he]; simp only; omega
    · rw [show ((d : Int) + 1) = ((d + 1 : Nat) : Int) from rfl, he]; simp
  · rw [if_neg hd]; simp
theorem addP_ok (r h : List Int) (d n : Int) (h1 : (addP r h d n).2 = true) : 0 ≤ d ∧ d ≤ 1048576 := by
  unfold addP at h1
  by_cases hd : 0 ≤ d ∧ d ≤ 1048576
  · exact hd
  · rw [if_neg hd] at h1; simp at h1
theorem days_ev (r h : List Int) (hl : r.length ≤ 9223372036854775807) (hl2 : h.length ≤ 9223372036854775807) (p t : Int) : Ev (fun k => notice_Days.f k r h p t) (daysP r h p t) := by
  unfold notice_Days.f daysP
  refine Ev.bind (deadline_ev r h hl hl2 p) ?_
  have hb := addP_bd r h p 5 (by omega)
  by_cases h1 : (addP r h p 5).2 = true
  · simp only [h1, if_true]
    by_cases h2 : (addP r h p 5).1 ≤ mx t p
    · simp only [ge_iff_le, h2, if_true]; exact Ev.now _
    · simp only [ge_iff_le, h2, if_false]
      have e2 : wrap64 ((addP r h p 5).1 + 1) = (addP r h p 5).1 + 1 := wrap_id (by omega) (by omega)
      have hp := addP_ok r h p 5 h1
      have h3 : 0 ≤ mx t p := by unfold mx; split <;> omega
      have e1 : wrap64 (mx t p + 1) = mx t p + 1 := wrap_id (by omega) (by omega)
      rw [e1, e2]
      exact Ev.bind (between_ev r h hl hl2 _ _) (Ev.now _)
  · simp only [h1]
    exact Ev.now _
theorem precluded_ev (r h : List Int) (hl : r.length ≤ 9223372036854775807) (hl2 : h.length ≤ 9223372036854775807) (p t : Int) (b : Bool) : Ev (fun k => notice_Precluded.f k r h p t b) ((addP r h p 5).2 && !b && decide ((addP r h p 5).1 < t)) := by
  unfold notice_Precluded.f
  refine Ev.bind (deadline_ev r h hl hl2 p) ?_
  by_cases h1 : (addP r h p 5).2 = true
  · cases b <;> simp only [h1, if_true, Bool.true_and, Bool.not_true, Bool.not_false, Bool.false_and, gt_iff_lt]
    · exact Ev.now _
    · exact Ev.now _
  · simp only [h1, Bool.false_and]
    exact Ev.now _
/-- The deadline, in words: worked on, the fifth one behind the presentation. -/
theorem addP_spec (r h : List Int) (p : Nat) (n : Int) (hn : 1 ≤ n) (h1 : (addP r h p n).2 = true) : ∃ e : Nat, (addP r h p n).1 = e ∧ p + 1 ≤ e ∧ e ≤ 1048576 ∧ wkE r h e = true ∧ cnt (wkE r h) (e + 1) = cnt (wkE r h) (p + 1) + n := by
  have hp := addP_ok r h p n h1
  unfold addP at h1 ⊢
  rw [if_pos hp] at h1 ⊢
  rcases nth_spec (wkE r h) (1048576 - (p : Int)).toNat n (p + 1) hn with ⟨e, he, a, b, c, z⟩ | ⟨he, _⟩
  · rw [show ((p : Int) + 1) = ((p + 1 : Nat) : Int) from rfl, he]
    exact ⟨e, rfl, a, by omega, c, z⟩
  · rw [show ((p : Int) + 1) = ((p + 1 : Nat) : Int) from rfl, he] at h1
    simp at h1
theorem days_at (r h : List Int) (p e t : Nat) (h1 : (addP r h p 5).2 = true) (h2 : (addP r h p 5).1 = e) (hpt : p ≤ t) (he : e ≤ 1048576) : daysP r h p t = if e ≤ t then 0 else cnt (wkE r h) (e + 1) - cnt (wkE r h) (t + 1) := by
  have hm : mx (t : Int) p = t := by unfold mx; split <;> omega
  unfold daysP
  rw [if_pos h1, h2, hm]
  by_cases ht : e ≤ t
  · rw [if_pos ht, if_pos (by omega)]
  · rw [if_neg ht, if_neg (by omega)]
    unfold betweenP
    have a : mn ((e : Int) + 1) 1048577 = ((e + 1 : Nat) : Int) := by unfold mn; split <;> omega
    have b : mx ((t : Int) + 1) 0 = ((t + 1 : Nat) : Int) := by unfold mx; split <;> omega
    rw [a, b, if_neg (by omega), Int.toNat_natCast, Int.toNat_natCast]
theorem awake_ev : Ev (fun k => supercargolaw35_awake.f k) true := by
  unfold supercargolaw35_awake.f
  have e1 : addP [] [] 10 5 = (15, true) := by decide +kernel
  have e2 : addP [5, 6] [] 4 5 = (11, true) := by decide +kernel
  have e3 : daysP [] [] 10 12 = 3 := by decide +kernel
  have d1 := deadline_ev [] [] (by simp) (by simp) 10
  have d2 := deadline_ev [5, 6] [] (by simp) (by simp) 4
  have d3 := days_ev [] [] (by simp) (by simp) 10 12
  have d4 := precluded_ev [] [] (by simp) (by simp) 10 16 false
  rw [e1] at d1 d4
  rw [e2] at d2
  rw [e3] at d3
  refine Ev.bind d1 (Ev.bind d2 ?_)
  simp only [if_true]
  refine Ev.bind d3 ?_
  simp only [if_true]
  refine Ev.bind d4 ?_
  exact Ev.now _
theorem few_eq (r h : List Int) : supercargolaw35_few.f r h = some (decide (r.length ≤ 20 ∧ h.length ≤ 60)) := by
  unfold supercargolaw35_few.f
  by_cases h1 : (r.length : Int) ≤ 20
  · rw [if_pos h1]; congr 1; rw [decide_eq_decide]; omega
  · rw [if_neg h1]; congr 1; symm; rw [decide_eq_false_iff_not]; omega
end Go.Proofs.Ytjagffhmdafnmaa.X
