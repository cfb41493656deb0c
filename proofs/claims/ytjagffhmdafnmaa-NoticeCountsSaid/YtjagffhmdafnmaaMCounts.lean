/- The plain law of NoticeCounts: for every calendar and day the printed function answers true. -/
import Derived.Test.YtjagffhmdafnmaaMB
import Derived.Test.YtjagffhmdafnmaaX6
namespace Go.Proofs.Ytjagffhmdafnmaa.X
open Go.RowKit Go.Proofs.YtjagffhmdafnmaaW.PrintWords Go.Proofs.YtjagffhmdafnmaaW.PrintLast Go.Proofs.YtjagffhmdafnmaaW.PrintMore

theorem counts_loop (r h : List Int) (hl : r.length ≤ 9223372036854775807) (hl2 : h.length ≤ 9223372036854775807) (p e : Nat) (h1 : (addP r h p 5).2 = true) (h2 : (addP r h p 5).1 = e) (he : e ≤ 1048576) (hw : wkE r h e = true) (hpe : p + 1 ≤ e) :
    ∀ (m d : Nat), d + m = e + 2 → p + 1 ≤ d → Ev (fun k => supercargolaw35_NoticeCounts.l0 k p e d r h) true := by
  intro m
  induction m with
  | zero =>
    intro d hd hp
    refine Ev.step (fun k => by rw [supercargolaw35_NoticeCounts.l0]) ?_
    simp only [wrap_id (x := (e : Int) + 1) (by omega) (by omega), if_neg (show ¬ ((d : Int) ≤ (e : Int) + 1) by omega)]
    exact Ev.now _
  | succ m ih =>
    intro d hd hp
    have ed : wrap64 ((d : Int) - 1) = ((d - 1 : Nat) : Int) := by unfold wrap64; omega
    have D1 := days_at r h p e (d - 1) h1 h2 (by omega) he
    have D2 := days_at r h p e d h1 h2 (by omega) he
    have edd : d - 1 + 1 = d := by omega
    rw [edd] at D1
    have P1 := precluded_ev r h hl hl2 p d false
    have P2 := precluded_ev r h hl hl2 p d true
    have W := ref_works_ev r h hl hl2 d
    -- what is left behind the test of the days' number
    have key : Ev (fun k => supercargolaw35_NoticeCounts.j4 k p e d (daysP r h p d) r h) true := by
      refine Ev.step (fun k => by rw [supercargolaw35_NoticeCounts.j4]) ?_
      refine Ev.bind (days_ev r h hl hl2 p d) ?_
      simp only [if_true]
      refine Ev.bind P1 ?_
      have b : ((addP r h p 5).2 && !false && decide ((addP r h p 5).1 < (d : Int))) = decide ((d : Int) > (e : Int)) := by rw [h1, h2]; simp
      simp only [b, bne_self_eq_false, Bool.false_eq_true, if_false]
      refine Ev.bind P2 ?_
      simp only [h1, Bool.not_true, Bool.and_false, Bool.false_and, Bool.false_eq_true, if_false, wrap_id (x := (d : Int) + 1) (by omega) (by omega)]
      exact ih (d + 1) (by omega) (by omega)
    refine Ev.step (fun k => by rw [supercargolaw35_NoticeCounts.l0]) ?_
    simp only [wrap_id (x := (e : Int) + 1) (by omega) (by omega), if_pos (show ((d : Int) ≤ (e : Int) + 1) by omega), ed]
    refine Ev.bind (days_ev r h hl hl2 p _) ?_
    by_cases hde : d ≤ e
    · simp only [if_pos (show (d : Int) ≤ (e : Int) by omega)]
      refine Ev.bind W ?_
      have hday : decide (0 ≤ (d : Int) ∧ (d : Int) ≤ 1048576) = true := by rw [decide_eq_true_iff]; omega
      refine Ev.step (fun k => by rw [supercargolaw35_NoticeCounts.j3]) ?_
      rw [if_neg (by omega)] at D1
      have hb := cnt_le (wkE r h) (e + 1)
      have hb2 := cnt_le (wkE r h) d
      have hc : cnt (wkE r h) (d + 1) = cnt (wkE r h) d + (if wkE r h d = true then 1 else 0) := rfl
      have D2' : daysP r h p d = cnt (wkE r h) (e + 1) - cnt (wkE r h) (d + 1) := by
        rw [D2]
        by_cases hx : e ≤ d
        · rw [if_pos hx]
          obtain rfl : d = e := by omega
          omega
        · rw [if_neg hx]
      by_cases hwd : wkE r h d = true
      · have : (decide (0 ≤ (d : Int) ∧ (d : Int) ≤ 1048576) && wkE r h d) = true := by rw [hday, hwd]; rfl
        simp only [this, if_true]
        rw [if_pos hwd] at hc
        have e3 : wrap64 (daysP r h p ((d - 1 : Nat) : Int) - 1) = daysP r h p d := by
          rw [D1, D2', wrap_id (by omega) (by omega)]; omega
        rw [e3]
        exact key
      · have : (decide (0 ≤ (d : Int) ∧ (d : Int) ≤ 1048576) && wkE r h d) = false := by rw [hday]; simpa using hwd
        simp only [this, Bool.false_eq_true, if_false]
        rw [if_neg hwd] at hc
        have e3 : daysP r h p ((d - 1 : Nat) : Int) = daysP r h p d := by rw [D1, D2']; omega
        rw [e3]
        exact key
    · simp only [if_neg (show ¬ (d : Int) ≤ (e : Int) by omega)]
      refine Ev.step (fun k => by rw [supercargolaw35_NoticeCounts.j3]) ?_
      simp only [Bool.false_eq_true, if_false]
      rw [if_pos (by omega)] at D1 D2
      have e3 : daysP r h p ((d - 1 : Nat) : Int) = daysP r h p d := by rw [D1, D2]
      rw [e3]
      exact key
theorem counts_ev (r h : List Int) (hl : r.length ≤ 9223372036854775807) (hl2 : h.length ≤ 9223372036854775807) (p : Int) : Ev (fun k => supercargolaw35_NoticeCounts.f k r h p) true := by
  unfold supercargolaw35_NoticeCounts.f
  refine Ev.bind awake_ev ?_
  simp only [if_true]
  refine Ev.bind (deadline_ev r h hl hl2 p) ?_
  simp only [few_eq, Option.bind_some]
  have yes : ∀ b : Int, Ev (fun k => supercargolaw35_NoticeCounts.j0 k p b true r h) true := by
    intro b
    refine Ev.step (fun k => by rw [supercargolaw35_NoticeCounts.j0]) ?_
    simp only [if_true]
    exact Ev.now _
  by_cases hf : r.length ≤ 20 ∧ h.length ≤ 60
  · simp only [hf, and_self, decide_true, if_true]
    by_cases h1 : (addP r h p 5).2 = true
    · simp only [h1, Bool.not_true]
      have hp := addP_ok r h p 5 h1
      obtain ⟨p, rfl⟩ := Int.eq_ofNat_of_zero_le hp.1
      obtain ⟨e, h2, hpe, he, hw, hc⟩ := addP_spec r h p 5 (by omega) h1
      rw [h2]
      refine Ev.step (fun k => by rw [supercargolaw35_NoticeCounts.j0]) ?_
      simp only [Bool.false_eq_true, if_false, wrap_id (x := (e : Int) - (p : Int)) (by omega) (by omega)]
      by_cases h4 : (e : Int) - (p : Int) > 400
      · simp only [if_pos h4]; exact Ev.now _
      · simp only [if_neg h4]
        have D1 := days_at r h p e p h1 h2 (by omega) he
        have D2 := days_at r h p e e h1 h2 (by omega) he
        rw [if_neg (by omega), hc] at D1
        rw [if_pos (by omega)] at D2
        have d1 := days_ev r h hl hl2 p p
        have d2 := days_ev r h hl hl2 p e
        rw [D1, show cnt (wkE r h) (p + 1) + 5 - cnt (wkE r h) (p + 1) = 5 by omega] at d1
        rw [D2] at d2
        refine Ev.bind d1 ?_
        simp only [if_true]
        refine Ev.bind d2 ?_
        simp only [if_true]
        refine Ev.bind (ref_works_ev r h hl hl2 e) ?_
        have hday : decide (0 ≤ (e : Int) ∧ (e : Int) ≤ 1048576) = true := by rw [decide_eq_true_iff]; omega
        simp only [hday, hw, Bool.and_self, Bool.not_true]
        refine Ev.step (fun k => by rw [supercargolaw35_NoticeCounts.j1]) ?_
        simp only [Bool.false_eq_true, if_false, wrap_id (x := (p : Int) + 1) (by omega) (by omega)]
        exact counts_loop r h hl hl2 p e h1 h2 he hw hpe (e + 1 - p) (p + 1) (by omega) (by omega)
    · simp only [h1, Bool.not_false]
      exact yes _
  · simp only [hf, decide_false]
    exact yes _
end Go.Proofs.Ytjagffhmdafnmaa.X
