/- The plain law of NoticeAnswers: what any answer is worth is just the reference's. -/
import Derived.Test.YtjagffhmdafnmaaMDays
import Derived.Test.YtjagffhmdafnmaaEAnswer
import Derived.Test.YtjagffhmdafnmaaX10
namespace Go.Proofs.Ytjagffhmdafnmaa.X
open Go.RowKit Go.Proofs.YtjagffhmdafnmaaW.PrintWords Go.Proofs.YtjagffhmdafnmaaW.PrintLast Go.Proofs.YtjagffhmdafnmaaW.PrintMore

def answerP (r h : List Int) (p a : Int) (l3 l4 : List S36) : Int :=
  if l3.length = 0 then 0 else if (addP r h p 5).2 = true then (if (addP r h p 5).1 < a then 2 else if a < p then 2 else if counts l3 l4 = true then 1 else 2) else 2
theorem answer_ev (r h : List Int) (hl : r.length ≤ 9223372036854775807) (hl2 : h.length ≤ 9223372036854775807) (p a : Int) (l3 l4 : List S36) : Ev (fun k => notice_Answer.f k r h p a l3 l4) (answerP r h p a l3 l4) := by
  unfold notice_Answer.f answerP
  by_cases h0 : l3.length = 0
  · simp only [if_pos h0]; exact Ev.now _
  · simp only [if_neg h0]
    refine Ev.bind (deadline_ev r h hl hl2 p) ?_
    by_cases h1 : (addP r h p 5).2 = true
    · simp only [if_pos h1]
      by_cases h2 : (addP r h p 5).1 < a
      · simp only [if_pos h2]; exact Ev.now _
      · simp only [if_neg h2]
        by_cases h3 : a < p
        · simp only [if_pos h3]; exact Ev.now _
        · simp only [if_neg h3]
          by_cases h4 : counts l3 l4 = true
          · simp only [if_pos h4]; exact Ev.now _
          · simp only [if_neg h4]; exact Ev.now _
    · simp only [if_neg h1]; exact Ev.now _

theorem ref_counts_l1 (l3 l4 : List S36) (hl : l3.length ≤ 9223372036854775807) (i : Nat) (hi : i < l4.length) (res : Bool) (hnext : l3.any (eqF (l4.getD i z36)) = false → Ev (fun k => supercargoref35_Counts.l0 k l3 l4 (wrap64 ((i : Int) + 1))) res) (hyes : l3.any (eqF (l4.getD i z36)) = true → res = true) :
    ∀ d j : Nat, j + d = l3.length → (∀ q, q < j → eqF (l4.getD i z36) (l3.getD q z36) = false) → Ev (fun k => supercargoref35_Counts.l1 k l3 l4 i j) res := by
  intro d
  induction d with
  | zero =>
    intro j hj ho
    refine Ev.step (fun k => by rw [supercargoref35_Counts.l1]) ?_
    simp only [if_neg (show ¬ ((j : Int) < (l3.length : Int)) by omega)]
    apply hnext
    rw [List.any_eq_false]
    intro y hy
    obtain ⟨q, hq, rfl⟩ := List.getElem_of_mem hy
    have := ho q (by omega)
    rw [List.getD_eq_getElem?_getD (l := l3)] at this
    simp [hq] at this
    simp [this]
  | succ d ih =>
    intro j hj ho
    have hlt : j < l3.length := by omega
    refine Ev.step (fun k => by rw [supercargoref35_Counts.l1]) ?_
    simp only [if_pos (show ((j : Int) < (l3.length : Int)) by omega), if_pos (show (0 : Int) ≤ i by omega), if_pos (show ((i : Int) < (l4.length : Int)) by omega), if_pos (show (0 : Int) ≤ j by omega), rdT_nat]
    cases hx : eqF (l4.getD i z36) (l3.getD j z36) with
    | true =>
      have : l3.any (eqF (l4.getD i z36)) = true := by
        rw [List.any_eq_true]
        refine ⟨l3.getD j z36, ?_, hx⟩
        rw [List.getD_eq_getElem?_getD]; simp [hlt]
      rw [hyes this]
      rw [eqF] at hx
      simp only [hx, if_true]
      exact Ev.now _
    | false =>
      have hx2 := hx
      rw [eqF] at hx
      simp only [hx, Bool.false_eq_true, if_false, wrap_succ hlt hl]
      refine ih (j + 1) (by omega) ?_
      intro q hq
      by_cases e : q = j
      · subst e; exact hx2
      · exact ho q (by omega)
theorem ref_counts_l0 (l3 l4 : List S36) (hl : l3.length ≤ 9223372036854775807) (hl4 : l4.length ≤ 9223372036854775807) : ∀ d i : Nat, i + d = l4.length → (∀ q, q < i → l3.any (eqF (l4.getD q z36)) = false) → Ev (fun k => supercargoref35_Counts.l0 k l3 l4 i) (counts l3 l4) := by
  intro d
  induction d with
  | zero =>
    intro i hi ho
    have e : counts l3 l4 = false := by
      unfold counts
      rw [List.any_eq_false]
      intro y hy
      obtain ⟨q, hq, rfl⟩ := List.getElem_of_mem hy
      have := ho q (by omega)
      rw [List.getD_eq_getElem?_getD (l := l4)] at this
      simp only [hq, List.getElem?_eq_getElem, Option.getD_some] at this
      rw [this]; decide
    refine Ev.step (fun k => by rw [supercargoref35_Counts.l0]) ?_
    simp only [if_neg (show ¬ ((i : Int) < (l4.length : Int)) by omega), e]
    exact Ev.now _
  | succ d ih =>
    intro i hi ho
    have hlt : i < l4.length := by omega
    refine Ev.step (fun k => by rw [supercargoref35_Counts.l0]) ?_
    simp only [if_pos (show ((i : Int) < (l4.length : Int)) by omega)]
    refine ref_counts_l1 l3 l4 hl i hlt _ ?_ ?_ l3.length 0 (by omega) (fun q hq => by omega)
    · intro hf
      rw [wrap_succ hlt hl4]
      refine ih (i + 1) (by omega) ?_
      intro q hq
      by_cases e : q = i
      · subst e; exact hf
      · exact ho q (by omega)
    · intro ht
      unfold counts
      rw [List.any_eq_true]
      refine ⟨l4.getD i z36, ?_, ht⟩
      rw [List.getD_eq_getElem?_getD]; simp [hlt]
theorem ref_answer_ev (r h : List Int) (hl : r.length ≤ 9223372036854775807) (hl2 : h.length ≤ 9223372036854775807) (p a : Int) (l3 l4 : List S36) (h3 : l3.length ≤ 9223372036854775807) (h4 : l4.length ≤ 9223372036854775807) : Ev (fun k => supercargoref35_Answer.f k r h p a l3 l4) (answerP r h p a l3 l4) := by
  unfold supercargoref35_Answer.f answerP
  by_cases h0 : l3.length = 0
  · simp only [h0, if_true, show ((0 : Nat) : Int) = 0 from rfl]; exact Ev.now _
  · simp only [if_neg h0, if_neg (show ¬ ((l3.length : Int) = 0) by omega)]
    refine Ev.bind (ref_deadline_ev r h hl hl2 p) ?_
    by_cases h1 : (addP r h p 5).2 = true
    · simp only [if_pos h1, gt_iff_lt]
      by_cases h2 : (addP r h p 5).1 < a
      · simp only [if_pos h2]; exact Ev.now _
      · simp only [if_neg h2]
        by_cases h3' : a < p
        · simp only [if_pos h3']; exact Ev.now _
        · simp only [if_neg h3']
          refine Ev.bind (ref_counts_l0 l3 l4 h3 h4 l4.length 0 (by omega) (fun q hq => by omega)) ?_
          by_cases h4 : counts l3 l4 = true
          · simp only [if_pos h4]; exact Ev.now _
          · simp only [if_neg h4]; exact Ev.now _
    · simp only [if_neg h1]; exact Ev.now _
theorem noticeAnswers_ev (r h : List Int) (hl : r.length ≤ 9223372036854775807) (hl2 : h.length ≤ 9223372036854775807) (p a : Int) (l3 l4 : List S36) (h3 : l3.length ≤ 9223372036854775807) (h4 : l4.length ≤ 9223372036854775807) : Ev (fun k => supercargolaw35_NoticeAnswers.f k r h p a l3 l4) true := by
  unfold supercargolaw35_NoticeAnswers.f
  refine Ev.bind awake_ev ?_
  simp only [if_true, few_eq, Option.bind_some]
  have yes : ∀ b : Bool, Ev (fun k => supercargolaw35_NoticeAnswers.j0 k p a l3 l4 b r h) true := by
    intro b
    refine Ev.step (fun k => by rw [supercargolaw35_NoticeAnswers.j0]) ?_
    cases b with
    | true => simp only [if_true]; exact Ev.now _
    | false =>
      simp only [Bool.false_eq_true, if_false]
      refine Ev.bind (answer_ev r h hl hl2 p a l3 l4) (Ev.bind (ref_answer_ev r h hl hl2 p a l3 l4 h3 h4) ?_)
      simp only [beq_self_eq_true]
      exact Ev.now _
  by_cases hf : r.length ≤ 20 ∧ h.length ≤ 60
  · simp only [hf, and_self, decide_true, if_true]
    by_cases h5 : (l3.length : Int) > 30
    · simp only [if_pos h5]; exact yes _
    · simp only [if_neg h5]; exact yes _
  · simp only [hf, decide_false, Bool.false_eq_true, if_false]
    exact yes _
end Go.Proofs.Ytjagffhmdafnmaa.X
