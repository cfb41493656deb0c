/- The plain law of NoticeDays: for every calendar, day and answer the printed function answers true. -/
import Derived.Test.YtjagffhmdafnmaaMDays
import Derived.Test.YtjagffhmdafnmaaX8
namespace Go.Proofs.Ytjagffhmdafnmaa.X
open Go.RowKit Go.Proofs.YtjagffhmdafnmaaW.PrintWords Go.Proofs.YtjagffhmdafnmaaW.PrintLast Go.Proofs.YtjagffhmdafnmaaW.PrintMore

theorem noticeDays_ev (r h : List Int) (hl : r.length ≤ 9223372036854775807) (hl2 : h.length ≤ 9223372036854775807) (p t : Int) (b : Bool) : Ev (fun k => supercargolaw35_NoticeDays.f k r h p t b) true := by
  unfold supercargolaw35_NoticeDays.f
  refine Ev.bind awake_ev ?_
  simp only [if_true, few_eq, Option.bind_some]
  by_cases hf : r.length ≤ 20 ∧ h.length ≤ 60
  · simp only [hf, and_self, decide_true, if_true]
    refine Ev.bind (deadline_ev r h hl hl2 p) (Ev.bind (ref_deadline_ev r h hl hl2 p) (Ev.bind (expiry_ev r h hl hl2 p) (Ev.bind (ref_expiry_ev r h hl hl2 p) ?_)))
    simp only [if_true, beq_self_eq_true]
    refine Ev.bind (days_ev r h hl hl2 p t) (Ev.bind (ref_days_ev r h hl hl2 p t) ?_)
    simp only [if_true]
    refine Ev.bind (precluded_ev r h hl hl2 p t b) ?_
    cases h1 : (addP r h p 5).2 <;> cases b <;> simp only [Bool.false_and, Bool.true_and, Bool.not_true, Bool.not_false, Bool.false_eq_true, if_true, if_false, beq_self_eq_true, gt_iff_lt] <;> exact Ev.now _
  · simp only [hf, decide_false, Bool.false_eq_true, if_false]
    exact Ev.now _
end Go.Proofs.Ytjagffhmdafnmaa.X
