/- The plain law of NoticeTold: who tells a fault that there is, in time, refuses rightly; what there isn't counts for nothing. -/
import Derived.Test.YtjagffhmdafnmaaMAnswers
import Derived.Test.YtjagffhmdafnmaaX11
namespace Go.Proofs.Ytjagffhmdafnmaa.X
open Go.RowKit Go.Proofs.YtjagffhmdafnmaaW.PrintWords Go.Proofs.YtjagffhmdafnmaaW.PrintLast Go.Proofs.YtjagffhmdafnmaaW.PrintMore

theorem eqF_self (x : S36) : eqF x x = true := by simp [eqF]
theorem beq_comm' {α : Type} [BEq α] [LawfulBEq α] (a b : α) : (a == b) = (b == a) := by
  rw [Bool.eq_iff_iff, beq_iff_eq, beq_iff_eq]; exact ⟨fun h => h.symm, fun h => h.symm⟩
theorem eqF_comm (x y : S36) : eqF x y = eqF y x := by
  unfold eqF
  rw [beq_comm' x.f0, beq_comm' x.f1, beq_comm' x.f2.toList, beq_comm' x.f3]
/-- Is a fault among those that there are? -/
def there (l3 : List S36) (y : S36) : Bool := l3.any (fun f => eqF f y)
theorem counts_not (l3 l : List S36) (h : ∀ y ∈ l, there l3 y = false) : counts l3 l = false := by
  unfold counts
  rw [List.any_eq_false]
  intro y hy
  have := h y hy
  unfold there at this
  have e : (fun f => eqF f y) = eqF y := by funext f; exact eqF_comm f y
  rw [e] at this
  rw [this]; decide
theorem told_end (r h : List Int) (hl : r.length ≤ 9223372036854775807) (hl2 : h.length ≤ 9223372036854775807) (p a : Int) (l3 wth other : List S36) (h0 : l3.length ≠ 0) (h1 : (addP r h p 5).2 = true) (hw : counts l3 wth = true) (ho : counts l3 other = false) :
    Ev (fun k => (notice_Answer.f k r h p a l3 wth).bind fun t => (if ((t == 1) == (if a ≥ p then decide (a ≤ (addP r h p 5).1) else false)) = true then ((notice_Answer.f k r h p a l3 other).bind fun t2 => (if t2 = 2 then ((notice_Answer.f k r h p a ([] : List (S36)) wth).bind fun t3 => (some (t3 == 0))) else (some false))) else (some false))) true := by
  have A1 := answer_ev r h hl hl2 p a l3 wth
  have A2 := answer_ev r h hl hl2 p a l3 other
  have A3 := answer_ev r h hl hl2 p a [] wth
  have e2 : answerP r h p a l3 other = 2 := by
    unfold answerP
    rw [if_neg h0, if_pos h1, ho]
    split
    · rfl
    · split
      · rfl
      · rfl
  have e3 : answerP r h p a [] wth = 0 := by unfold answerP; rfl
  have e1 : (answerP r h p a l3 wth == 1) = (if a ≥ p then decide (a ≤ (addP r h p 5).1) else false) := by
    unfold answerP
    rw [if_neg h0, if_pos h1, hw]
    by_cases c1 : (addP r h p 5).1 < a
    · rw [if_pos c1]
      by_cases c2 : a ≥ p
      · rw [if_pos c2, decide_eq_false (show ¬ a ≤ (addP r h p 5).1 by omega)]; rfl
      · rw [if_neg c2]; rfl
    · rw [if_neg c1]
      by_cases c2 : a < p
      · rw [if_pos c2, if_neg (show ¬ a ≥ p by omega)]; rfl
      · rw [if_neg c2, if_pos (show a ≥ p by omega), decide_eq_true (show a ≤ (addP r h p 5).1 by omega)]; rfl
  rw [e2] at A2
  rw [e3] at A3
  refine Ev.bind A1 ?_
  simp only [e1, beq_self_eq_true, if_true]
  refine Ev.bind A2 ?_
  simp only [if_true]
  exact Ev.bind A3 (Ev.now _)
theorem told_l1 (r h : List Int) (p a : Int) (l3 l4 wth other : List S36) (b : Bool) (h3 : l3.length ≤ 30) (i : Nat) (hi : i < l4.length) (hlim : other.length ≤ 40)
    (hyes : Ev (fun k => supercargolaw35_NoticeTold.l0 k p a l3 l4 b wth other (wrap64 ((i : Int) + 1)) r h) true)
    (hno : there l3 (l4.getD i z36) = false → Ev (fun k => supercargolaw35_NoticeTold.l0 k p a l3 l4 b wth (other ++ [l4.getD i z36]) (wrap64 ((i : Int) + 1)) r h) true) :
    ∀ (d j : Nat) (f : Bool), j + d = l3.length → (f = false → ∀ q, q < j → eqF (l3.getD q z36) (l4.getD i z36) = false) → Ev (fun k => supercargolaw35_NoticeTold.l1 k p a l3 l4 b wth other i f j r h) true := by
  intro d
  induction d with
  | zero =>
    intro j f hj ho
    refine Ev.step (fun k => by rw [supercargolaw35_NoticeTold.l1]) ?_
    simp only [if_neg (show ¬ ((j : Int) < (l3.length : Int)) by omega)]
    cases f with
    | true => simp only [if_true]; exact hyes
    | false =>
      simp only [Bool.false_eq_true, if_false, if_pos (show (0 : Int) ≤ i by omega), if_pos (show ((i : Int) < (l4.length : Int)) by omega), Option.bind_some, rdT_nat, List.length_singleton, if_pos (show other.length + 1 < 3518437208883 by omega)]
      apply hno
      unfold there
      rw [List.any_eq_false]
      intro y hy
      obtain ⟨q, hq, rfl⟩ := List.getElem_of_mem hy
      have := ho rfl q (by omega)
      rw [List.getD_eq_getElem?_getD (l := l3)] at this
      simp only [hq, List.getElem?_eq_getElem, Option.getD_some] at this
      rw [this]; decide
  | succ d ih =>
    intro j f hj ho
    have hlt : j < l3.length := by omega
    refine Ev.step (fun k => by rw [supercargolaw35_NoticeTold.l1]) ?_
    simp only [if_pos (show ((j : Int) < (l3.length : Int)) by omega), wrap_succ hlt (show l3.length ≤ 9223372036854775807 by omega)]
    cases f with
    | true => simp only [if_true]; exact ih (j + 1) true (by omega) (fun q => by cases q)
    | false =>
      simp only [Bool.false_eq_true, if_false, if_pos (show (0 : Int) ≤ i by omega), if_pos (show ((i : Int) < (l4.length : Int)) by omega), if_pos (show (0 : Int) ≤ j by omega), rdT_nat]
      refine ih (j + 1) (eqF (l3.getD j z36) (l4.getD i z36)) (by omega) ?_
      intro he q hq
      by_cases e : q = j
      · subst e; exact he
      · exact ho rfl q (by omega)
theorem told_l0 (r h : List Int) (hl : r.length ≤ 9223372036854775807) (hl2 : h.length ≤ 9223372036854775807) (p a : Int) (l3 l4 wth : List S36) (h0 : l3.length ≠ 0) (h1 : (addP r h p 5).2 = true) (hw : counts l3 wth = true) (h3 : l3.length ≤ 30) (h4 : l4.length ≤ 30) :
    ∀ (d i : Nat) (other : List S36), i + d = l4.length → other.length ≤ i → (∀ y ∈ other, there l3 y = false) → Ev (fun k => supercargolaw35_NoticeTold.l0 k p a l3 l4 (if a ≥ p then decide (a ≤ (addP r h p 5).1) else false) wth other i r h) true := by
  intro d
  induction d with
  | zero =>
    intro i other hi hlen ho
    refine Ev.step (fun k => by rw [supercargolaw35_NoticeTold.l0]) ?_
    simp only [if_neg (show ¬ ((i : Int) < (l4.length : Int)) by omega)]
    exact told_end r h hl hl2 p a l3 wth other h0 h1 hw (counts_not l3 other ho)
  | succ d ih =>
    intro i other hi hlen ho
    have hlt : i < l4.length := by omega
    refine Ev.step (fun k => by rw [supercargolaw35_NoticeTold.l0]) ?_
    simp only [if_pos (show ((i : Int) < (l4.length : Int)) by omega)]
    have hws := wrap_succ hlt (show l4.length ≤ 9223372036854775807 by omega)
    refine told_l1 r h p a l3 l4 wth other _ h3 i hlt (by omega) ?_ ?_ l3.length 0 false (by omega) (fun _ q hq => by omega)
    · rw [hws]; exact ih (i + 1) other (by omega) (by omega) ho
    · intro hn
      rw [hws]
      refine ih (i + 1) _ (by omega) (by simp; omega) ?_
      intro y hy
      rw [List.mem_append, List.mem_singleton] at hy
      rcases hy with hy | rfl
      · exact ho y hy
      · exact hn
theorem noticeTold_ev (r h : List Int) (hl : r.length ≤ 9223372036854775807) (hl2 : h.length ≤ 9223372036854775807) (p a : Int) (l3 l4 : List S36) (_h3 : l3.length ≤ 9223372036854775807) (_h4 : l4.length ≤ 9223372036854775807) (k5 : Int) : Ev (fun k => supercargolaw35_NoticeTold.f k r h p a l3 l4 k5) true := by
  unfold supercargolaw35_NoticeTold.f
  refine Ev.bind awake_ev ?_
  simp only [if_true, few_eq, Option.bind_some]
  refine Ev.bind (deadline_ev r h hl hl2 p) ?_
  have yes : ∀ b : Int, Ev (fun k => supercargolaw35_NoticeTold.j0 k p a l3 l4 k5 b true r h) true := by
    intro b
    refine Ev.step (fun k => by rw [supercargolaw35_NoticeTold.j0]) ?_
    simp only [if_true]
    exact Ev.now _
  by_cases hf : r.length ≤ 20 ∧ h.length ≤ 60
  · simp only [hf, and_self, decide_true, if_true]
    by_cases h1 : (addP r h p 5).2 = true
    · simp only [if_pos h1]
      by_cases c1 : (l3.length : Int) = 0
      · simp only [if_pos c1]; exact yes _
      · simp only [if_neg c1]
        by_cases c2 : (l3.length : Int) > 30
        · simp only [if_pos c2]; exact yes _
        · simp only [if_neg c2]
          by_cases c3 : (l4.length : Int) > 30
          · simp only [if_pos c3]; exact yes _
          · simp only [if_neg c3]
            by_cases c4 : k5 < 0
            · simp only [if_pos c4]; exact yes _
            · simp only [if_neg c4]
              by_cases c5 : k5 ≥ (l3.length : Int)
              · simp only [decide_eq_true c5]; exact yes _
              · simp only [decide_eq_false c5]
                obtain ⟨q, rfl⟩ := Int.eq_ofNat_of_zero_le (show 0 ≤ k5 by omega)
                have hq : q < l3.length := by omega
                refine Ev.step (fun k => by rw [supercargolaw35_NoticeTold.j0]) ?_
                simp only [Bool.false_eq_true, if_false]
                have key : Ev (fun k => supercargolaw35_NoticeTold.j1 k p a l3 l4 q (if a ≥ p then decide (a ≤ (addP r h p 5).1) else false) r h) true := by
                  refine Ev.step (fun k => by rw [supercargolaw35_NoticeTold.j1]) ?_
                  simp only [Option.bind_some, List.length_nil, Nat.zero_add, if_pos (show l4.length < 3518437208883 by omega), List.nil_append, if_pos (show (0 : Int) ≤ q by omega), if_pos (show ((q : Int) < (l3.length : Int)) by omega), List.length_singleton, if_pos (show l4.length + 1 < 3518437208883 by omega), rdT_nat]
                  refine told_l0 r h hl hl2 p a l3 l4 _ (by omega) h1 ?_ (by omega) (by omega) l4.length 0 [] (by omega) (by simp) (fun y hy => by simp at hy)
                  unfold counts
                  rw [List.any_append]
                  have : l3.any (eqF (l3.getD q z36)) = true := by
                    rw [List.any_eq_true]
                    refine ⟨l3.getD q z36, ?_, eqF_self _⟩
                    rw [List.getD_eq_getElem?_getD]; simp [hq]
                  have e : (⟨(l3.getD q z36).f0, (l3.getD q z36).f1, (l3.getD q z36).f2, (l3.getD q z36).f3⟩ : S36) = l3.getD q z36 := rfl
                  simp only [List.any_cons, List.any_nil, Bool.or_false, e, this, Bool.or_true]
                by_cases c6 : a ≥ p
                · simp only [if_pos c6]
                  rw [if_pos c6] at key
                  exact key
                · simp only [if_neg c6]
                  rw [if_neg c6] at key
                  exact key
    · simp only [if_neg h1]; exact yes _
  · simp only [hf, decide_false, Bool.false_eq_true, if_false]
    exact yes _
end Go.Proofs.Ytjagffhmdafnmaa.X
