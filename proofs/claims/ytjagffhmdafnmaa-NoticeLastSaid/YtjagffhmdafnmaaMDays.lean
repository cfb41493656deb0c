/- Plain laws of this claim: the references of the layer notice answer what the program does. -/
import Derived.Test.YtjagffhmdafnmaaMB
import Derived.Test.YtjagffhmdafnmaaX7
namespace Go.Proofs.Ytjagffhmdafnmaa.X
open Go.RowKit Go.Proofs.YtjagffhmdafnmaaW.PrintWords Go.Proofs.YtjagffhmdafnmaaW.PrintLast Go.Proofs.YtjagffhmdafnmaaW.PrintMore

theorem expiry_ev (r h : List Int) (hl : r.length ≤ 9223372036854775807) (hl2 : h.length ≤ 9223372036854775807) (d : Int) : Ev (fun k => notice_Expiry.f k r h d) (nextP r h d) := by
  unfold notice_Expiry.f
  exact Ev.bind (next_ev r h hl hl2 d) (Ev.now _)
theorem ref_deadline_loop (r h : List Int) (hl : r.length ≤ 9223372036854775807) (hl2 : h.length ≤ 9223372036854775807) : ∀ (f : Nat) (n d : Int), 0 ≤ d → d + f = 1048577 → 0 ≤ n → n < 5 → Ev (fun k => supercargoref35_Deadline.l0 k n d r h) (nth (wkE r h) f (5 - n) d) := by
  intro f
  induction f with
  | zero =>
    intro n d h0 h1 h2 h3
    refine Ev.step (fun k => by rw [supercargoref35_Deadline.l0]) ?_
    simp only [if_neg (show ¬ d ≤ 1048576 by omega), nth]
    exact Ev.now _
  | succ f ih =>
    intro n d h0 h1 h2 h3
    refine Ev.step (fun k => by rw [supercargoref35_Deadline.l0]) ?_
    simp only [if_pos (show d ≤ 1048576 by omega), nth]
    refine Ev.bind (ref_works_ev r h hl hl2 d) ?_
    have hday : decide (0 ≤ d ∧ d ≤ 1048576) = true := by rw [decide_eq_true_iff]; omega
    simp only [hday, Bool.true_and, wrap_id (x := n + 1) (by omega) (by omega), wrap_id (x := d + 1) (by omega) (by omega)]
    by_cases hw : wkE r h d = true
    · simp only [hw, if_true]
      by_cases hn : n + 1 = 5
      · simp only [hn, if_true, if_neg (show ¬ 1 < 5 - n by omega)]; exact Ev.now _
      · simp only [if_neg hn, if_pos (show 1 < 5 - n by omega)]
        have := ih (n + 1) (d + 1) (by omega) (by omega) (by omega) (by omega)
        rw [show 5 - (n + 1) = 5 - n - 1 by omega] at this
        exact this
    · simp only [hw, if_neg (show ¬ n = 5 by omega)]
      exact ih n (d + 1) (by omega) (by omega) h2 h3
theorem ref_deadline_ev (r h : List Int) (hl : r.length ≤ 9223372036854775807) (hl2 : h.length ≤ 9223372036854775807) (d : Int) : Ev (fun k => supercargoref35_Deadline.f k r h d) (addP r h d 5) := by
  unfold supercargoref35_Deadline.f addP
  simp only [ref_is_eq, Option.bind_some]
  by_cases hd : 0 ≤ d ∧ d ≤ 1048576
  · simp only [hd, and_self, decide_true, if_true, wrap_id (x := d + 1) (by omega) (by omega)]
    exact ref_deadline_loop r h hl hl2 (1048576 - d).toNat 0 (d + 1) (by omega) (by omega) (by omega) (by omega)
  · simp only [hd, decide_false, if_false]
    exact Ev.now _
theorem ref_expiry_loop (r h : List Int) (hl : r.length ≤ 9223372036854775807) (hl2 : h.length ≤ 9223372036854775807) : ∀ (f : Nat) (d : Int), 0 ≤ d → d + f = 1048577 → Ev (fun k => supercargoref35_Expiry.l0 k d r h) (nth (wkE r h) f 1 d) := by
  intro f
  induction f with
  | zero =>
    intro d h0 h1
    refine Ev.step (fun k => by rw [supercargoref35_Expiry.l0]) ?_
    simp only [if_neg (show ¬ d ≤ 1048576 by omega), nth]
    exact Ev.now _
  | succ f ih =>
    intro d h0 h1
    refine Ev.step (fun k => by rw [supercargoref35_Expiry.l0]) ?_
    simp only [if_pos (show d ≤ 1048576 by omega), nth]
    refine Ev.bind (ref_works_ev r h hl hl2 d) ?_
    have hday : decide (0 ≤ d ∧ d ≤ 1048576) = true := by rw [decide_eq_true_iff]; omega
    simp only [hday, Bool.true_and, wrap_id (x := d + 1) (by omega) (by omega)]
    by_cases hw : wkE r h d = true
    · simp only [hw, if_true, if_neg (show ¬ (1 : Int) < 1 by omega)]; exact Ev.now _
    · simp only [hw]
      exact ih (d + 1) (by omega) (by omega)
theorem ref_expiry_ev (r h : List Int) (hl : r.length ≤ 9223372036854775807) (hl2 : h.length ≤ 9223372036854775807) (d : Int) : Ev (fun k => supercargoref35_Expiry.f k r h d) (nextP r h d) := by
  unfold supercargoref35_Expiry.f nextP
  simp only [ref_is_eq, Option.bind_some]
  by_cases hd : 0 ≤ d ∧ d ≤ 1048576
  · simp only [hd, and_self, decide_true, if_true]
    exact ref_expiry_loop r h hl hl2 (1048577 - d).toNat d (by omega) (by omega)
  · simp only [hd, decide_false, if_false]
    exact Ev.now _
theorem ref_days_loop (r h : List Int) (hl : r.length ≤ 9223372036854775807) (hl2 : h.length ≤ 9223372036854775807) (t : Nat) : ∀ (m : Nat) (e : Nat) (n : Int), (e : Int) = t + m → e ≤ 1048576 → 0 ≤ n → n + m ≤ 10000000 → Ev (fun k => supercargoref35_Days.l0 k t n e r h) (n + (cnt (wkE r h) (e + 1) - cnt (wkE r h) (t + 1))) := by
  intro m
  induction m with
  | zero =>
    intro e n h1 h2 h3 h4
    obtain rfl : e = t := by omega
    refine Ev.step (fun k => by rw [supercargoref35_Days.l0]) ?_
    simp only [if_neg (show ¬ (e : Int) > (e : Int) by omega), Int.sub_self, Int.add_zero]
    exact Ev.now _
  | succ m ih =>
    intro e n h1 h2 h3 h4
    obtain ⟨e, rfl⟩ : ∃ q, e = q + 1 := ⟨e - 1, by omega⟩
    refine Ev.step (fun k => by rw [supercargoref35_Days.l0]) ?_
    simp only [if_pos (show ((e + 1 : Nat) : Int) > (t : Int) by omega)]
    refine Ev.bind (ref_works_ev r h hl hl2 _) ?_
    have hday : decide (0 ≤ ((e + 1 : Nat) : Int) ∧ ((e + 1 : Nat) : Int) ≤ 1048576) = true := by rw [decide_eq_true_iff]; omega
    have ee : wrap64 (((e + 1 : Nat) : Int) - 1) = (e : Int) := by unfold wrap64; omega
    simp only [hday, Bool.true_and, wrap_id (x := n + 1) (by omega) (by omega), ee]
    have hc : cnt (wkE r h) (e + 1 + 1) = cnt (wkE r h) (e + 1) + (if wkE r h ((e + 1 : Nat) : Int) = true then 1 else 0) := rfl
    by_cases hw : wkE r h ((e + 1 : Nat) : Int) = true
    · rw [if_pos hw] at hc
      simp only [hw, if_true]
      have := ih e (n + 1) (by omega) (by omega) (by omega) (by omega)
      rw [hc, show n + (cnt (wkE r h) (e + 1) + 1 - cnt (wkE r h) (t + 1)) = n + 1 + (cnt (wkE r h) (e + 1) - cnt (wkE r h) (t + 1)) by omega]
      exact this
    · rw [if_neg hw] at hc
      simp only [hw]
      have := ih e n (by omega) (by omega) (by omega) (by omega)
      rw [hc, Int.add_zero]
      exact this
theorem ref_days_ev (r h : List Int) (hl : r.length ≤ 9223372036854775807) (hl2 : h.length ≤ 9223372036854775807) (p t : Int) : Ev (fun k => supercargoref35_Days.f k r h p t) (daysP r h p t) := by
  unfold supercargoref35_Days.f
  refine Ev.bind (ref_deadline_ev r h hl hl2 p) ?_
  by_cases h1 : (addP r h p 5).2 = true
  · have hp := addP_ok r h p 5 h1
    obtain ⟨p, rfl⟩ := Int.eq_ofNat_of_zero_le hp.1
    obtain ⟨e, h2, hpe, he, hw, hc⟩ := addP_spec r h p 5 (by omega) h1
    simp only [h1, if_true, h2]
    have key : ∀ q : Nat, p ≤ q → Ev (fun k => supercargoref35_Days.j0 k q e r h) (daysP r h p q) := by
      intro q hq
      refine Ev.step (fun k => by rw [supercargoref35_Days.j0]) ?_
      rw [days_at r h p e q h1 h2 hq he]
      by_cases hx : e ≤ q
      · rw [if_pos hx]
        refine Ev.step (fun k => by rw [supercargoref35_Days.l0]) ?_
        simp only [if_neg (show ¬ (e : Int) > (q : Int) by omega)]
        exact Ev.now _
      · rw [if_neg hx]
        have := ref_days_loop r h hl hl2 q (e - q) e 0 (by omega) he (by omega) (by omega)
        rw [Int.zero_add] at this
        exact this
    by_cases ht : t < (p : Int)
    · simp only [if_pos ht]
      have e1 : daysP r h p t = daysP r h p p := by
        unfold daysP
        have a : mx t p = p := by unfold mx; split <;> omega
        have b : mx (p : Int) p = p := by unfold mx; split <;> omega
        rw [a, b]
      rw [e1]
      exact key p (Nat.le_refl _)
    · simp only [if_neg ht]
      obtain ⟨t, rfl⟩ := Int.eq_ofNat_of_zero_le (show 0 ≤ t by omega)
      exact key t (by omega)
  · simp only [h1]
    unfold daysP
    rw [if_neg h1]
    exact Ev.now _
end Go.Proofs.Ytjagffhmdafnmaa.X
