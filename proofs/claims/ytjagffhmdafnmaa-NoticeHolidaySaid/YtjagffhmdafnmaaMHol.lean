/- The plain law of NoticeHoliday: a holiday more makes nothing too late that wasn't. -/
import Derived.Test.YtjagffhmdafnmaaMHolA
import Derived.Test.YtjagffhmdafnmaaMLate
import Derived.Test.YtjagffhmdafnmaaMAnswers
import Derived.Test.YtjagffhmdafnmaaX13
namespace Go.Proofs.Ytjagffhmdafnmaa.X
open Go.RowKit Go.Proofs.YtjagffhmdafnmaaW.PrintWords Go.Proofs.YtjagffhmdafnmaaW.PrintLast Go.Proofs.YtjagffhmdafnmaaW.PrintMore

theorem end_fewer (r h r2 h2 : List Int) (H : ∀ d, wkE r2 h2 d = true → wkE r h d = true) (E s W : Int) (hE : (nextP r2 h2 E).2 = true) : endP r h E s W ≤ endP r2 h2 E s W := by
  have a := next_fewer r h r2 h2 H E hE
  unfold endP
  by_cases h3 : (nextP r2 h2 (s + W)).2 = true
  · have b := next_fewer r h r2 h2 H (s + W) h3
    rw [if_pos b.1, if_pos h3]
    unfold mn; split <;> split <;> omega
  · rw [if_neg h3]
    split
    · unfold mn; split <;> omega
    · exact a.2
theorem hol_j2 (r h r2 h2 : List Int) (hl : r.length ≤ 9223372036854775807) (hl2 : h.length ≤ 9223372036854775807) (hl3 : r2.length ≤ 9223372036854775807) (hl4 : h2.length ≤ 9223372036854775807) (H : ∀ d, wkE r2 h2 d = true → wkE r h d = true)
    (s0 : ByteArray) (s1 : ByteArray) (s2 : ByteArray) (s3 : ByteArray) (s4 : ByteArray) (s5 : ByteArray) (s6 : ByteArray) (s7 : ByteArray) (n8 n9 n10 n14 : Int) (b15 b16 : Bool) (l17 : List Unit) (L E W s p : Int) :
    Ev (fun k => supercargolaw35_NoticeHoliday.j2 k s p false r h s0 s1 s2 s3 s4 s5 s6 s7 n8 n9 n10 L E W n14 b15 b16 l17 r2 h2) true := by
  refine Ev.step (fun k => by rw [supercargolaw35_NoticeHoliday.j2]) ?_
  simp only [Bool.false_eq_true, if_false]
  refine Ev.bind (late_ev r h hl hl2 s0 s1 s2 s3 s4 s5 s6 s7 n8 n9 n10 n14 b15 b16 l17 L E W s p) ?_
  by_cases c : lateP r h L E W s p = 0
  · simp only [if_pos c]
    refine Ev.bind (late_ev r2 h2 hl3 hl4 s0 s1 s2 s3 s4 s5 s6 s7 n8 n9 n10 n14 b15 b16 l17 L E W s p) ?_
    have e : (lateP r2 h2 L E W s p != 11) = true := by
      rw [bne_iff_ne]
      intro q
      unfold lateP at c q
      by_cases t : [s, p, L, E, W].any (fun n => !rightB n) = true
      · rw [if_pos t] at c; cases c
      · rw [if_neg t] at c q
        by_cases t2 : (nextP r2 h2 E).2 = true
        · have a := next_fewer r h r2 h2 H E t2
          have b := end_fewer r h r2 h2 H E s W t2
          rw [if_pos a.1] at c
          rw [if_pos t2] at q
          by_cases c1 : p < s
          · rw [if_pos c1] at c; cases c
          · rw [if_neg c1] at c q
            by_cases c2 : L < s
            · rw [if_pos c2] at c; cases c
            · rw [if_neg c2] at c q
              by_cases c3 : endP r h E s W < p
              · rw [if_pos c3] at c; cases c
              · rw [if_neg (show ¬ endP r2 h2 E s W < p by omega)] at q; cases q
        · rw [if_neg t2] at q; cases q
    rw [e]; exact Ev.now _
  · simp only [if_neg c]; exact Ev.now _
theorem hol_j1 (r h r2 h2 : List Int) (hl : r.length ≤ 9223372036854775807) (hl2 : h.length ≤ 9223372036854775807) (hl3 : r2.length ≤ 9223372036854775807) (hl4 : h2.length ≤ 9223372036854775807) (H : ∀ d, wkE r2 h2 d = true → wkE r h d = true)
    (s0 : ByteArray) (s1 : ByteArray) (s2 : ByteArray) (s3 : ByteArray) (s4 : ByteArray) (s5 : ByteArray) (s6 : ByteArray) (s7 : ByteArray) (n8 n9 n10 n14 : Int) (b15 b16 : Bool) (l17 : List Unit) (L E W s p a : Int) :
    Ev (fun k => supercargolaw35_NoticeHoliday.j1 k s p a (addP r2 h2 p 5).2 false r h s0 s1 s2 s3 s4 s5 s6 s7 n8 n9 n10 L E W n14 b15 b16 l17 r2 h2) true := by
  have J := hol_j2 r h r2 h2 hl hl2 hl3 hl4 H s0 s1 s2 s3 s4 s5 s6 s7 n8 n9 n10 n14 b15 b16 l17 L E W s p
  refine Ev.step (fun k => by rw [supercargolaw35_NoticeHoliday.j1]) ?_
  simp only [Bool.false_eq_true, if_false, Option.bind_some]
  by_cases c : (addP r2 h2 p 5).2 = true
  · simp only [if_pos c]
    refine Ev.bind (answer_ev r h hl hl2 p a _ _) ?_
    by_cases c1 : answerP r h p a [(⟨1, 0, (⟨#[]⟩ : ByteArray), 0⟩ : S36)] [(⟨1, 0, (⟨#[]⟩ : ByteArray), 0⟩ : S36)] = 1
    · simp only [if_pos c1]
      refine Ev.bind (answer_ev r2 h2 hl3 hl4 p a _ _) ?_
      have e : answerP r2 h2 p a [(⟨1, 0, (⟨#[]⟩ : ByteArray), 0⟩ : S36)] [(⟨1, 0, (⟨#[]⟩ : ByteArray), 0⟩ : S36)] = 1 := by
        have f := add_fewer r h r2 h2 H p 5 (by omega) c
        unfold answerP at c1 ⊢
        rw [if_neg (by simp)] at c1 ⊢
        rw [if_pos f.1] at c1
        rw [if_pos c]
        by_cases d1 : (addP r h p 5).1 < a
        · rw [if_pos d1] at c1; cases c1
        · rw [if_neg d1] at c1
          rw [if_neg (show ¬ (addP r2 h2 p 5).1 < a by omega)]
          exact c1
      rw [e]
      exact J
    · simp only [if_neg c1]; exact J
  · simp only [if_neg c]; exact J
theorem noticeHoliday_ev (r h : List Int) (hl : r.length ≤ 9223372036854775807) (hl2 : h.length ≤ 9223372036854775807) (x : Int)
    (s0 : ByteArray) (s1 : ByteArray) (s2 : ByteArray) (s3 : ByteArray) (s4 : ByteArray) (s5 : ByteArray) (s6 : ByteArray) (s7 : ByteArray) (n8 n9 n10 L E W n14 : Int) (b15 b16 : Bool) (l17 : List Unit) (s p a : Int) :
    Ev (fun k => supercargolaw35_NoticeHoliday.f k r h x s0 s1 s2 s3 s4 s5 s6 s7 n8 n9 n10 L E W n14 b15 b16 l17 s p a) true := by
  unfold supercargolaw35_NoticeHoliday.f
  refine Ev.bind awake_ev ?_
  simp only [if_true, few_eq, Option.bind_some]
  have yes : Ev (fun k => supercargolaw35_NoticeHoliday.j0 k x s p a true r h s0 s1 s2 s3 s4 s5 s6 s7 n8 n9 n10 L E W n14 b15 b16 l17) true := by
    refine Ev.step (fun k => by rw [supercargolaw35_NoticeHoliday.j0]) ?_
    simp only [if_true]
    exact Ev.now _
  by_cases hf : r.length ≤ 20 ∧ h.length ≤ 60
  · simp only [hf, and_self, decide_true, if_true]
    refine Ev.bind (may_ev r h hl hl2) ?_
    by_cases hm : May r h
    · simp only [hm, decide_true, Bool.not_true]
      refine Ev.step (fun k => by rw [supercargolaw35_NoticeHoliday.j0]) ?_
      simp only [Bool.false_eq_true, if_false]
      refine Ev.bind (both_ev r h [] [x] hl hl2 (by simp) (by simp)) ?_
      have H := both_fewer r h hm hf.2 x
      have hb := both_length r h [] [x]
      generalize bothP r h [] [x] = q at *
      obtain ⟨r2, h2⟩ := q
      simp only at H hb ⊢
      have hl3 : r2.length ≤ 9223372036854775807 := by omega
      have hl4 : h2.length ≤ 9223372036854775807 := by omega
      refine Ev.bind (deadline_ev r h hl hl2 p) (Ev.bind (deadline_ev r2 h2 hl3 hl4 p) (Ev.bind (expiry_ev r h hl hl2 p) (Ev.bind (expiry_ev r2 h2 hl3 hl4 p) ?_)))
      have J := hol_j1 r h r2 h2 hl hl2 hl3 hl4 H s0 s1 s2 s3 s4 s5 s6 s7 n8 n9 n10 n14 b15 b16 l17 L E W s p a
      have key : Ev (fun k => if (nextP r2 h2 p).2 = true then (if (nextP r h p).2 = true then supercargolaw35_NoticeHoliday.j1 k s p a (addP r2 h2 p 5).2 (decide ((nextP r2 h2 p).1 < (nextP r h p).1)) r h s0 s1 s2 s3 s4 s5 s6 s7 n8 n9 n10 L E W n14 b15 b16 l17 r2 h2 else supercargolaw35_NoticeHoliday.j1 k s p a (addP r2 h2 p 5).2 true r h s0 s1 s2 s3 s4 s5 s6 s7 n8 n9 n10 L E W n14 b15 b16 l17 r2 h2) else supercargolaw35_NoticeHoliday.j1 k s p a (addP r2 h2 p 5).2 false r h s0 s1 s2 s3 s4 s5 s6 s7 n8 n9 n10 L E W n14 b15 b16 l17 r2 h2) true := by
        by_cases c : (nextP r2 h2 p).2 = true
        · have f := next_fewer r h r2 h2 H p c
          simp only [if_pos c, if_pos f.1, decide_eq_false (show ¬ (nextP r2 h2 p).1 < (nextP r h p).1 by omega)]
          exact J
        · simp only [if_neg c]; exact J
      by_cases c : (addP r2 h2 p 5).2 = true
      · have f := add_fewer r h r2 h2 H p 5 (by omega) c
        simp only [if_pos c, if_pos f.1, if_neg (show ¬ (addP r2 h2 p 5).1 < (addP r h p 5).1 by omega)]
        exact key
      · simp only [if_neg c]; exact key
    · simp only [hm, decide_false, Bool.not_false]; exact yes
  · simp only [hf, decide_false, Bool.false_eq_true, if_false]
    exact yes
end Go.Proofs.Ytjagffhmdafnmaa.X
