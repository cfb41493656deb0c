/- Plain laws of this claim: what 'Late' answers. -/
import Derived.Test.YtjagffhmdafnmaaMDays
import Derived.Test.YtjagffhmdafnmaaELate
namespace Go.Proofs.Ytjagffhmdafnmaa.X
open Go.RowKit Go.Proofs.YtjagffhmdafnmaaW.PrintWords Go.Proofs.YtjagffhmdafnmaaW.PrintLast Go.Proofs.YtjagffhmdafnmaaW.PrintMore

theorem nextP_spec (r h : List Int) (d : Int) (h1 : (nextP r h d).2 = true) : 0 ≤ d ∧ d ≤ (nextP r h d).1 ∧ (nextP r h d).1 ≤ 1048576 := by
  unfold nextP at h1 ⊢
  by_cases hd : 0 ≤ d ∧ d ≤ 1048576
  · rw [if_pos hd] at h1 ⊢
    obtain ⟨d, rfl⟩ := Int.eq_ofNat_of_zero_le hd.1
    rcases nth_spec (wkE r h) (1048577 - (d : Int)).toNat 1 d (by omega) with ⟨e, he, a, b, _⟩ | ⟨he, _⟩
    · rw [he]; simp only; omega
    · rw [he] at h1; simp at h1
  · rw [if_neg hd] at h1; simp at h1
/-- The last day for papers. -/
def endP (r h : List Int) (E s W : Int) : Int := if (nextP r h (s + W)).2 = true then mn (nextP r h E).1 (nextP r h (s + W)).1 else (nextP r h E).1
def lateP (r h : List Int) (L E W s p : Int) : Int :=
  if [s, p, L, E, W].any (fun n => !rightB n) = true then 1 else if (nextP r h E).2 = true then (if p < s then 6 else if L < s then 11 else if endP r h E s W < p then 11 else 0) else 4
theorem right_all {s p L E W : Int} : [s, p, L, E, W].any (fun n => !rightB n) = false ↔ (0 ≤ s ∧ s ≤ 1048576) ∧ (0 ≤ p ∧ p ≤ 1048576) ∧ (0 ≤ L ∧ L ≤ 1048576) ∧ (0 ≤ E ∧ E ≤ 1048576) ∧ (0 ≤ W ∧ W ≤ 1048576) := by
  simp [rightB, and_assoc]
theorem late_ev (r h : List Int) (hl : r.length ≤ 9223372036854775807) (hl2 : h.length ≤ 9223372036854775807) (s0 : ByteArray) (s1 : ByteArray) (s2 : ByteArray) (s3 : ByteArray) (s4 : ByteArray) (s5 : ByteArray) (s6 : ByteArray) (s7 : ByteArray) (n8 n9 n10 n14 : Int) (b15 b16 : Bool) (l17 : List Unit) (L E W s p : Int) :
    Ev (fun k => notice_Late.f k r h s0 s1 s2 s3 s4 s5 s6 s7 n8 n9 n10 L E W n14 b15 b16 l17 s p) (lateP r h L E W s p) := by
  unfold notice_Late.f lateP
  cases hr : [s, p, L, E, W].any (fun n => !rightB n) with
  | true => simp only [if_true]; exact Ev.now _
  | false =>
    have hb := right_all.mp hr
    simp only [Bool.false_eq_true, if_false]
    refine Ev.bind (expiry_ev r h hl hl2 E) ?_
    by_cases h1 : (nextP r h E).2 = true
    · simp only [if_pos h1, wrap_id (x := s + W) (by omega) (by omega)]
      refine Ev.bind (expiry_ev r h hl hl2 (s + W)) ?_
      unfold endP
      by_cases h2 : (nextP r h (s + W)).2 = true
      · simp only [if_pos h2]
        by_cases c1 : p < s
        · simp only [if_pos c1]; exact Ev.now _
        · simp only [if_neg c1]
          by_cases c2 : L < s
          · simp only [if_pos c2]; exact Ev.now _
          · simp only [if_neg c2]
            by_cases c3 : mn (nextP r h E).1 (nextP r h (s + W)).1 < p
            · simp only [if_pos c3]; exact Ev.now _
            · simp only [if_neg c3]; exact Ev.now _
      · simp only [if_neg h2]
        by_cases c1 : p < s
        · simp only [if_pos c1]; exact Ev.now _
        · simp only [if_neg c1]
          by_cases c2 : L < s
          · simp only [if_pos c2]; exact Ev.now _
          · simp only [if_neg c2]
            by_cases c3 : (nextP r h E).1 < p
            · simp only [if_pos c3]; exact Ev.now _
            · simp only [if_neg c3]; exact Ev.now _
    · simp only [if_neg h1]; exact Ev.now _
end Go.Proofs.Ytjagffhmdafnmaa.X
