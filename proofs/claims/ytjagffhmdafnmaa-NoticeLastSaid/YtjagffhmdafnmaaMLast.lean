/- The plain law of NoticeLast: on the last day of a credit papers are in time, on the next one they are late. -/
import Derived.Test.YtjagffhmdafnmaaMLate
import Derived.Test.YtjagffhmdafnmaaX12
namespace Go.Proofs.Ytjagffhmdafnmaa.X
open Go.RowKit Go.Proofs.YtjagffhmdafnmaaW.PrintWords Go.Proofs.YtjagffhmdafnmaaW.PrintLast Go.Proofs.YtjagffhmdafnmaaW.PrintMore

/-- What is left behind the tests of the last day. -/
theorem last_j2 (r h : List Int) (hl : r.length ≤ 9223372036854775807) (hl2 : h.length ≤ 9223372036854775807) (s0 : ByteArray) (s1 : ByteArray) (s2 : ByteArray) (s3 : ByteArray) (s4 : ByteArray) (s5 : ByteArray) (s6 : ByteArray) (s7 : ByteArray) (E W s e : Int) (he : e = endP r h E s W) (hs : 0 ≤ s) (hse : s ≤ e) (hem : e ≤ 1048576) (hE : 0 ≤ E ∧ E ≤ 1048576) (hW : 0 ≤ W ∧ W ≤ 1048576) (h1 : (nextP r h E).2 = true) :
    Ev (fun k => supercargolaw35_NoticeLast.j2 k s e false r h s0 s1 s2 s3 s4 s5 s6 s7 0 0 0 s E W 0 false false s0 s1 s2 s3 s4 s5 s6 s7 0 0 0 (wrap64 (s - 1)) E W 0 false false) true := by
  refine Ev.step (fun k => by rw [supercargolaw35_NoticeLast.j2]) ?_
  simp only [Bool.false_eq_true, if_false]
  by_cases c : s = 0
  · simp only [if_pos c]; exact Ev.now _
  · simp only [if_neg c, wrap_id (x := s - 1) (by omega) (by omega)]
    have e1 : lateP r h (s - 1) E W s e = 11 := by
      unfold lateP
      rw [right_all.mpr (by omega), if_neg (by decide), if_pos h1, if_neg (by omega), if_pos (by omega)]
    have e2 : lateP r h s E W s (s - 1) = 6 := by
      unfold lateP
      rw [right_all.mpr (by omega), if_neg (by decide), if_pos h1, if_pos (by omega)]
    have L1 := late_ev r h hl hl2 s0 s1 s2 s3 s4 s5 s6 s7 0 0 0 0 false false [] (s - 1) E W s e
    have L2 := late_ev r h hl hl2 s0 s1 s2 s3 s4 s5 s6 s7 0 0 0 0 false false [] s E W s (s - 1)
    rw [e1] at L1
    rw [e2] at L2
    refine Ev.bind L1 ?_
    simp only [if_true]
    exact Ev.bind L2 (Ev.now _)
theorem last_j1 (r h : List Int) (hl : r.length ≤ 9223372036854775807) (hl2 : h.length ≤ 9223372036854775807) (s0 : ByteArray) (s1 : ByteArray) (s2 : ByteArray) (s3 : ByteArray) (s4 : ByteArray) (s5 : ByteArray) (s6 : ByteArray) (s7 : ByteArray) (E W s e : Int) (he : e = endP r h E s W) (hs : 0 ≤ s) (hse : s ≤ e) (hem : e ≤ 1048576) (hE : 0 ≤ E ∧ E ≤ 1048576) (hW : 0 ≤ W ∧ W ≤ 1048576) (h1 : (nextP r h E).2 = true) :
    Ev (fun k => supercargolaw35_NoticeLast.j1 k s e r h s0 s1 s2 s3 s4 s5 s6 s7 0 0 0 s E W 0 false false) true := by
  have J2 := last_j2 r h hl hl2 s0 s1 s2 s3 s4 s5 s6 s7 E W s e he hs hse hem hE hW h1
  refine Ev.step (fun k => by rw [supercargolaw35_NoticeLast.j1]) ?_
  simp only [if_neg (show ¬ e < s by omega)]
  have e1 : lateP r h s E W s e = 0 := by
    unfold lateP
    rw [right_all.mpr (by omega), if_neg (by decide), if_pos h1, if_neg (by omega), if_neg (by omega), if_neg (by omega)]
  have L1 := late_ev r h hl hl2 s0 s1 s2 s3 s4 s5 s6 s7 0 0 0 0 false false [] s E W s e
  rw [e1] at L1
  refine Ev.bind L1 ?_
  simp only [if_true]
  by_cases c : e < 1048576
  · simp only [if_pos c, wrap_id (x := e + 1) (by omega) (by omega)]
    have e2 : lateP r h s E W s (e + 1) = 11 := by
      unfold lateP
      rw [right_all.mpr (by omega), if_neg (by decide), if_pos h1, if_neg (by omega), if_neg (by omega), if_pos (by omega)]
    have L2 := late_ev r h hl hl2 s0 s1 s2 s3 s4 s5 s6 s7 0 0 0 0 false false [] s E W s (e + 1)
    rw [e2] at L2
    refine Ev.bind L2 ?_
    exact J2
  · simp only [if_neg c]
    exact J2
theorem noticeLast_ev (r h : List Int) (hl : r.length ≤ 9223372036854775807) (hl2 : h.length ≤ 9223372036854775807) (E s W : Int) : Ev (fun k => supercargolaw35_NoticeLast.f k r h E s W) true := by
  unfold supercargolaw35_NoticeLast.f
  refine Ev.bind awake_ev ?_
  simp only [if_true, few_eq, Option.bind_some]
  refine Ev.bind (expiry_ev r h hl hl2 E) ?_
  have yes : ∀ b : Int, Ev (fun k => supercargolaw35_NoticeLast.j0 k E s W b true r h) true := by
    intro b
    refine Ev.step (fun k => by rw [supercargolaw35_NoticeLast.j0]) ?_
    simp only [if_true]
    exact Ev.now _
  by_cases hf : r.length ≤ 20 ∧ h.length ≤ 60
  · simp only [hf, and_self, decide_true, if_true]
    by_cases h1 : (nextP r h E).2 = true
    · simp only [if_pos h1]
      have hE := nextP_spec r h E h1
      by_cases c1 : s < 0
      · simp only [if_pos c1]; exact yes _
      · simp only [if_neg c1]
        by_cases c2 : s > (nextP r h E).1
        · simp only [if_pos c2]; exact yes _
        · simp only [if_neg c2]
          by_cases c3 : W < 0
          · simp only [if_pos c3]; exact yes _
          · simp only [if_neg c3]
            by_cases c4 : W > 1048576
            · simp only [decide_eq_true c4]; exact yes _
            · simp only [decide_eq_false c4]
              refine Ev.step (fun k => by rw [supercargolaw35_NoticeLast.j0]) ?_
              simp only [Bool.false_eq_true, if_false, wrap_id (x := s + W) (by omega) (by omega)]
              refine Ev.bind (expiry_ev r h hl hl2 (s + W)) ?_
              by_cases h2 : (nextP r h (s + W)).2 = true
              · simp only [if_pos h2]
                have hB := nextP_spec r h (s + W) h2
                have he : mn (nextP r h E).1 (nextP r h (s + W)).1 = endP r h E s W := by unfold endP; rw [if_pos h2]
                exact last_j1 r h hl hl2 (⟨#[]⟩ : ByteArray) (⟨#[]⟩ : ByteArray) (⟨#[]⟩ : ByteArray) (⟨#[]⟩ : ByteArray) (⟨#[]⟩ : ByteArray) (⟨#[]⟩ : ByteArray) (⟨#[]⟩ : ByteArray) (⟨#[]⟩ : ByteArray)  E W s _ he (by omega) (by unfold mn; split <;> omega) (by unfold mn; split <;> omega) (by omega) (by omega) h1
              · simp only [if_neg h2]
                have he : (nextP r h E).1 = endP r h E s W := by unfold endP; rw [if_neg h2]
                exact last_j1 r h hl hl2 (⟨#[]⟩ : ByteArray) (⟨#[]⟩ : ByteArray) (⟨#[]⟩ : ByteArray) (⟨#[]⟩ : ByteArray) (⟨#[]⟩ : ByteArray) (⟨#[]⟩ : ByteArray) (⟨#[]⟩ : ByteArray) (⟨#[]⟩ : ByteArray)  E W s _ he (by omega) (by omega) (by omega) (by omega) (by omega) h1
    · simp only [if_neg h1]; exact yes _
  · simp only [hf, decide_false, Bool.false_eq_true, if_false]
    exact yes _
end Go.Proofs.Ytjagffhmdafnmaa.X
