/- Plain laws of this claim: the example answers true; few stops and bounds. -/
import Derived.Test.YtlhaaccdiienbaaMBase
import Derived.Test.YtlhaaccdiienbaaX6
import Derived.Test.YtlhaaccdiienbaaEAwake
namespace Go.Proofs.Ytlhaaccdiienbaa.X
open Go.RowKit Go.Proofs.YtlhaaccdiienbaaW.PrintWords Go.Proofs.YtlhaaccdiienbaaW.PrintLast Go.Proofs.YtlhaaccdiienbaaW.PrintMore

theorem awake_ev : Ev (fun k => supercargolaw19_awake.f k) true :=
  ⟨30, fun k hk => by
    obtain ⟨d, rfl⟩ : ∃ d, k = 30 + d := ⟨k - 30, by omega⟩
    induction d with
    | zero => kernel_rfl
    | succ d ih => exact supercargolaw19_awake.mono _ _ (ih (by omega))⟩
theorem rd67n (l : List S67) (i : Nat) : rd_T67 l (i : Int) = l.getD i z67 := by simp [rd_T67]
theorem rd42n (l : List S42) (i : Nat) : rd_T42 l (i : Int) = l.getD i z42 := by simp [rd_T42]

/-! ### few -/
theorem few11_loop (l : List S67) : ∀ d i : Nat, i + d = l.length → i ≤ 41 → ∃ b, Ev (fun k => supercargoref11_Few.l0 k l i) b ∧ (b = true → l.length ≤ 41 ∧ ∀ q, i ≤ q → q < l.length → (l.getD q z67).f0.size ≤ 60 ∧ (l.getD q z67).f1 ≤ 1099511627776) := by
  intro d
  induction d with
  | zero =>
    intro i hi hi2
    refine ⟨true, Ev.step (fun k => by rw [supercargoref11_Few.l0]) ?_, fun _ => ⟨by omega, fun q h1 h2 => by omega⟩⟩
    simp only [if_neg (show ¬ (i : Int) < (l.length : Int) by omega)]
    exact Ev.now _
  | succ d ih =>
    intro i hi hi2
    have hlt : (i : Int) < (l.length : Int) := by omega
    by_cases c0 : (i : Int) > 40
    · refine ⟨false, Ev.step (fun k => by rw [supercargoref11_Few.l0]) ?_, fun h => by cases h⟩
      simp only [if_pos hlt, if_pos c0]
      exact Ev.now _
    · by_cases c1 : ((l.getD i z67).f0.size : Int) > 60
      · refine ⟨false, Ev.step (fun k => by rw [supercargoref11_Few.l0]) ?_, fun h => by cases h⟩
        simp only [if_pos hlt, if_neg c0, if_pos (show (0 : Int) ≤ (i : Int) by omega), rd67n, if_pos c1]
        exact Ev.now _
      · by_cases c2 : (l.getD i z67).f1 > 1099511627776
        · refine ⟨false, Ev.step (fun k => by rw [supercargoref11_Few.l0]) ?_, fun h => by cases h⟩
          simp only [if_pos hlt, if_neg c0, if_pos (show (0 : Int) ≤ (i : Int) by omega), rd67n, if_neg c1, if_pos c2]
          exact Ev.now _
        · obtain ⟨b, hb, hB⟩ := ih (i + 1) (by omega) (by omega)
          refine ⟨b, Ev.step (fun k => by rw [supercargoref11_Few.l0]) ?_, fun h => ⟨(hB h).1, fun q h1 h2 => ?_⟩⟩
          · simp only [if_pos hlt, if_neg c0, if_pos (show (0 : Int) ≤ (i : Int) by omega), rd67n, if_neg c1, if_neg c2, show wrap64 ((i : Int) + 1) = ((i + 1 : Nat) : Int) by unfold wrap64; omega]
            exact hb
          · by_cases e : q = i
            · subst e; exact ⟨by omega, by omega⟩
            · exact (hB h).2 q (by omega) h2
def lotsOk (l : List S67) : Prop := l.length ≤ 41 ∧ ∀ q, q < l.length → (l.getD q z67).f0.size ≤ 60 ∧ (l.getD q z67).f1 ≤ 1099511627776
theorem few11_ev (l : List S67) : ∃ b, Ev (fun k => supercargoref11_Few.f k l) b ∧ (b = true → lotsOk l) := by
  obtain ⟨b, h1, h2⟩ := few11_loop l l.length 0 (by omega) (by omega)
  exact ⟨b, h1, fun h => ⟨(h2 h).1, fun q hq => (h2 h).2 q (by omega) hq⟩⟩
theorem few_l1 (cs : List S42) : ∀ d i : Nat, i + d = cs.length → i ≤ 21 → ∃ b, Ev (fun k => supercargoref19_Few.l1 k cs i) b ∧ (b = true → cs.length ≤ 21 ∧ ∀ q, i ≤ q → q < cs.length → (cs.getD q z42).f0.size ≤ 60 ∧ lotsOk (cs.getD q z42).f3) := by
  intro d
  induction d with
  | zero =>
    intro i hi hi2
    refine ⟨true, Ev.step (fun k => by rw [supercargoref19_Few.l1]) ?_, fun _ => ⟨by omega, fun q h1 h2 => by omega⟩⟩
    simp only [if_neg (show ¬ (i : Int) < (cs.length : Int) by omega)]
    exact Ev.now _
  | succ d ih =>
    intro i hi hi2
    have hlt : (i : Int) < (cs.length : Int) := by omega
    by_cases c0 : (i : Int) > 20
    · refine ⟨false, Ev.step (fun k => by rw [supercargoref19_Few.l1]) ?_, fun h => by cases h⟩
      simp only [if_pos hlt, if_pos c0]
      exact Ev.now _
    · by_cases c1 : ((cs.getD i z42).f0.size : Int) > 60
      · refine ⟨false, Ev.step (fun k => by rw [supercargoref19_Few.l1]) ?_, fun h => by cases h⟩
        simp only [if_pos hlt, if_neg c0, if_pos (show (0 : Int) ≤ (i : Int) by omega), rd42n, if_pos c1]
        exact Ev.now _
      · obtain ⟨b, hb, hB⟩ := few11_ev (cs.getD i z42).f3
        cases b with
        | false =>
          refine ⟨false, Ev.step (fun k => by rw [supercargoref19_Few.l1]) ?_, fun h => by cases h⟩
          simp only [if_pos hlt, if_neg c0, if_pos (show (0 : Int) ≤ (i : Int) by omega), rd42n, if_neg c1]
          refine Ev.bind hb ?_
          simp only [Bool.false_eq_true, if_false]; exact Ev.now _
        | true =>
          obtain ⟨b', hb', hB'⟩ := ih (i + 1) (by omega) (by omega)
          refine ⟨b', Ev.step (fun k => by rw [supercargoref19_Few.l1]) ?_, fun h => ⟨(hB' h).1, fun q h1 h2 => ?_⟩⟩
          · simp only [if_pos hlt, if_neg c0, if_pos (show (0 : Int) ≤ (i : Int) by omega), rd42n, if_neg c1, show wrap64 ((i : Int) + 1) = ((i + 1 : Nat) : Int) by unfold wrap64; omega]
            refine Ev.bind hb ?_
            simp only [if_true]; exact hb'
          · by_cases e : q = i
            · subst e; exact ⟨by omega, hB rfl⟩
            · exact (hB' h).2 q (by omega) h2
def fewP (l : List S65) (cs : List S42) : Prop := l.length ≤ 70 ∧ (∀ q, q < l.length → (l.getD q z65).f0.size ≤ 60) ∧ cs.length ≤ 21 ∧ ∀ q, q < cs.length → (cs.getD q z42).f0.size ≤ 60 ∧ lotsOk (cs.getD q z42).f3
theorem few_l0 (s0 s1 s2 s3 s4 s5 : ByteArray) (n6 : Int) (l : List S65) (cs : List S42) (hl : l.length ≤ 70) : ∀ d i : Nat, i + d = l.length → (∀ q, q < i → (l.getD q z65).f0.size ≤ 60) → ∃ b, Ev (fun k => supercargoref19_Few.l0 k cs i s0 s1 s2 s3 s4 s5 n6 l) b ∧ (b = true → fewP l cs) := by
  intro d
  induction d with
  | zero =>
    intro i hi hq
    obtain ⟨b, hb, hB⟩ := few_l1 cs cs.length 0 (by omega) (by omega)
    refine ⟨b, Ev.step (fun k => by rw [supercargoref19_Few.l0]) ?_, fun h => ⟨hl, fun q hq' => hq q (by omega), (hB h).1, fun q hq' => (hB h).2 q (by omega) hq'⟩⟩
    simp only [if_neg (show ¬ (i : Int) < (l.length : Int) by omega)]
    exact hb
  | succ d ih =>
    intro i hi hq
    have hlt : (i : Int) < (l.length : Int) := by omega
    by_cases c1 : ((l.getD i z65).f0.size : Int) > 60
    · refine ⟨false, Ev.step (fun k => by rw [supercargoref19_Few.l0]) ?_, fun h => by cases h⟩
      simp only [if_pos hlt, if_pos (show (0 : Int) ≤ (i : Int) by omega), rd65, if_pos c1]
      exact Ev.now _
    · obtain ⟨b, hb, hB⟩ := ih (i + 1) (by omega) (fun q h => by
        by_cases e : q = i
        · subst e; omega
        · exact hq q (by omega))
      refine ⟨b, Ev.step (fun k => by rw [supercargoref19_Few.l0]) ?_, hB⟩
      simp only [if_pos hlt, if_pos (show (0 : Int) ≤ (i : Int) by omega), rd65, if_neg c1, show wrap64 ((i : Int) + 1) = ((i + 1 : Nat) : Int) by unfold wrap64; omega]
      exact hb
theorem few_ev (s0 s1 s2 s3 s4 s5 : ByteArray) (n6 : Int) (l : List S65) (cs : List S42) : ∃ b, Ev (fun k => supercargoref19_Few.f k s0 s1 s2 s3 s4 s5 n6 l cs) b ∧ (b = true → fewP l cs) := by
  unfold supercargoref19_Few.f
  have J : Ev (fun k => supercargoref19_Few.j0 k cs true s0 s1 s2 s3 s4 s5 n6 l) false := by
    refine Ev.step (fun k => by rw [supercargoref19_Few.j0]) ?_
    simp only [if_true]; exact Ev.now _
  by_cases c : (wrap64 ((wrap64 ((wrap64 ((wrap64 ((wrap64 ((s0.size : Int) + (s1.size : Int))) + (s2.size : Int))) + (s3.size : Int))) + (s4.size : Int))) + (s5.size : Int))) > 300
  · simp only [if_pos c]
    exact ⟨false, J, fun h => by cases h⟩
  · simp only [if_neg c]
    by_cases c2 : (l.length : Int) > 70
    · simp only [decide_eq_true c2]
      exact ⟨false, J, fun h => by cases h⟩
    · simp only [decide_eq_false c2]
      obtain ⟨b, hb, hB⟩ := few_l0 s0 s1 s2 s3 s4 s5 n6 l cs (by omega) l.length 0 (by omega) (fun q h => by omega)
      refine ⟨b, Ev.step (fun k => by rw [supercargoref19_Few.j0]) ?_, hB⟩
      simp only [Bool.false_eq_true, if_false]
      exact hb

end Go.Proofs.Ytlhaaccdiienbaa.X
