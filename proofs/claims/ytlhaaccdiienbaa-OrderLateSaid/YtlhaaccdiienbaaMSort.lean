/- Plain lemmas of this claim: a row of numbers, sorted, and compacted. -/
import Derived.Test.YtlhaaccdiienbaaX0
import Derived.Lib.SlicesCompact
namespace Go.Proofs.Ytlhaaccdiienbaa.X
open Go.RowKit

theorem compact_le (l : List Int) : (Lib.compact l).length ≤ l.length := by
  unfold Lib.compact Lib.compactUpTo
  rw [List.length_map]
  refine Nat.le_trans (List.length_filter_le _ _) ?_
  rw [List.length_range]; exact Nat.le_refl _
def sortP (l : List Int) : List Int := l.mergeSort fun x y => decide (x ≤ y)
theorem sortP_mem (l : List Int) (x : Int) : x ∈ sortP l ↔ x ∈ l := (List.mergeSort_perm l _).mem_iff
theorem sortP_length (l : List Int) : (sortP l).length = l.length := List.length_mergeSort _
theorem sortP_sorted (l : List Int) : (sortP l).Pairwise (· ≤ ·) := by
  have := List.pairwise_mergeSort (le := fun x y : Int => decide (x ≤ y)) (by intro a b c; simp; omega) (by intro a b; simp; omega) l
  exact this.imp (by intro a b h; simpa using h)
theorem compact_inv (l : List Int) (hs : l.Pairwise (· ≤ ·)) : ∀ m : Nat, m ≤ l.length → (Lib.compactUpTo l.toArray m).Pairwise (· < ·) ∧ (∀ x, x ∈ Lib.compactUpTo l.toArray m ↔ ∃ j, j < m ∧ l.getD j 0 = x) ∧ (Lib.compactUpTo l.toArray m).length ≤ m := by
  have gd : ∀ j, j < l.length → l.toArray[j]! = l.getD j 0 := by
    intro j hj; simp [hj, getElem!_pos]
  have mono : ∀ i j, i ≤ j → j < l.length → l.getD i 0 ≤ l.getD j 0 := by
    intro i j hij hj
    by_cases e : i = j
    · subst e; exact Int.le_refl _
    · have := List.pairwise_iff_getElem.mp hs i j (by omega) hj (by omega)
      simpa [List.getD_eq_getElem?_getD, show i < l.length by omega, hj] using this
  intro m
  induction m with
  | zero => intro _; refine ⟨?_, ?_, ?_⟩ <;> simp [Lib.compactUpTo]
  | succ m ih =>
    intro hm
    obtain ⟨h1, h2, h3⟩ := ih (by omega)
    rw [Lib.compactUpTo_succ]
    cases hk : Lib.keeps l.toArray m with
    | true =>
      simp only [if_true]
      have hlt : ∀ j, j < m → l.getD j 0 < l.getD m 0 := by
        intro j hj
        unfold Lib.keeps at hk
        rw [decide_eq_true_iff] at hk
        rcases hk with hk | hk
        · omega
        · rw [gd m (by omega), gd (m - 1) (by omega)] at hk
          have a := mono j (m - 1) (by omega) (by omega)
          have b := mono (m - 1) m (by omega) (by omega)
          omega
      refine ⟨?_, ?_, ?_⟩
      · rw [List.pairwise_append]
        refine ⟨h1, by simp, ?_⟩
        intro x hx y hy
        obtain ⟨j, hj, rfl⟩ := (h2 x).mp hx
        rw [List.mem_singleton] at hy
        rw [hy, gd m (by omega)]
        exact hlt j hj
      · intro x
        rw [List.mem_append, h2, List.mem_singleton, gd m (by omega)]
        constructor
        · rintro (⟨j, hj, rfl⟩ | rfl)
          · exact ⟨j, by omega, rfl⟩
          · exact ⟨m, by omega, rfl⟩
        · rintro ⟨j, hj, rfl⟩
          by_cases e : j = m
          · subst e; exact .inr rfl
          · exact .inl ⟨j, by omega, rfl⟩
      · rw [List.length_append, List.length_singleton]; omega
    | false =>
      simp only [Bool.false_eq_true, if_false, List.append_nil]
      refine ⟨h1, ?_, by omega⟩
      intro x
      rw [h2]
      have e : 0 < m ∧ l.getD m 0 = l.getD (m - 1) 0 := by
        unfold Lib.keeps at hk
        rw [decide_eq_false_iff_not] at hk
        have : m ≠ 0 := fun e => hk (.inl e)
        refine ⟨by omega, ?_⟩
        rw [← gd m (by omega), ← gd (m - 1) (by omega)]
        exact Decidable.not_not.mp (fun q => hk (.inr q))
      constructor
      · rintro ⟨j, hj, rfl⟩; exact ⟨j, by omega, rfl⟩
      · rintro ⟨j, hj, rfl⟩
        by_cases q : j = m
        · subst q; exact ⟨j - 1, by omega, e.2.symm⟩
        · exact ⟨j, by omega, rfl⟩
/-- A row, sorted, each number once. -/
def rowP (l : List Int) : List Int := Lib.compact (sortP l)
theorem rowP_spec (l : List Int) : (rowP l).Pairwise (· < ·) ∧ (∀ x, x ∈ rowP l ↔ x ∈ l) ∧ (rowP l).length ≤ l.length := by
  have h := compact_inv (sortP l) (sortP_sorted _) (sortP l).length (Nat.le_refl _)
  refine ⟨h.1, ?_, ?_⟩
  · intro x
    show x ∈ Lib.compactUpTo _ _ ↔ _
    rw [h.2.1, ← sortP_mem]
    constructor
    · rintro ⟨j, hj, rfl⟩
      rw [List.getD_eq_getElem?_getD, List.getElem?_eq_getElem hj, Option.getD_some]
      exact List.getElem_mem hj
    · intro hx
      obtain ⟨j, hj, rfl⟩ := List.getElem_of_mem hx
      exact ⟨j, hj, by rw [List.getD_eq_getElem?_getD, List.getElem?_eq_getElem hj, Option.getD_some]⟩
  · have hl := sortP_length l
    exact Nat.le_trans h.2.2 (by omega)
end Go.Proofs.Ytlhaaccdiienbaa.X
