/- Lemmas of this claim, proved by hand: a row of numbers of the call's own, sorted, and compacted. -/
import Derived.Test.YtlhaaccdiienbaaShelfB
import Derived.Test.YtlhaaccdiienbaaMSort
import Derived.Sort.OwnSortedInts
namespace Go.Proofs.Ytlhaaccdiienbaa.X
open Go.RowKit Go.Sort Go.Proofs.YtlhaaccdiienbaaW.PrintWords
set_option linter.unusedVariables false

theorem grownBy_refl (w : World) (row : Option Nat) : w.grownBy w row := ⟨rfl, rfl, rfl, Nat.le_refl _, fun _ _ _ => rfl⟩
theorem sort_own (v : Value) (l : List Int) (base : Nat) (w : World) (h : w.ownsRow base 3 1 v l.length (encs (Value.int .i64) l)) (hl : l.length < 4611686018427387904) :
    Calls Try.prog 60 #[v] w fun e w' => e = .returned (.tuple #[]) ∧ w'.ownsRow base 3 1 v l.length (encs (Value.int .i64) (sortP l)) ∧ w.grownBy w' v.ownBlock := by
  rcases h.2 with ⟨hv, h0⟩ | ⟨g, cap, cur, hv, hg, hb, hn, hcap, hsz, htake⟩
  · subst hv
    obtain rfl : l = [] := List.length_eq_zero_iff.mp h0
    refine (Try.slices_Sort_int_none none 0 w).mono ?_
    rintro e w' ⟨rfl, rfl⟩
    exact ⟨rfl, by simpa [sortP] using h, grownBy_refl _ _⟩
  · subst hv
    by_cases h0 : l.length = 0
    · obtain rfl : l = [] := List.length_eq_zero_iff.mp h0
      refine (Try.slices_Sort_int_none (some ⟨g, 0, none⟩) cap w).mono ?_
      rintro e w' ⟨rfl, rfl⟩
      exact ⟨rfl, by simpa [sortP] using h, grownBy_refl _ _⟩
    · have hH := holds_of_blockI hb (by rw [Nat.mul_one] at htake; exact htake)
      refine (Try.slices_Sort_int g 0 cap l w hH (Array.getElem?_eq_some_iff.1 hb).1 hl).mono ?_
      rintro e w' ⟨rfl, n, os, rfl⟩
      exact ⟨rfl, ownsRow_sortedI (ts := sortP l) (sortP_length l) hg hb hn hcap hsz, grownBy_sortedI _⟩
theorem compact_own (v : Value) (l : List Int) (base : Nat) (w : World) (h : w.ownsRow base 3 1 v l.length (encs (Value.int .i64) l)) (hl : l.length < 4611686018427387904) :
    Calls Try.prog 61 #[v] w fun e w' => ∃ v', e = .returned v' ∧ w'.ownsRow base 3 1 v' (Lib.compact l).length (encs (Value.int .i64) (Lib.compact l)) ∧ v'.ownBlock = v.ownBlock ∧ w.grownBy w' v.ownBlock := by
  rcases h.2 with ⟨hv, h0⟩ | ⟨g, cap, cur, hv, hg, hb, hn, hcap, hsz, htake⟩
  · subst hv
    obtain rfl : l = [] := List.length_eq_zero_iff.mp h0
    refine (Try.slices_Compact_int_empty none 0 w).mono ?_
    rintro e w' ⟨rfl, rfl⟩
    exact ⟨_, rfl, by simpa [Lib.compact, Lib.compactUpTo] using h, rfl, grownBy_refl _ _⟩
  · subst hv
    by_cases h0 : l.length = 0
    · obtain rfl : l = [] := List.length_eq_zero_iff.mp h0
      refine (Try.slices_Compact_int_empty (some ⟨g, 0, none⟩) cap w).mono ?_
      rintro e w' ⟨rfl, rfl⟩
      exact ⟨_, rfl, by simpa [Lib.compact, Lib.compactUpTo] using h, rfl, grownBy_refl _ _⟩
    · have hH := holds_of_blockI hb (by rw [Nat.mul_one] at htake; exact htake)
      refine (Try.slices_Compact_int g 0 cap l w hH (by omega) hn).mono ?_
      rintro e w' ⟨rfl, q, rfl⟩
      have hle := compact_le l
      refine ⟨_, rfl, ?_, rfl, ?_⟩
      · refine ⟨by simp [encs], .inr ⟨g, cap, putCells (Value.int .i64) 0 (Lib.compact l ++ List.replicate (l.length - (Lib.compact l).length) 0).toArray cur, rfl, hg, ?_, by omega, hcap, by simp [putCells, hsz], ?_⟩⟩
        · simp [putRow, mapBlock, Sort.ahead, Array.getElem?_modify, hb, onCells]
        · have ht := take_putCellsI cur (Lib.compact l ++ List.replicate (l.length - (Lib.compact l).length) 0) (by simp; omega)
          have h2 := congrArg (List.take (Lib.compact l).length) ht
          rw [List.take_take, List.length_append, List.length_replicate, Nat.min_eq_left (by omega), List.map_append, List.take_append_of_le_length (by simp)] at h2
          rw [Nat.mul_one]
          exact h2.trans (List.take_of_length_le (by simp))
      · refine ⟨rfl, rfl, rfl, by simp [putRow, mapBlock, Sort.ahead], fun k hk hne => ?_⟩
        have : g ≠ k := fun e => hne (by rw [e]; rfl)
        simp [putRow, mapBlock, Sort.ahead, Array.getElem?_modify, this]
end Go.Proofs.Ytlhaaccdiienbaa.X
