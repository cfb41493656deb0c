import Derived.Test.YtlhaaccdiienbaaMA
import Derived.Test.YtlhaaccdiienbaaX5
import Derived.Test.YtlhaaccdiienbaaX13
import Derived.Test.YtlhaaccdiienbaaECut
namespace Go.Proofs.Ytlhaaccdiienbaa.X
open Go.RowKit Go.Proofs.YtlhaaccdiienbaaW.PrintWords Go.Proofs.YtlhaaccdiienbaaW.PrintLast Go.Proofs.YtlhaaccdiienbaaW.PrintMore

theorem rdN (l : List Int) (i : Nat) : rd l (i : Int) = l.getD i 0 := by simp [rd]
theorem rd5 (l : List (List Int)) (i : Nat) : rd_L5 l (i : Int) = l.getD i [] := by simp [rd_L5]
theorem getD5 (l : List (List Int)) (i : Nat) (h : i < l.length) : l.getD i [] = l[i] := by rw [List.getD_eq_getElem?_getD, List.getElem?_eq_getElem h, Option.getD_some]
theorem getDI (l : List Int) (i : Nat) (h : i < l.length) : l.getD i 0 = l[i] := by rw [List.getD_eq_getElem?_getD, List.getElem?_eq_getElem h, Option.getD_some]

def sortedB (l : List Int) : Bool := (List.range l.length).all (fun i => !decide (l.getD i 0 < l.getD (i - 1) 0))
theorem less_eq (a b : Int) : cmp_Less_int.f a b = some (decide (a < b)) := by simp [cmp_Less_int.f, cmp_isNaN_int.f]
theorem sortedB_no {l : List Int} {i : Nat} (hi : i < l.length) (h : l.getD i 0 < l.getD (i - 1) 0) : sortedB l = false := by
  unfold sortedB
  rw [List.all_eq_false]; exact ⟨i, List.mem_range.mpr hi, by simp only [decide_eq_true h]; decide⟩
theorem sortedB_yes {l : List Int} (h : ∀ q, 1 ≤ q → q < l.length → ¬ l.getD q 0 < l.getD (q - 1) 0) : sortedB l = true := by
  unfold sortedB
  rw [List.all_eq_true]
  intro q hq
  have hq' := List.mem_range.mp hq
  by_cases h0 : q = 0
  · subst h0; simp
  · rw [decide_eq_false (h q (by omega) hq')]; rfl
theorem sorted_loop (l : List Int) (hl : l.length ≤ 9223372036854775807) : ∀ i : Nat, i < l.length → (∀ q, i < q → q < l.length → ¬ l.getD q 0 < l.getD (q - 1) 0) → Ev (fun k => slices_IsSorted_int_int.l0 k l i) (sortedB l) := by
  intro i
  induction i with
  | zero =>
    intro hi hq
    refine Ev.step (fun k => by rw [slices_IsSorted_int_int.l0]) ?_
    simp only [if_neg (show ¬ ((0 : Nat) : Int) > 0 by omega)]
    rw [sortedB_yes (fun q h1 h2 => hq q (by omega) h2)]
    exact Ev.now _
  | succ i ih =>
    intro hi hq
    refine Ev.step (fun k => by rw [slices_IsSorted_int_int.l0]) ?_
    have e : wrap64 (((i + 1 : Nat) : Int) - 1) = (i : Int) := by unfold wrap64; omega
    simp only [if_pos (show ((i + 1 : Nat) : Int) > 0 by omega), if_pos (show (0 : Int) ≤ ((i + 1 : Nat) : Int) by omega), if_pos (show ((i + 1 : Nat) : Int) < (l.length : Int) by omega), e, if_pos (show (0 : Int) ≤ (i : Int) by omega), if_pos (show (i : Int) < (l.length : Int) by omega), less_eq, Option.bind_some, rdN]
    by_cases c : l.getD (i + 1) 0 < l.getD i 0
    · simp only [decide_eq_true c, if_true]
      rw [sortedB_no hi (by simpa using c)]
      exact Ev.now _
    · simp only [decide_eq_false c, Bool.false_eq_true, if_false]
      refine ih (by omega) ?_
      intro q h1 h2
      by_cases e : q = i + 1
      · subst e; simpa using c
      · exact hq q (by omega) h2
theorem sorted_ev (l : List Int) (hl : l.length ≤ 9223372036854775807) : Ev (fun k => slices_IsSorted_int_int.f k l) (sortedB l) := by
  unfold slices_IsSorted_int_int.f
  by_cases h : l.length = 0
  · have e : l = [] := List.length_eq_zero_iff.mp h
    subst e
    refine Ev.step (fun k => by rw [slices_IsSorted_int_int.l0]) ?_
    simp only [List.length_nil, show ¬ (wrap64 (((0 : Nat) : Int) - 1)) > 0 by unfold wrap64; omega, if_false]
    exact Ev.now _
  · obtain ⟨n, hn⟩ : ∃ n, l.length = n + 1 := ⟨l.length - 1, by omega⟩
    rw [show wrap64 ((l.length : Int) - 1) = (n : Int) by unfold wrap64; omega]
    exact sorted_loop l hl n (by omega) (fun q h1 h2 => by omega)

def wholeK : Int → List Int → Bool
  | x, [] => decide (x = 0)
  | x, p :: r => if p > x then false else wholeK (wrap64 (x - p)) r
def colK (l2 : List (List Int)) (k : Nat) : List Int := l2.map (fun p => p.getD k 0)
def wholeB (l : List S65) (l2 : List (List Int)) : Bool := (List.range l.length).all (fun k => wholeK (l.getD k z65).f1 (colK l2 k))
theorem wholeB_no {l : List S65} {l2 : List (List Int)} {k : Nat} (hk : k < l.length) (h : wholeK (l.getD k z65).f1 (colK l2 k) = false) : wholeB l l2 = false := by
  unfold wholeB
  rw [List.all_eq_false]; exact ⟨k, List.mem_range.mpr hk, by rw [h]; decide⟩
theorem colK_drop (l2 : List (List Int)) (k i : Nat) (h : i < l2.length) : (colK l2 k).drop i = (l2.getD i []).getD k 0 :: (colK l2 k).drop (i + 1) := by
  unfold colK
  rw [List.drop_eq_getElem_cons (by rw [List.length_map]; exact h), List.getElem_map, getD5 l2 i h]
theorem whole_inner (l2 : List (List Int)) (l : List S65) (n : Int) (k : Nat) (h2 : l2.length ≤ 9223372036854775807) (hk : ∀ p ∈ l2, k < p.length) (R : Bool) :
    ∀ (d i : Nat) (x : Int), i + d = l2.length → (wholeK x ((colK l2 k).drop i) = true → Ev (fun q => order_whole.l0 q l2 l n (wrap64 ((k : Int) + 1))) R) → (wholeK x ((colK l2 k).drop i) = false → R = false) → Ev (fun q => order_whole.l1 q l2 k x l n k l2 (l2.length : Int) i) R := by
  intro d
  induction d with
  | zero =>
    intro i x hi hy hn
    refine Ev.step (fun q => by rw [order_whole.l1]) ?_
    simp only [if_neg (show ¬ (i : Int) < (l2.length : Int) by omega)]
    have e : (colK l2 k).drop i = [] := List.drop_eq_nil_of_le (by unfold colK; rw [List.length_map]; omega)
    rw [e] at hy hn
    unfold wholeK at hy hn
    by_cases c : x = 0
    · simp only [if_pos c]; exact hy (decide_eq_true c)
    · simp only [if_neg c]; rw [hn (decide_eq_false c)]; exact Ev.now _
  | succ d ih =>
    intro i x hi hy hn
    have hlt : i < l2.length := by omega
    have hkl : k < (l2.getD i []).length := by rw [getD5 l2 i hlt]; exact hk _ (List.getElem_mem hlt)
    refine Ev.step (fun q => by rw [order_whole.l1]) ?_
    rw [colK_drop l2 k i hlt, wholeK] at hy hn
    simp only [if_pos (show (i : Int) < (l2.length : Int) by omega), if_pos (show (0 : Int) ≤ (i : Int) by omega), if_pos (show (0 : Int) ≤ (k : Int) by omega), rd5, rdN, if_pos (show (k : Int) < ((l2.getD i []).length : Int) by omega), wrap_succ hlt h2]
    by_cases c : (l2.getD i []).getD k 0 > x
    · simp only [if_pos c]
      rw [if_pos c] at hn
      rw [hn rfl]; exact Ev.now _
    · simp only [if_neg c]
      rw [if_neg c] at hy hn
      exact ih (i + 1) _ (by omega) hy hn
theorem whole_loop (l2 : List (List Int)) (l : List S65) (h2 : l2.length ≤ 9223372036854775807) (hl : l.length ≤ 9223372036854775807) (hk : ∀ p ∈ l2, p.length = l.length) :
    ∀ d k : Nat, k + d = l.length → (∀ q, q < k → wholeK (l.getD q z65).f1 (colK l2 q) = true) → Ev (fun q => order_whole.l0 q l2 l (l.length : Int) k) (wholeB l l2) := by
  intro d
  induction d with
  | zero =>
    intro k hk' hq
    refine Ev.step (fun q => by rw [order_whole.l0]) ?_
    simp only [if_neg (show ¬ (k : Int) < (l.length : Int) by omega)]
    have e : wholeB l l2 = true := by unfold wholeB; rw [List.all_eq_true]; exact fun q h => hq q (by have := List.mem_range.mp h; omega)
    rw [e]; exact Ev.now _
  | succ d ih =>
    intro k hk' hq
    have hlt : k < l.length := by omega
    refine Ev.step (fun q => by rw [order_whole.l0]) ?_
    simp only [if_pos (show (k : Int) < (l.length : Int) by omega), if_pos (show (0 : Int) ≤ (k : Int) by omega), rd65]
    refine whole_inner l2 l (l.length : Int) k h2 (fun p hp => by rw [hk p hp]; exact hlt) (wholeB l l2) l2.length 0 _ (by omega) ?_ ?_
    · intro hy
      rw [List.drop_zero] at hy
      rw [wrap_succ hlt hl]
      refine ih (k + 1) (by omega) ?_
      intro q hqi
      by_cases e : q = k
      · subst e; exact hy
      · exact hq q (by omega)
    · intro hn
      rw [List.drop_zero] at hn
      exact wholeB_no hlt hn
theorem whole_ev (s0 s1 s2 s3 s4 s5 : ByteArray) (n6 : Int) (l2 : List (List Int)) (l : List S65) (h2 : l2.length ≤ 9223372036854775807) (hl : l.length ≤ 9223372036854775807) (hk : ∀ p ∈ l2, p.length = l.length) : Ev (fun k => order_whole.f k s0 s1 s2 s3 s4 s5 n6 l l2) (wholeB l l2) :=
  whole_loop l2 l h2 hl hk l.length 0 (by omega) (fun q h => by omega)

def askP (m : Bool) (l : List S65) (l1 : List Int) (l2 : List (List Int)) : Int :=
  if badShape m l1 l2 = true then 1 else if l1.any notDay = true then 1 else if l2.any (badPart l.length) = true then 1 else if sortedB l1 = true then (if l2.any noneIn = true then 4 else if wholeB l l2 = true then 0 else 3) else 6
theorem parts_len {l : List S65} {l2 : List (List Int)} (h : l2.any (badPart l.length) = false) : ∀ p ∈ l2, p.length = l.length := by
  intro p hp
  rw [List.any_eq_false] at h
  have := h p hp
  unfold badPart at this
  simp at this
  exact this.1
theorem ask_ev (s0 s1 s2 s3 s4 s5 : ByteArray) (n6 : Int) (l : List S65) (l1 : List Int) (l2 : List (List Int)) (hl : l.length ≤ 9223372036854775807) (h1 : l1.length ≤ 9223372036854775807) (h2 : l2.length ≤ 9223372036854775807) :
    Ev (fun k => order_ask.f k s0 s1 s2 s3 s4 s5 n6 l l1 l2) (askP (mayB s0 s1 s2 s3 s4 s5 n6 l) l l1 l2) := by
  unfold order_ask.f askP
  refine Ev.bind (may_ev s0 s1 s2 s3 s4 s5 n6 l) ?_
  by_cases c1 : badShape (mayB s0 s1 s2 s3 s4 s5 n6 l) l1 l2 = true
  · simp only [if_pos c1]; exact Ev.now _
  · simp only [if_neg c1]
    by_cases c2 : l1.any notDay = true
    · simp only [if_pos c2]; exact Ev.now _
    · simp only [if_neg c2]
      by_cases c3 : l2.any (badPart l.length) = true
      · simp only [if_pos c3]; exact Ev.now _
      · simp only [if_neg c3]
        refine Ev.bind (sorted_ev l1 h1) ?_
        by_cases c4 : sortedB l1 = true
        · simp only [if_pos c4]
          by_cases c5 : l2.any noneIn = true
          · simp only [if_pos c5]; exact Ev.now _
          · simp only [if_neg c5]
            refine Ev.bind (whole_ev s0 s1 s2 s3 s4 s5 n6 l2 l h2 hl (parts_len (Bool.not_eq_true _ ▸ c3))) ?_
            by_cases c6 : wholeB l l2 = true
            · simp only [if_pos c6]; exact Ev.now _
            · simp only [if_neg c6]; exact Ev.now _
        · simp only [if_neg c4]; exact Ev.now _
end Go.Proofs.Ytlhaaccdiienbaa.X
