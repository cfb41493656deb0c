/- Plain laws of this claim. -/
import Derived.Test.YtlhaaccdiienbaaX0
import Derived.Test.YtlhaaccdiienbaaX4
import Derived.Test.YtlhaaccdiienbaaX6
import Derived.Test.YtlhaaccdiienbaaX5
import Derived.Test.YtlhaaccdiienbaaECut
import Derived.Test.YtlhaaccdiienbaaEAwake
import Derived.Test.YtlhaaccdiienbaaELeft
import Derived.Test.YtlhaaccdiienbaaEJoin
import Derived.Test.YtlhaaccdiienbaaX20
namespace Go.Proofs.Ytlhaaccdiienbaa.X
open Go.RowKit Go.Proofs.YtlhaaccdiienbaaW.PrintWords Go.Proofs.YtlhaaccdiienbaaW.PrintLast Go.Proofs.YtlhaaccdiienbaaW.PrintMore

theorem wrap_id {x : Int} (h0 : -9223372036854775808 ≤ x) (h1 : x ≤ 9223372036854775807) : wrap64 x = x := by unfold wrap64; omega
theorem wrap_succ {i n : Nat} (h : i < n) (hn : n ≤ 9223372036854775807) : wrap64 ((i : Int) + 1) = ((i + 1 : Nat) : Int) := by unfold wrap64; omega
theorem rd65 (l : List S65) (i : Nat) : rd_T65 l (i : Int) = l.getD i z65 := by simp [rd_T65]
theorem getD65 (l : List S65) (i : Nat) (h : i < l.length) : l.getD i z65 = l[i] := by rw [List.getD_eq_getElem?_getD, List.getElem?_eq_getElem h, Option.getD_some]
end Go.Proofs.Ytlhaaccdiienbaa.X
namespace Go.Proofs.Ytlhaaccdiienbaa.X
open Go.RowKit Go.Proofs.YtlhaaccdiienbaaW.PrintWords Go.Proofs.YtlhaaccdiienbaaW.PrintLast Go.Proofs.YtlhaaccdiienbaaW.PrintMore

theorem money_may (s : ByteArray) : money_May.f s 0 = some (curB s) := by
  unfold money_May.f money_currency.f money_within.f
  cases curB s <;> simp

theorem toList_eq {a b : ByteArray} : a.toList = b.toList ↔ a = b := by
  constructor
  · intro h
    rw [ByteArray.toList_eq, ByteArray.toList_eq] at h
    cases a; cases b; exact congrArg _ (Array.toList_inj.mp h)
  · intro h; rw [h]
def restB (s1 s2 s3 : ByteArray) (n6 : Int) (l : List S65) : Bool := !(decide (s1.toList = s2.toList)) && (curB s3 && (decide (0 ≤ n6) && (decide (n6 ≤ 7) && linesB l)))
def mayB (s0 s1 s2 s3 s4 s5 : ByteArray) (n6 : Int) (l : List S65) : Bool := [s0, s1, s2, s4, s5].all nameB && restB s1 s2 s3 n6 l
theorem rdOf_nat (xs : List ByteArray) (i : Nat) (h : i < xs.length) : rdOf ByteArray.empty xs (i : Int) = xs[i] := by
  unfold rdOf
  rw [Int.toNat_natCast, List.getD_eq_getElem?_getD, List.getElem?_eq_getElem h, Option.getD_some]
theorem drop_all {α : Type} (p : α → Bool) (xs : List α) (i : Nat) (h : i < xs.length) : (xs.drop i).all p = (p xs[i] && (xs.drop (i + 1)).all p) := by
  rw [List.drop_eq_getElem_cons h, List.all_cons]
theorem may_loop (s0 s1 s2 s3 s4 s5 : ByteArray) (n6 : Int) (l : List S65) (xs : List ByteArray) (hx : xs.length ≤ 9223372036854775807) :
    ∀ d i : Nat, i + d = xs.length → Ev (fun k => order_May.l0 k xs (xs.length : Int) i s0 s1 s2 s3 s4 s5 n6 l) ((xs.drop i).all nameB && restB s1 s2 s3 n6 l) := by
  intro d
  induction d with
  | zero =>
    intro i hi
    refine Ev.step (fun k => by rw [order_May.l0]) ?_
    simp only [if_neg (show ¬ (i : Int) < (xs.length : Int) by omega)]
    rw [List.drop_eq_nil_of_le (by omega), List.all_nil, Bool.true_and]
    unfold restB
    by_cases c1 : s1.toList = s2.toList
    · simp only [if_pos c1, decide_eq_true c1, Bool.not_true, Bool.false_and]; exact Ev.now _
    · simp only [if_neg c1, decide_eq_false c1, Bool.not_false, Bool.true_and, money_may, Option.bind_some]
      cases curB s3 with
      | false => simp only [Bool.false_eq_true, if_false, Bool.false_and]; exact Ev.now _
      | true =>
        simp only [if_true, Bool.true_and]
        by_cases c2 : n6 ≥ 0
        · simp only [if_pos c2, decide_eq_true (show 0 ≤ n6 by omega), Bool.true_and]
          by_cases c3 : n6 ≤ 7
          · simp only [if_pos c3, decide_eq_true c3, Bool.true_and, order_lines.f, Option.bind_some]; exact Ev.now _
          · simp only [if_neg c3, decide_eq_false c3, Bool.false_and]; exact Ev.now _
        · simp only [if_neg c2, decide_eq_false (show ¬ 0 ≤ n6 by omega), Bool.false_and]; exact Ev.now _
  | succ d ih =>
    intro i hi
    have hlt : i < xs.length := by omega
    refine Ev.step (fun k => by rw [order_May.l0]) ?_
    simp only [if_pos (show (i : Int) < (xs.length : Int) by omega), if_pos (show (0 : Int) ≤ (i : Int) by omega), rdOf_nat xs i hlt, wrap_succ hlt hx, mark_Name.f, Option.bind_some]
    rw [drop_all nameB xs i hlt]
    cases nameB xs[i] with
    | false => simp only [Bool.false_eq_true, if_false, Bool.false_and]; exact Ev.now _
    | true => simp only [if_true, Bool.true_and]; exact ih (i + 1) (by omega)
theorem may_ev (s0 s1 s2 s3 s4 s5 : ByteArray) (n6 : Int) (l : List S65) : Ev (fun k => order_May.f k s0 s1 s2 s3 s4 s5 n6 l) (mayB s0 s1 s2 s3 s4 s5 n6 l) := by
  unfold order_May.f
  simp only [Option.bind_some]
  have := may_loop s0 s1 s2 s3 s4 s5 n6 l [s0, s1, s2, s4, s5] (by simp) 5 0 (by simp)
  rw [List.drop_zero] at this
  exact this

end Go.Proofs.Ytlhaaccdiienbaa.X
namespace Go.Proofs.Ytlhaaccdiienbaa.X
open Go.RowKit Go.Proofs.YtlhaaccdiienbaaW.PrintWords Go.Proofs.YtlhaaccdiienbaaW.PrintLast Go.Proofs.YtlhaaccdiienbaaW.PrintMore

theorem rdN (l : List Int) (i : Nat) : rd l (i : Int) = l.getD i 0 := by simp [rd]
theorem rd5 (l : List (List Int)) (i : Nat) : rd_L5 l (i : Int) = l.getD i [] := by simp [rd_L5]
theorem getD5 (l : List (List Int)) (i : Nat) (h : i < l.length) : l.getD i [] = l[i] := by rw [List.getD_eq_getElem?_getD, List.getElem?_eq_getElem h, Option.getD_some]
theorem getDI (l : List Int) (i : Nat) (h : i < l.length) : l.getD i 0 = l[i] := by rw [List.getD_eq_getElem?_getD, List.getElem?_eq_getElem h, Option.getD_some]

def sortedB (l : List Int) : Bool := (List.range l.length).all (fun i => !decide (l.getD i 0 < l.getD (i - 1) 0))
theorem less_eq (a b : Int) : cmp_Less_int.f a b = some (decide (a < b)) := by simp [cmp_Less_int.f, cmp_isNaN_int.f]
theorem sortedB_no {l : List Int} {i : Nat} (hi : i < l.length) (h : l.getD i 0 < l.getD (i - 1) 0) : sortedB l = false := by
  unfold sortedB
  rw [List.all_eq_false]; exact ⟨i, List.mem_range.mpr hi, by simp only [decide_eq_true h]; decide⟩
theorem sortedB_yes {l : List Int} (h : ∀ q, 1 ≤ q → q < l.length → ¬ l.getD q 0 < l.getD (q - 1) 0) : sortedB l = true := by
  unfold sortedB
  rw [List.all_eq_true]
  intro q hq
  have hq' := List.mem_range.mp hq
  by_cases h0 : q = 0
  · subst h0; simp
  · rw [decide_eq_false (h q (by omega) hq')]; rfl
theorem sorted_loop (l : List Int) (hl : l.length ≤ 9223372036854775807) : ∀ i : Nat, i < l.length → (∀ q, i < q → q < l.length → ¬ l.getD q 0 < l.getD (q - 1) 0) → Ev (fun k => slices_IsSorted_int_int.l0 k l i) (sortedB l) := by
  intro i
  induction i with
  | zero =>
    intro hi hq
    refine Ev.step (fun k => by rw [slices_IsSorted_int_int.l0]) ?_
    simp only [if_neg (show ¬ ((0 : Nat) : Int) > 0 by omega)]
    rw [sortedB_yes (fun q h1 h2 => hq q (by omega) h2)]
    exact Ev.now _
  | succ i ih =>
    intro hi hq
    refine Ev.step (fun k => by rw [slices_IsSorted_int_int.l0]) ?_
    have e : wrap64 (((i + 1 : Nat) : Int) - 1) = (i : Int) := by unfold wrap64; omega
    simp only [if_pos (show ((i + 1 : Nat) : Int) > 0 by omega), if_pos (show (0 : Int) ≤ ((i + 1 : Nat) : Int) by omega), if_pos (show ((i + 1 : Nat) : Int) < (l.length : Int) by omega), e, if_pos (show (0 : Int) ≤ (i : Int) by omega), if_pos (show (i : Int) < (l.length : Int) by omega), less_eq, Option.bind_some, rdN]
    by_cases c : l.getD (i + 1) 0 < l.getD i 0
    · simp only [decide_eq_true c, if_true]
      rw [sortedB_no hi (by simpa using c)]
      exact Ev.now _
    · simp only [decide_eq_false c, Bool.false_eq_true, if_false]
      refine ih (by omega) ?_
      intro q h1 h2
      by_cases e : q = i + 1
      · subst e; simpa using c
      · exact hq q (by omega) h2
theorem sorted_ev (l : List Int) (hl : l.length ≤ 9223372036854775807) : Ev (fun k => slices_IsSorted_int_int.f k l) (sortedB l) := by
  unfold slices_IsSorted_int_int.f
  by_cases h : l.length = 0
  · have e : l = [] := List.length_eq_zero_iff.mp h
    subst e
    refine Ev.step (fun k => by rw [slices_IsSorted_int_int.l0]) ?_
    simp only [List.length_nil, show ¬ (wrap64 (((0 : Nat) : Int) - 1)) > 0 by unfold wrap64; omega, if_false]
    exact Ev.now _
  · obtain ⟨n, hn⟩ : ∃ n, l.length = n + 1 := ⟨l.length - 1, by omega⟩
    rw [show wrap64 ((l.length : Int) - 1) = (n : Int) by unfold wrap64; omega]
    exact sorted_loop l hl n (by omega) (fun q h1 h2 => by omega)

def wholeK : Int → List Int → Bool
  | x, [] => decide (x = 0)
  | x, p :: r => if p > x then false else wholeK (wrap64 (x - p)) r
def colK (l2 : List (List Int)) (k : Nat) : List Int := l2.map (fun p => p.getD k 0)
def wholeB (l : List S65) (l2 : List (List Int)) : Bool := (List.range l.length).all (fun k => wholeK (l.getD k z65).f1 (colK l2 k))
theorem wholeB_no {l : List S65} {l2 : List (List Int)} {k : Nat} (hk : k < l.length) (h : wholeK (l.getD k z65).f1 (colK l2 k) = false) : wholeB l l2 = false := by
  unfold wholeB
  rw [List.all_eq_false]; exact ⟨k, List.mem_range.mpr hk, by rw [h]; decide⟩
theorem colK_drop (l2 : List (List Int)) (k i : Nat) (h : i < l2.length) : (colK l2 k).drop i = (l2.getD i []).getD k 0 :: (colK l2 k).drop (i + 1) := by
  unfold colK
  rw [List.drop_eq_getElem_cons (by rw [List.length_map]; exact h), List.getElem_map, getD5 l2 i h]
theorem whole_inner (l2 : List (List Int)) (l : List S65) (n : Int) (k : Nat) (h2 : l2.length ≤ 9223372036854775807) (hk : ∀ p ∈ l2, k < p.length) (R : Bool) :
    ∀ (d i : Nat) (x : Int), i + d = l2.length → (wholeK x ((colK l2 k).drop i) = true → Ev (fun q => order_whole.l0 q l2 l n (wrap64 ((k : Int) + 1))) R) → (wholeK x ((colK l2 k).drop i) = false → R = false) → Ev (fun q => order_whole.l1 q l2 k x l n k l2 (l2.length : Int) i) R := by
  intro d
  induction d with
  | zero =>
    intro i x hi hy hn
    refine Ev.step (fun q => by rw [order_whole.l1]) ?_
    simp only [if_neg (show ¬ (i : Int) < (l2.length : Int) by omega)]
    have e : (colK l2 k).drop i = [] := List.drop_eq_nil_of_le (by unfold colK; rw [List.length_map]; omega)
    rw [e] at hy hn
    unfold wholeK at hy hn
    by_cases c : x = 0
    · simp only [if_pos c]; exact hy (decide_eq_true c)
    · simp only [if_neg c]; rw [hn (decide_eq_false c)]; exact Ev.now _
  | succ d ih =>
    intro i x hi hy hn
    have hlt : i < l2.length := by omega
    have hkl : k < (l2.getD i []).length := by rw [getD5 l2 i hlt]; exact hk _ (List.getElem_mem hlt)
    refine Ev.step (fun q => by rw [order_whole.l1]) ?_
    rw [colK_drop l2 k i hlt, wholeK] at hy hn
    simp only [if_pos (show (i : Int) < (l2.length : Int) by omega), if_pos (show (0 : Int) ≤ (i : Int) by omega), if_pos (show (0 : Int) ≤ (k : Int) by omega), rd5, rdN, if_pos (show (k : Int) < ((l2.getD i []).length : Int) by omega), wrap_succ hlt h2]
    by_cases c : (l2.getD i []).getD k 0 > x
    · simp only [if_pos c]
      rw [if_pos c] at hn
      rw [hn rfl]; exact Ev.now _
    · simp only [if_neg c]
      rw [if_neg c] at hy hn
      exact ih (i + 1) _ (by omega) hy hn
theorem whole_loop (l2 : List (List Int)) (l : List S65) (h2 : l2.length ≤ 9223372036854775807) (hl : l.length ≤ 9223372036854775807) (hk : ∀ p ∈ l2, p.length = l.length) :
    ∀ d k : Nat, k + d = l.length → (∀ q, q < k → wholeK (l.getD q z65).f1 (colK l2 q) = true) → Ev (fun q => order_whole.l0 q l2 l (l.length : Int) k) (wholeB l l2) := by
  intro d
  induction d with
  | zero =>
    intro k hk' hq
    refine Ev.step (fun q => by rw [order_whole.l0]) ?_
    simp only [if_neg (show ¬ (k : Int) < (l.length : Int) by omega)]
    have e : wholeB l l2 = true := by unfold wholeB; rw [List.all_eq_true]; exact fun q h => hq q (by have := List.mem_range.mp h; omega)
    rw [e]; exact Ev.now _
  | succ d ih =>
    intro k hk' hq
    have hlt : k < l.length := by omega
    refine Ev.step (fun q => by rw [order_whole.l0]) ?_
    simp only [if_pos (show (k : Int) < (l.length : Int) by omega), if_pos (show (0 : Int) ≤ (k : Int) by omega), rd65]
    refine whole_inner l2 l (l.length : Int) k h2 (fun p hp => by rw [hk p hp]; exact hlt) (wholeB l l2) l2.length 0 _ (by omega) ?_ ?_
    · intro hy
      rw [List.drop_zero] at hy
      rw [wrap_succ hlt hl]
      refine ih (k + 1) (by omega) ?_
      intro q hqi
      by_cases e : q = k
      · subst e; exact hy
      · exact hq q (by omega)
    · intro hn
      rw [List.drop_zero] at hn
      exact wholeB_no hlt hn
theorem whole_ev (s0 s1 s2 s3 s4 s5 : ByteArray) (n6 : Int) (l2 : List (List Int)) (l : List S65) (h2 : l2.length ≤ 9223372036854775807) (hl : l.length ≤ 9223372036854775807) (hk : ∀ p ∈ l2, p.length = l.length) : Ev (fun k => order_whole.f k s0 s1 s2 s3 s4 s5 n6 l l2) (wholeB l l2) :=
  whole_loop l2 l h2 hl hk l.length 0 (by omega) (fun q h => by omega)

def askP (m : Bool) (l : List S65) (l1 : List Int) (l2 : List (List Int)) : Int :=
  if badShape m l1 l2 = true then 1 else if l1.any notDay = true then 1 else if l2.any (badPart l.length) = true then 1 else if sortedB l1 = true then (if l2.any noneIn = true then 4 else if wholeB l l2 = true then 0 else 3) else 6
theorem parts_len {l : List S65} {l2 : List (List Int)} (h : l2.any (badPart l.length) = false) : ∀ p ∈ l2, p.length = l.length := by
  intro p hp
  rw [List.any_eq_false] at h
  have := h p hp
  unfold badPart at this
  simp at this
  exact this.1
theorem ask_ev (s0 s1 s2 s3 s4 s5 : ByteArray) (n6 : Int) (l : List S65) (l1 : List Int) (l2 : List (List Int)) (hl : l.length ≤ 9223372036854775807) (h1 : l1.length ≤ 9223372036854775807) (h2 : l2.length ≤ 9223372036854775807) :
    Ev (fun k => order_ask.f k s0 s1 s2 s3 s4 s5 n6 l l1 l2) (askP (mayB s0 s1 s2 s3 s4 s5 n6 l) l l1 l2) := by
  unfold order_ask.f askP
  refine Ev.bind (may_ev s0 s1 s2 s3 s4 s5 n6 l) ?_
  by_cases c1 : badShape (mayB s0 s1 s2 s3 s4 s5 n6 l) l1 l2 = true
  · simp only [if_pos c1]; exact Ev.now _
  · simp only [if_neg c1]
    by_cases c2 : l1.any notDay = true
    · simp only [if_pos c2]; exact Ev.now _
    · simp only [if_neg c2]
      by_cases c3 : l2.any (badPart l.length) = true
      · simp only [if_pos c3]; exact Ev.now _
      · simp only [if_neg c3]
        refine Ev.bind (sorted_ev l1 h1) ?_
        by_cases c4 : sortedB l1 = true
        · simp only [if_pos c4]
          by_cases c5 : l2.any noneIn = true
          · simp only [if_pos c5]; exact Ev.now _
          · simp only [if_neg c5]
            refine Ev.bind (whole_ev s0 s1 s2 s3 s4 s5 n6 l2 l h2 hl (parts_len (Bool.not_eq_true _ ▸ c3))) ?_
            by_cases c6 : wholeB l l2 = true
            · simp only [if_pos c6]; exact Ev.now _
            · simp only [if_neg c6]; exact Ev.now _
        · simp only [if_neg c4]; exact Ev.now _
end Go.Proofs.Ytlhaaccdiienbaa.X
namespace Go.Proofs.Ytlhaaccdiienbaa.X
open Go.RowKit Go.Proofs.YtlhaaccdiienbaaW.PrintWords Go.Proofs.YtlhaaccdiienbaaW.PrintLast Go.Proofs.YtlhaaccdiienbaaW.PrintMore

theorem foldl_mn (l : List Int) : ∀ a : Int, l.foldl mn a < 0 ↔ a < 0 ∨ ∃ x ∈ l, x < 0 := by
  induction l with
  | nil => intro a; simp
  | cons y r ih =>
    intro a
    rw [List.foldl_cons, ih]
    have : mn a y < 0 ↔ a < 0 ∨ y < 0 := by unfold mn; split <;> omega
    rw [this]
    simp [or_assoc]
theorem foldl_mx (l : List Int) : ∀ a : Int, 0 < l.foldl mx a ↔ 0 < a ∨ ∃ x ∈ l, 0 < x := by
  induction l with
  | nil => intro a; simp
  | cons y r ih =>
    intro a
    rw [List.foldl_cons, ih]
    have : 0 < mx a y ↔ 0 < a ∨ 0 < y := by unfold mx; split <;> omega
    rw [this]
    simp [or_assoc]
theorem foldl_mx_ge (l : List Int) : ∀ a : Int, a ≤ l.foldl mx a := by
  induction l with
  | nil => intro a; simp
  | cons y r ih =>
    intro a
    rw [List.foldl_cons]
    have := ih (mx a y)
    have h : a ≤ mx a y := by unfold mx; split <;> omega
    omega
theorem minF_neg (l : List Int) (h : 0 < l.length) : minF l < 0 ↔ ∃ i, i < l.length ∧ l.getD i 0 < 0 := by
  unfold minF
  rw [foldl_mn]
  constructor
  · rintro (h1 | ⟨x, hx, hn⟩)
    · refine ⟨0, h, ?_⟩
      cases l with
      | nil => simp at h
      | cons y r => simpa using h1
    · obtain ⟨i, hi, rfl⟩ := List.getElem_of_mem hx
      exact ⟨i, hi, by rw [getDI l i hi]; exact hn⟩
  · rintro ⟨i, hi, hn⟩
    rw [getDI l i hi] at hn
    exact .inr ⟨_, List.getElem_mem hi, hn⟩
theorem noneIn_iff (l : List Int) (h : 0 < l.length) (hn : ¬ minF l < 0) : noneIn l = true ↔ ¬ ∃ i, i < l.length ∧ l.getD i 0 > 0 := by
  unfold noneIn maxF
  have h0 : 0 ≤ l.foldl mx (l.headD 0) := by
    have := foldl_mx_ge l (l.headD 0)
    have h1 : 0 ≤ l.headD 0 := by
      rw [minF_neg l h] at hn
      cases l with
      | nil => simp at h
      | cons y r =>
        by_cases c : y < 0
        · exact absurd ⟨0, by simp, by simpa using c⟩ hn
        · simp; omega
    omega
  have h1 := foldl_mx l (l.headD 0)
  have h2 : (0 < l.headD 0 ∨ ∃ x ∈ l, 0 < x) ↔ ∃ i, i < l.length ∧ l.getD i 0 > 0 := by
    constructor
    · rintro (q | ⟨x, hx, q⟩)
      · refine ⟨0, h, ?_⟩
        cases l with
        | nil => simp at h
        | cons y r => simpa using q
      · obtain ⟨i, hi, rfl⟩ := List.getElem_of_mem hx
        exact ⟨i, hi, by rw [getDI l i hi]; exact q⟩
    · rintro ⟨i, hi, q⟩
      rw [getDI l i hi] at q
      exact .inr ⟨_, List.getElem_mem hi, q⟩
  rw [← h2, ← h1, beq_iff_eq]
  omega

section
variable (s0 s1 s2 s3 s4 s5 : ByteArray) (n6 : Int) (l : List S65) (l1 : List Int) (l2 : List (List Int))
theorem mayB_pos {s0 s1 s2 s3 s4 s5 : ByteArray} {n6 : Int} {l : List S65} (h : mayB s0 s1 s2 s3 s4 s5 n6 l = true) : 1 ≤ l.length ∧ l.length ≤ 64 := by
  unfold mayB restB linesB at h
  simp only [Bool.and_eq_true, decide_eq_true_eq] at h
  exact h.2.2.2.2.2.2
end
end Go.Proofs.Ytlhaaccdiienbaa.X
namespace Go.Proofs.Ytlhaaccdiienbaa.X
open Go.RowKit Go.Proofs.YtlhaaccdiienbaaW.PrintWords Go.Proofs.YtlhaaccdiienbaaW.PrintLast Go.Proofs.YtlhaaccdiienbaaW.PrintMore

theorem awake_ev : Ev (fun k => supercargolaw19_awake.f k) true :=
  ⟨30, fun k hk => by
    obtain ⟨d, rfl⟩ : ∃ d, k = 30 + d := ⟨k - 30, by omega⟩
    induction d with
    | zero => kernel_rfl
    | succ d ih => exact supercargolaw19_awake.mono _ _ (ih (by omega))⟩
theorem rd67n (l : List S67) (i : Nat) : rd_T67 l (i : Int) = l.getD i z67 := by simp [rd_T67]
theorem rd42n (l : List S42) (i : Nat) : rd_T42 l (i : Int) = l.getD i z42 := by simp [rd_T42]

theorem few11_loop (l : List S67) : ∀ d i : Nat, i + d = l.length → i ≤ 41 → ∃ b, Ev (fun k => sr11_Few.l0 k l i) b ∧ (b = true → l.length ≤ 41 ∧ ∀ q, i ≤ q → q < l.length → (l.getD q z67).f0.size ≤ 60 ∧ (l.getD q z67).f1 ≤ 1099511627776) := by
  intro d
  induction d with
  | zero =>
    intro i hi hi2
    refine ⟨true, Ev.step (fun k => by rw [sr11_Few.l0]) ?_, fun _ => ⟨by omega, fun q h1 h2 => by omega⟩⟩
    simp only [if_neg (show ¬ (i : Int) < (l.length : Int) by omega)]
    exact Ev.now _
  | succ d ih =>
    intro i hi hi2
    have hlt : (i : Int) < (l.length : Int) := by omega
    by_cases c0 : (i : Int) > 40
    · refine ⟨false, Ev.step (fun k => by rw [sr11_Few.l0]) ?_, fun h => by cases h⟩
      simp only [if_pos hlt, if_pos c0]
      exact Ev.now _
    · by_cases c1 : ((l.getD i z67).f0.size : Int) > 60
      · refine ⟨false, Ev.step (fun k => by rw [sr11_Few.l0]) ?_, fun h => by cases h⟩
        simp only [if_pos hlt, if_neg c0, if_pos (show (0 : Int) ≤ (i : Int) by omega), rd67n, if_pos c1]
        exact Ev.now _
      · by_cases c2 : (l.getD i z67).f1 > 1099511627776
        · refine ⟨false, Ev.step (fun k => by rw [sr11_Few.l0]) ?_, fun h => by cases h⟩
          simp only [if_pos hlt, if_neg c0, if_pos (show (0 : Int) ≤ (i : Int) by omega), rd67n, if_neg c1, if_pos c2]
          exact Ev.now _
        · obtain ⟨b, hb, hB⟩ := ih (i + 1) (by omega) (by omega)
          refine ⟨b, Ev.step (fun k => by rw [sr11_Few.l0]) ?_, fun h => ⟨(hB h).1, fun q h1 h2 => ?_⟩⟩
          · simp only [if_pos hlt, if_neg c0, if_pos (show (0 : Int) ≤ (i : Int) by omega), rd67n, if_neg c1, if_neg c2, show wrap64 ((i : Int) + 1) = ((i + 1 : Nat) : Int) by unfold wrap64; omega]
            exact hb
          · by_cases e : q = i
            · subst e; exact ⟨by omega, by omega⟩
            · exact (hB h).2 q (by omega) h2
def lotsOk (l : List S67) : Prop := l.length ≤ 41 ∧ ∀ q, q < l.length → (l.getD q z67).f0.size ≤ 60 ∧ (l.getD q z67).f1 ≤ 1099511627776
theorem few11_ev (l : List S67) : ∃ b, Ev (fun k => sr11_Few.f k l) b ∧ (b = true → lotsOk l) := by
  obtain ⟨b, h1, h2⟩ := few11_loop l l.length 0 (by omega) (by omega)
  exact ⟨b, h1, fun h => ⟨(h2 h).1, fun q hq => (h2 h).2 q (by omega) hq⟩⟩
theorem few_l1 (cs : List S42) : ∀ d i : Nat, i + d = cs.length → i ≤ 21 → ∃ b, Ev (fun k => sr19_Few.l1 k cs i) b ∧ (b = true → cs.length ≤ 21 ∧ ∀ q, i ≤ q → q < cs.length → (cs.getD q z42).f0.size ≤ 60 ∧ lotsOk (cs.getD q z42).f3) := by
  intro d
  induction d with
  | zero =>
    intro i hi hi2
    refine ⟨true, Ev.step (fun k => by rw [sr19_Few.l1]) ?_, fun _ => ⟨by omega, fun q h1 h2 => by omega⟩⟩
    simp only [if_neg (show ¬ (i : Int) < (cs.length : Int) by omega)]
    exact Ev.now _
  | succ d ih =>
    intro i hi hi2
    have hlt : (i : Int) < (cs.length : Int) := by omega
    by_cases c0 : (i : Int) > 20
    · refine ⟨false, Ev.step (fun k => by rw [sr19_Few.l1]) ?_, fun h => by cases h⟩
      simp only [if_pos hlt, if_pos c0]
      exact Ev.now _
    · by_cases c1 : ((cs.getD i z42).f0.size : Int) > 60
      · refine ⟨false, Ev.step (fun k => by rw [sr19_Few.l1]) ?_, fun h => by cases h⟩
        simp only [if_pos hlt, if_neg c0, if_pos (show (0 : Int) ≤ (i : Int) by omega), rd42n, if_pos c1]
        exact Ev.now _
      · obtain ⟨b, hb, hB⟩ := few11_ev (cs.getD i z42).f3
        cases b with
        | false =>
          refine ⟨false, Ev.step (fun k => by rw [sr19_Few.l1]) ?_, fun h => by cases h⟩
          simp only [if_pos hlt, if_neg c0, if_pos (show (0 : Int) ≤ (i : Int) by omega), rd42n, if_neg c1]
          refine Ev.bind hb ?_
          simp only [Bool.false_eq_true, if_false]; exact Ev.now _
        | true =>
          obtain ⟨b', hb', hB'⟩ := ih (i + 1) (by omega) (by omega)
          refine ⟨b', Ev.step (fun k => by rw [sr19_Few.l1]) ?_, fun h => ⟨(hB' h).1, fun q h1 h2 => ?_⟩⟩
          · simp only [if_pos hlt, if_neg c0, if_pos (show (0 : Int) ≤ (i : Int) by omega), rd42n, if_neg c1, show wrap64 ((i : Int) + 1) = ((i + 1 : Nat) : Int) by unfold wrap64; omega]
            refine Ev.bind hb ?_
            simp only [if_true]; exact hb'
          · by_cases e : q = i
            · subst e; exact ⟨by omega, hB rfl⟩
            · exact (hB' h).2 q (by omega) h2
def fewP (l : List S65) (cs : List S42) : Prop := l.length ≤ 70 ∧ (∀ q, q < l.length → (l.getD q z65).f0.size ≤ 60) ∧ cs.length ≤ 21 ∧ ∀ q, q < cs.length → (cs.getD q z42).f0.size ≤ 60 ∧ lotsOk (cs.getD q z42).f3
theorem few_l0 (s0 s1 s2 s3 s4 s5 : ByteArray) (n6 : Int) (l : List S65) (cs : List S42) (hl : l.length ≤ 70) : ∀ d i : Nat, i + d = l.length → (∀ q, q < i → (l.getD q z65).f0.size ≤ 60) → ∃ b, Ev (fun k => sr19_Few.l0 k cs i s0 s1 s2 s3 s4 s5 n6 l) b ∧ (b = true → fewP l cs) := by
  intro d
  induction d with
  | zero =>
    intro i hi hq
    obtain ⟨b, hb, hB⟩ := few_l1 cs cs.length 0 (by omega) (by omega)
    refine ⟨b, Ev.step (fun k => by rw [sr19_Few.l0]) ?_, fun h => ⟨hl, fun q hq' => hq q (by omega), (hB h).1, fun q hq' => (hB h).2 q (by omega) hq'⟩⟩
    simp only [if_neg (show ¬ (i : Int) < (l.length : Int) by omega)]
    exact hb
  | succ d ih =>
    intro i hi hq
    have hlt : (i : Int) < (l.length : Int) := by omega
    by_cases c1 : ((l.getD i z65).f0.size : Int) > 60
    · refine ⟨false, Ev.step (fun k => by rw [sr19_Few.l0]) ?_, fun h => by cases h⟩
      simp only [if_pos hlt, if_pos (show (0 : Int) ≤ (i : Int) by omega), rd65, if_pos c1]
      exact Ev.now _
    · obtain ⟨b, hb, hB⟩ := ih (i + 1) (by omega) (fun q h => by
        by_cases e : q = i
        · subst e; omega
        · exact hq q (by omega))
      refine ⟨b, Ev.step (fun k => by rw [sr19_Few.l0]) ?_, hB⟩
      simp only [if_pos hlt, if_pos (show (0 : Int) ≤ (i : Int) by omega), rd65, if_neg c1, show wrap64 ((i : Int) + 1) = ((i + 1 : Nat) : Int) by unfold wrap64; omega]
      exact hb
theorem few_ev (s0 s1 s2 s3 s4 s5 : ByteArray) (n6 : Int) (l : List S65) (cs : List S42) : ∃ b, Ev (fun k => sr19_Few.f k s0 s1 s2 s3 s4 s5 n6 l cs) b ∧ (b = true → fewP l cs) := by
  unfold sr19_Few.f
  have J : Ev (fun k => sr19_Few.j0 k cs true s0 s1 s2 s3 s4 s5 n6 l) false := by
    refine Ev.step (fun k => by rw [sr19_Few.j0]) ?_
    simp only [if_true]; exact Ev.now _
  by_cases c : (wrap64 ((wrap64 ((wrap64 ((wrap64 ((wrap64 ((s0.size : Int) + (s1.size : Int))) + (s2.size : Int))) + (s3.size : Int))) + (s4.size : Int))) + (s5.size : Int))) > 300
  · simp only [if_pos c]
    exact ⟨false, J, fun h => by cases h⟩
  · simp only [if_neg c]
    by_cases c2 : (l.length : Int) > 70
    · simp only [decide_eq_true c2]
      exact ⟨false, J, fun h => by cases h⟩
    · simp only [decide_eq_false c2]
      obtain ⟨b, hb, hB⟩ := few_l0 s0 s1 s2 s3 s4 s5 n6 l cs (by omega) l.length 0 (by omega) (fun q h => by omega)
      refine ⟨b, Ev.step (fun k => by rw [sr19_Few.j0]) ?_, hB⟩
      simp only [Bool.false_eq_true, if_false]
      exact hb

end Go.Proofs.Ytlhaaccdiienbaa.X
namespace Go.Proofs.Ytlhaaccdiienbaa.X
open Go.RowKit Go.Proofs.YtlhaaccdiienbaaW.PrintWords Go.Proofs.YtlhaaccdiienbaaW.PrintLast Go.Proofs.YtlhaaccdiienbaaW.PrintMore

def lotsTo (l : List S65) (p : List Int) : Nat → List S67
  | 0 => []
  | n + 1 => lotsTo l p n ++ (if p.getD n 0 > 0 then [⟨(l.getD n z65).f0, p.getD n 0⟩] else [])
def cutTo (s0 : ByteArray) (l : List S65) (l1 : List Int) (l2 : List (List Int)) : Nat → List S42
  | 0 => []
  | n + 1 => cutTo s0 l l1 l2 n ++ [⟨s0, ((n + 1 : Nat) : Int), l1.getD n 0, lotsTo l (l2.getD n []) (l2.getD n []).length⟩]
theorem cutTo_succ (s0 : ByteArray) (l : List S65) (l1 : List Int) (l2 : List (List Int)) (n : Nat) : cutTo s0 l l1 l2 (n + 1) = cutTo s0 l l1 l2 n ++ [⟨s0, ((n + 1 : Nat) : Int), l1.getD n 0, lotsTo l (l2.getD n []) (l2.getD n []).length⟩] := rfl
theorem lotsTo_len (l : List S65) (p : List Int) : ∀ n, (lotsTo l p n).length ≤ n
  | 0 => Nat.le_refl _
  | n + 1 => by
    have := lotsTo_len l p n
    unfold lotsTo
    rw [List.length_append]
    split <;> simp <;> omega
theorem cutTo_len (s0 : ByteArray) (l : List S65) (l1 : List Int) (l2 : List (List Int)) : ∀ n, (cutTo s0 l l1 l2 n).length = n
  | 0 => rfl
  | n + 1 => by unfold cutTo; rw [List.length_append, cutTo_len s0 l l1 l2 n]; rfl
section
variable (s0 s1 s2 s3 s4 s5 : ByteArray) (n6 : Int) (l : List S65) (l1 : List Int) (l2 : List (List Int))
theorem cut_l1 (hl : l.length ≤ 64) (acc : List S42) (hacc : acc.length ≤ 64) (i : Nat) (p : List Int) (hp : p.length = l.length) (x d : Int) (R : (List S42) × Int)
    (hy : Ev (fun k => order_Cut.l0 k (acc ++ [⟨s0, x, d, lotsTo l p p.length⟩]) l2 (l2.length : Int) (wrap64 ((i : Int) + 1)) s0 s1 s2 s3 s4 s5 n6 l l1) R) :
    ∀ e j : Nat, j + e = p.length → Ev (fun k => order_Cut.l1 k acc l2 (l2.length : Int) i p (p.length : Int) j s0 s1 s2 s3 s4 s5 n6 l l1 s0 x d (lotsTo l p j)) R := by
  intro e
  induction e with
  | zero =>
    intro j hj
    obtain rfl : j = p.length := by omega
    refine Ev.step (fun k => by rw [order_Cut.l1]) ?_
    simp only [if_neg (show ¬ (p.length : Int) < (p.length : Int) by omega), if_pos (show acc.length < 2513169434916 by omega)]
    exact hy
  | succ e ih =>
    intro j hj
    have hlen := lotsTo_len l p j
    have hs := ih (j + 1) (by omega)
    unfold lotsTo at hs
    refine Ev.step (fun k => by rw [order_Cut.l1]) ?_
    simp only [if_pos (show (j : Int) < (p.length : Int) by omega), if_pos (show (0 : Int) ≤ (j : Int) by omega), rdN, rd65, if_pos (show (j : Int) < (l.length : Int) by omega), if_pos (show (lotsTo l p j).length < 5864062014805 by omega), wrap_succ (show j < p.length by omega) (by omega)]
    by_cases c : p.getD j 0 > 0
    · simp only [if_pos c] at hs ⊢; exact hs
    · simp only [if_neg c, List.append_nil] at hs ⊢; exact hs
theorem cut_l0 (hl : l.length ≤ 64) (h2 : l2.length ≤ 64) (h12 : l2.length = l1.length) (hp : ∀ p ∈ l2, p.length = l.length) :
    ∀ e i : Nat, i + e = l2.length → Ev (fun k => order_Cut.l0 k (cutTo s0 l l1 l2 i) l2 (l2.length : Int) i s0 s1 s2 s3 s4 s5 n6 l l1) (cutTo s0 l l1 l2 l2.length, 0) := by
  intro e
  induction e with
  | zero =>
    intro i hi
    obtain rfl : i = l2.length := by omega
    refine Ev.step (fun k => by rw [order_Cut.l0]) ?_
    simp only [if_neg (show ¬ (l2.length : Int) < (l2.length : Int) by omega)]
    exact Ev.now _
  | succ e ih =>
    intro i hi
    have hlt : i < l2.length := by omega
    refine Ev.step (fun k => by rw [order_Cut.l0]) ?_
    simp only [if_pos (show (i : Int) < (l2.length : Int) by omega), if_pos (show (0 : Int) ≤ (i : Int) by omega), if_pos (show (i : Int) < (l1.length : Int) by omega), rd5, rdN, wrap_succ hlt (by omega)]
    refine cut_l1 s0 s1 s2 s3 s4 s5 n6 l l1 l2 hl _ (by rw [cutTo_len]; omega) i (l2.getD i []) (by rw [getD5 l2 i hlt]; exact hp _ (List.getElem_mem hlt)) _ _ _ ?_ (l2.getD i []).length 0 (by omega)
    have := ih (i + 1) (by omega)
    rw [cutTo_succ] at this
    rw [wrap_succ hlt (by omega)]
    exact this
def cutP (s0 : ByteArray) (m : Bool) (l : List S65) (l1 : List Int) (l2 : List (List Int)) : (List S42) × Int :=
  if askP m l l1 l2 = 0 then (cutTo s0 l l1 l2 l2.length, 0) else ([], askP m l l1 l2)
theorem ask_zero {m : Bool} {l : List S65} {l1 : List Int} {l2 : List (List Int)} (h : askP m l l1 l2 = 0) : m = true ∧ l2.length = l1.length ∧ 1 ≤ l2.length ∧ l2.length ≤ 64 ∧ l1.any notDay = false ∧ (∀ p ∈ l2, p.length = l.length) ∧ sortedB l1 = true ∧ l2.any noneIn = false ∧ wholeB l l2 = true ∧ l2.any (badPart l.length) = false := by
  unfold askP at h
  by_cases c1 : badShape m l1 l2 = true
  · rw [if_pos c1] at h; cases h
  · rw [if_neg c1] at h
    by_cases c2 : l1.any notDay = true
    · rw [if_pos c2] at h; cases h
    · rw [if_neg c2] at h
      by_cases c3 : l2.any (badPart l.length) = true
      · rw [if_pos c3] at h; cases h
      · rw [if_neg c3] at h
        by_cases c4 : sortedB l1 = true
        · rw [if_pos c4] at h
          by_cases c5 : l2.any noneIn = true
          · rw [if_pos c5] at h; cases h
          · rw [if_neg c5] at h
            by_cases c6 : wholeB l l2 = true
            · have e3 := Bool.not_eq_true _ ▸ c3
              have e1 := Bool.not_eq_true _ ▸ c1
              unfold badShape at e1
              simp at e1
              exact ⟨e1.1, e1.2.1, Nat.one_le_iff_ne_zero.mpr (fun h => e1.2.2.1 (List.length_eq_zero_iff.mp h)), e1.2.2.2, Bool.not_eq_true _ ▸ c2, parts_len e3, c4, Bool.not_eq_true _ ▸ c5, c6, e3⟩
            · rw [if_neg c6] at h; cases h
        · rw [if_neg c4] at h; cases h
theorem cut_ev (hl : l.length ≤ 9223372036854775807) (h1 : l1.length ≤ 9223372036854775807) (h2 : l2.length ≤ 9223372036854775807) :
    Ev (fun k => order_Cut.f k s0 s1 s2 s3 s4 s5 n6 l l1 l2) (cutP s0 (mayB s0 s1 s2 s3 s4 s5 n6 l) l l1 l2) := by
  unfold order_Cut.f cutP
  refine Ev.bind (ask_ev s0 s1 s2 s3 s4 s5 n6 l l1 l2 hl h1 h2) ?_
  by_cases c : askP (mayB s0 s1 s2 s3 s4 s5 n6 l) l l1 l2 = 0
  · simp only [if_pos c]
    obtain ⟨m1, m2, m3, m4, m5, m6, _⟩ := ask_zero c
    exact cut_l0 s0 s1 s2 s3 s4 s5 n6 l l1 l2 (mayB_pos m1).2 m4 m2 m6 l2.length 0 (by omega)
  · simp only [if_neg c]; exact Ev.now _
end

section
variable (s0 s1 s2 s3 s4 s5 : ByteArray) (n6 : Int) (l : List S65) (l1 : List Int) (l2 : List (List Int))
end
end Go.Proofs.Ytlhaaccdiienbaa.X
namespace Go.Proofs.Ytlhaaccdiienbaa.X
open Go.RowKit Go.Proofs.YtlhaaccdiienbaaW.PrintWords Go.Proofs.YtlhaaccdiienbaaW.PrintLast Go.Proofs.YtlhaaccdiienbaaW.PrintMore

def cntI (s : ByteArray) : List S67 → Int
  | [] => 0
  | x :: r => (if x.f1 > 0 ∧ x.f0 = s then x.f1 else 0) + cntI s r
theorem cntI_app (s : ByteArray) (a b : List S67) : cntI s (a ++ b) = cntI s a + cntI s b := by
  induction a with
  | nil => simp [cntI]
  | cons x r ih => rw [List.cons_append, cntI, cntI, ih]; omega
theorem cntI_nonneg (s : ByteArray) (a : List S67) : 0 ≤ cntI s a := by
  induction a with
  | nil => exact Int.le_refl _
  | cons x r ih => rw [cntI]; split <;> omega
theorem cntI_pos (s : ByteArray) (a : List S67) : 0 < cntI s a ↔ ∃ x ∈ a, x.f1 > 0 ∧ x.f0 = s := by
  induction a with
  | nil => simp [cntI]
  | cons x r ih =>
    rw [cntI]
    have h0 := cntI_nonneg s r
    constructor
    · intro h
      by_cases c : x.f1 > 0 ∧ x.f0 = s
      · exact ⟨x, List.mem_cons_self, c⟩
      · rw [if_neg c] at h
        obtain ⟨y, hy, h2⟩ := ih.mp (by omega)
        exact ⟨y, List.mem_cons_of_mem _ hy, h2⟩
    · rintro ⟨y, hy, h2⟩
      rcases List.mem_cons.mp hy with e | hy
      · subst e; rw [if_pos h2]; have := h2.1; omega
      · have := ih.mpr ⟨y, hy, h2⟩
        split <;> omega
theorem cntI_zero (s : ByteArray) (a : List S67) (h : ∀ x ∈ a, x.f0 ≠ s) : cntI s a = 0 := by
  have h0 := cntI_nonneg s a
  by_cases c : 0 < cntI s a
  · obtain ⟨x, hx, h2⟩ := (cntI_pos s a).mp c
    exact absurd h2.2 (h x hx)
  · omega
theorem lotsGo_app (a b : List S67) : ∀ F, lotsGo F (a ++ b) = (lotsGo F a).bind fun F' => lotsGo F' b := by
  induction a with
  | nil => intro F; rfl
  | cons x r ih =>
    intro F
    rw [List.cons_append, lotsGo, lotsGo]
    split
    · rfl
    · exact ih _
theorem consGo_flat (cs : List S42) : ∀ F, consGo F cs = lotsGo F (cs.flatMap (fun c => c.f3)) := by
  induction cs with
  | nil => intro F; rfl
  | cons c r ih =>
    intro F
    rw [consGo, List.flatMap_cons, lotsGo_app]
    congr 1; funext F'; exact ih F'
theorem lotsGo_no (a : List S67) : ∀ F : ByteArray → S65, (∀ x ∈ a, x.f1 > 0) → (∀ s, 0 ≤ (F s).f1 ∧ (F s).f1 ≤ 1099511627776) → (∃ s, (F s).f1 < cntI s a) → lotsGo F a = none := by
  induction a with
  | nil => rintro F _ hr ⟨s, h⟩; have := hr s; rw [cntI] at h; omega
  | cons x r ih =>
    rintro F hp hr ⟨s, h⟩
    have hx := hp x List.mem_cons_self
    rw [lotsGo]
    by_cases c : x.f1 > (F x.f0).f1
    · rw [if_pos c]
    · rw [if_neg c]
      have hrx := hr x.f0
      have hl : ∀ s, ((lessLot F x) s).f1 = (F s).f1 - (if x.f1 > 0 ∧ x.f0 = s then x.f1 else 0) := by
        intro s
        unfold lessLot
        by_cases e : s = x.f0
        · subst e
          rw [if_pos rfl, if_pos ⟨hx, rfl⟩]
          exact wrap_id (by omega) (by omega)
        · rw [if_neg e, if_neg (fun q => e q.2.symm)]; omega
      refine ih _ (fun y hy => hp y (List.mem_cons_of_mem _ hy)) (fun t => ?_) ⟨s, ?_⟩
      · have h4 := hr t
        rw [hl t]
        by_cases e : x.f1 > 0 ∧ x.f0 = t
        · rw [if_pos e]; rw [← e.2]; omega
        · rw [if_neg e]; omega
      · rw [hl s]; rw [cntI] at h; omega
end Go.Proofs.Ytlhaaccdiienbaa.X
namespace Go.Proofs.Ytlhaaccdiienbaa.X
open Go.RowKit Go.Proofs.YtlhaaccdiienbaaW.PrintWords Go.Proofs.YtlhaaccdiienbaaW.PrintLast Go.Proofs.YtlhaaccdiienbaaW.PrintMore

theorem mayB_lines {s0 s1 s2 s3 s4 s5 : ByteArray} {n6 : Int} {l : List S65} (h : mayB s0 s1 s2 s3 s4 s5 n6 l = true) : linesB l = true := by
  unfold mayB restB at h
  simp only [Bool.and_eq_true] at h
  exact h.2.2.2.2.2
theorem linesB_len {l : List S65} (h : linesB l = true) : 1 ≤ l.length ∧ l.length ≤ 64 := by
  unfold linesB at h
  simp only [Bool.and_eq_true, decide_eq_true_eq] at h
  exact h.2
theorem line_facts {l : List S65} (h : linesB l = true) (k : Nat) (hk : k < l.length) : nameB l[k].f0 = true ∧ seenIn l k l[k].f0 = false ∧ 1 ≤ l[k].f1 ∧ l[k].f1 ≤ 1048576 ∧ 0 ≤ l[k].f2 ∧ l[k].f2 ≤ 1073741824 := by
  unfold linesB at h
  rw [Bool.and_eq_true, List.all_eq_true] at h
  have := h.1 k (List.mem_range.mpr hk)
  unfold lineOk at this
  rw [rd65, getD65 l k hk] at this
  simp only [Bool.and_eq_true, Bool.not_eq_true', decide_eq_true_eq, decide_eq_false_iff_not] at this
  exact ⟨this.1, this.2.1, this.2.2.1.1, this.2.2.1.2, by have := this.2.2.2.1; omega, by have := this.2.2.2.2; omega⟩
theorem names_lt {l : List S65} (h : linesB l = true) {i j : Nat} (hi : i < j) (hj : j < l.length) : (l[i]'(by omega)).f0 ≠ l[j].f0 := by
  have h2 := (line_facts h j hj).2.1
  unfold seenIn at h2
  rw [List.any_eq_false] at h2
  have h3 := h2 (l[i]'(by omega)) (List.mem_take_iff_getElem.mpr ⟨i, by omega, rfl⟩)
  simpa using h3
theorem names_ne {l : List S65} (h : linesB l = true) {i j : Nat} (hi : i < l.length) (hj : j < l.length) (hij : i ≠ j) : l[i].f0 ≠ l[j].f0 := by
  rcases Nat.lt_or_gt_of_ne hij with c | c
  · exact names_lt h c hj
  · exact fun e => names_lt h c hi e.symm
theorem lineIn_at {l : List S65} (h : linesB l = true) (k : Nat) (hk : k < l.length) : lineIn l l.length l[k].f0 = l[k] := by
  unfold lineIn
  rw [List.take_length]
  cases hf : l.reverse.find? (fun x => decide (x.f0 = l[k].f0)) with
  | none =>
    have := List.find?_eq_none.mp hf l[k] (List.mem_reverse.mpr (List.getElem_mem hk))
    simp at this
  | some b =>
    have h1 := List.find?_some hf
    have h2 := List.mem_reverse.mp (List.mem_of_find?_eq_some hf)
    obtain ⟨j, hj, rfl⟩ := List.getElem_of_mem h2
    have h3 : l[j].f0 = l[k].f0 := by simpa using h1
    have e : j = k := by
      by_cases c : j = k
      · exact c
      · exact absurd h3 (names_ne h hj hk c)
    subst e; rfl
theorem lineIn_no {l : List S65} {s : ByteArray} (h : ∀ x ∈ l, x.f0 ≠ s) : lineIn l l.length s = z65 := by
  unfold lineIn
  rw [List.take_length]
  have : l.reverse.find? (fun x => decide (x.f0 = s)) = none := by
    rw [List.find?_eq_none]; intro x hx; simpa using h x (List.mem_reverse.mp hx)
  rw [this]; rfl
theorem name_or {l : List S65} (s : ByteArray) : (∃ k, ∃ h : k < l.length, l[k].f0 = s) ∨ (∀ x ∈ l, x.f0 ≠ s) := by
  by_cases c : ∃ x ∈ l, x.f0 = s
  · obtain ⟨x, hx, e⟩ := c
    obtain ⟨k, hk, rfl⟩ := List.getElem_of_mem hx
    exact .inl ⟨k, hk, e⟩
  · exact .inr fun x hx e => c ⟨x, hx, e⟩
theorem lineIn_range {l : List S65} (h : linesB l = true) (s : ByteArray) : 0 ≤ (lineIn l l.length s).f1 ∧ (lineIn l l.length s).f1 ≤ 1048576 ∧ 0 ≤ (lineIn l l.length s).f2 ∧ (lineIn l l.length s).f2 ≤ 1073741824 := by
  rcases name_or (l := l) s with ⟨k, hk, e⟩ | e
  · subst e
    rw [lineIn_at h k hk]
    have := line_facts h k hk
    omega
  · rw [lineIn_no e]; decide

theorem sum_nonneg : ∀ c : List Int, (∀ p ∈ c, 0 ≤ p) → 0 ≤ c.sum
  | [], _ => by simp
  | p :: r, h => by
    have := sum_nonneg r (fun q hq => h q (List.mem_cons_of_mem _ hq))
    have := h p List.mem_cons_self
    rw [List.sum_cons]; omega
theorem wholeK_eq : ∀ (c : List Int) (x : Int), (∀ p ∈ c, 0 ≤ p) → 0 ≤ x → x ≤ 1099511627776 → wholeK x c = decide (c.sum = x)
  | [], x, _, _, _ => by rw [wholeK, List.sum_nil]; exact decide_eq_decide.mpr ⟨Eq.symm, Eq.symm⟩
  | p :: r, x, h, h0, h1 => by
    have hr := fun q hq => h q (List.mem_cons_of_mem _ hq)
    have h2 := sum_nonneg r hr
    have hp := h p List.mem_cons_self
    rw [wholeK, List.sum_cons]
    by_cases c : p > x
    · rw [if_pos c, decide_eq_false (by omega)]
    · rw [if_neg c, wrap_id (by omega) (by omega), wholeK_eq r (x - p) hr (by omega) (by omega)]
      exact decide_eq_decide.mpr ⟨fun e => by omega, fun e => by omega⟩
theorem part_pos {n : Nat} (hn : 1 ≤ n) {p : List Int} (h : badPart n p = false) : p.length = n ∧ ∀ k : Nat, 0 ≤ p.getD k 0 := by
  unfold badPart at h
  simp only [Bool.or_eq_false_iff, Bool.not_eq_false', decide_eq_true_eq, decide_eq_false_iff_not] at h
  refine ⟨h.1, fun k => ?_⟩
  by_cases c : k < p.length
  · by_cases d : p.getD k 0 < 0
    · exact absurd ((minF_neg p (by omega)).mpr ⟨k, c, d⟩) h.2
    · omega
  · rw [List.getD_eq_getElem?_getD, List.getElem?_eq_none (by omega)]; decide
structure Parts (l : List S65) (l1 : List Int) (l2 : List (List Int)) : Prop where
  lines : linesB l = true
  dates : l2.length = l1.length
  some_ : 1 ≤ l2.length
  few : l2.length ≤ 64
  len : ∀ p ∈ l2, p.length = l.length
  pos : ∀ p ∈ l2, ∀ k : Nat, 0 ≤ p.getD k 0
  any : l2.any noneIn = false
  whole : wholeB l l2 = true
theorem Parts.of {s0 s1 s2 s3 s4 s5 : ByteArray} {n6 : Int} {l : List S65} {l1 : List Int} {l2 : List (List Int)} (h : askP (mayB s0 s1 s2 s3 s4 s5 n6 l) l l1 l2 = 0) : Parts l l1 l2 := by
  obtain ⟨m1, m2, m3, m4, m5, m6, m7, m8, m9, m10⟩ := ask_zero h
  have hl := mayB_lines m1
  refine ⟨hl, m2, m3, m4, m6, fun p hp => ?_, m8, m9⟩
  rw [List.any_eq_false] at m10
  exact (part_pos (linesB_len hl).1 (Bool.not_eq_true _ ▸ m10 p hp)).2
theorem Parts.part {l : List S65} {l1 : List Int} {l2 : List (List Int)} (h : Parts l l1 l2) (i : Nat) (k : Nat) : 0 ≤ (l2.getD i []).getD k 0 := by
  by_cases c : i < l2.length
  · rw [getD5 l2 i c]; exact h.pos _ (List.getElem_mem c) k
  · simp [List.getD_eq_getElem?_getD, List.getElem?_eq_none (show l2.length ≤ i by omega)]
theorem Parts.plen {l : List S65} {l1 : List Int} {l2 : List (List Int)} (h : Parts l l1 l2) (i : Nat) (hi : i < l2.length) : (l2.getD i []).length = l.length := by
  rw [getD5 l2 i hi]; exact h.len _ (List.getElem_mem hi)
theorem Parts.col {l : List S65} {l1 : List Int} {l2 : List (List Int)} (h : Parts l l1 l2) (k : Nat) : ∀ p ∈ colK l2 k, 0 ≤ p := by
  intro p hp
  unfold colK at hp
  obtain ⟨q, hq, rfl⟩ := List.mem_map.mp hp
  exact h.pos q hq k
theorem Parts.sum {l : List S65} {l1 : List Int} {l2 : List (List Int)} (h : Parts l l1 l2) (k : Nat) (hk : k < l.length) : (colK l2 k).sum = l[k].f1 := by
  have hw := h.whole
  unfold wholeB at hw
  rw [List.all_eq_true] at hw
  have h1 := hw k (List.mem_range.mpr hk)
  rw [getD65 l k hk] at h1
  have hf := line_facts h.lines k hk
  rw [wholeK_eq _ _ (h.col k) (by omega) (by omega)] at h1
  exact of_decide_eq_true h1

theorem lotsTo_mem (l : List S65) (p : List Int) (x : S67) : ∀ n, x ∈ lotsTo l p n ↔ ∃ k, k < n ∧ p.getD k 0 > 0 ∧ x = ⟨(l.getD k z65).f0, p.getD k 0⟩
  | 0 => by simp [lotsTo]
  | n + 1 => by
    unfold lotsTo
    rw [List.mem_append, lotsTo_mem l p x n]
    constructor
    · rintro (⟨k, h1, h2, h3⟩ | h)
      · exact ⟨k, by omega, h2, h3⟩
      · by_cases c : p.getD n 0 > 0
        · rw [if_pos c, List.mem_singleton] at h; exact ⟨n, by omega, c, h⟩
        · rw [if_neg c] at h; simp at h
    · rintro ⟨k, h1, h2, h3⟩
      by_cases c : k = n
      · subst c; rw [if_pos h2, List.mem_singleton]; exact .inr h3
      · exact .inl ⟨k, by omega, h2, h3⟩
theorem cntI_lots {l : List S65} (h : linesB l = true) (p : List Int) (hp : ∀ k : Nat, 0 ≤ p.getD k 0) (k : Nat) (hk : k < l.length) : ∀ n, n ≤ l.length → cntI l[k].f0 (lotsTo l p n) = if k < n then p.getD k 0 else 0
  | 0 => fun _ => rfl
  | n + 1 => fun hn => by
    have hlt : n < l.length := by omega
    unfold lotsTo
    rw [cntI_app, cntI_lots h p hp k hk n (by omega), getD65 l n hlt]
    have h0 := hp n
    by_cases e : k = n
    · subst e
      rw [if_neg (Nat.lt_irrefl _), if_pos (Nat.lt_succ_self _)]
      by_cases c : p.getD k 0 > 0
      · rw [if_pos c, cntI, if_pos ⟨c, rfl⟩, cntI]
        show 0 + (p.getD k 0 + 0) = p.getD k 0
        omega
      · rw [if_neg c, cntI]; omega
    · have h1 : cntI l[k].f0 (if p.getD n 0 > 0 then [⟨l[n].f0, p.getD n 0⟩] else []) = 0 := by
        refine cntI_zero _ _ fun x hx => ?_
        by_cases c : p.getD n 0 > 0
        · rw [if_pos c, List.mem_singleton] at hx; subst hx; exact names_ne h hlt hk (fun q => e q.symm)
        · rw [if_neg c] at hx; simp at hx
      rw [h1]
      by_cases c : k < n
      · rw [if_pos c, if_pos (by omega)]; omega
      · rw [if_neg c, if_neg (by omega)]; omega
theorem cntI_lots_no {l : List S65} {s : ByteArray} (h : ∀ x ∈ l, x.f0 ≠ s) (p : List Int) (n : Nat) (hn : n ≤ l.length) : cntI s (lotsTo l p n) = 0 := by
  refine cntI_zero _ _ fun x hx => ?_
  obtain ⟨k, h1, _, h3⟩ := (lotsTo_mem l p x n).mp hx
  subst h3
  rw [getD65 l k (by omega)]
  exact h _ (List.getElem_mem (by omega))
def flatTo (s0 : ByteArray) (l : List S65) (l1 : List Int) (l2 : List (List Int)) (n : Nat) : List S67 := (cutTo s0 l l1 l2 n).flatMap (fun c => c.f3)
theorem flatTo_succ (s0 : ByteArray) (l : List S65) (l1 : List Int) (l2 : List (List Int)) (n : Nat) : flatTo s0 l l1 l2 (n + 1) = flatTo s0 l l1 l2 n ++ lotsTo l (l2.getD n []) (l2.getD n []).length := by
  unfold flatTo; rw [cutTo_succ, List.flatMap_append]; simp
theorem colK_take (l2 : List (List Int)) (k n : Nat) (hn : n < l2.length) : ((colK l2 k).take (n + 1)).sum = ((colK l2 k).take n).sum + (l2.getD n []).getD k 0 := by
  rw [List.take_add_one, List.getElem?_eq_getElem (by unfold colK; rw [List.length_map]; exact hn), Option.toList_some, List.sum_append, List.sum_cons, List.sum_nil]
  unfold colK
  rw [List.getElem_map, getD5 l2 n hn]; omega
theorem cntI_flat {l : List S65} {l1 : List Int} {l2 : List (List Int)} (h : Parts l l1 l2) (s0 : ByteArray) (k : Nat) (hk : k < l.length) : ∀ n, n ≤ l2.length → cntI l[k].f0 (flatTo s0 l l1 l2 n) = ((colK l2 k).take n).sum
  | 0 => fun _ => rfl
  | n + 1 => fun hn => by
    rw [flatTo_succ, cntI_app, cntI_flat h s0 k hk n (by omega), colK_take l2 k n (by omega), cntI_lots h.lines _ (h.part n) k hk _ (by rw [h.plen n (by omega)]; exact Nat.le_refl _), if_pos (by rw [h.plen n (by omega)]; exact hk)]
theorem cntI_flat_no {l : List S65} {l1 : List Int} {l2 : List (List Int)} (h : Parts l l1 l2) (s0 : ByteArray) {s : ByteArray} (hs : ∀ x ∈ l, x.f0 ≠ s) : ∀ n, n ≤ l2.length → cntI s (flatTo s0 l l1 l2 n) = 0
  | 0 => fun _ => rfl
  | n + 1 => fun hn => by
    rw [flatTo_succ, cntI_app, cntI_flat_no h s0 hs n (by omega), cntI_lots_no hs _ _ (by rw [h.plen n (by omega)]; exact Nat.le_refl _)]; rfl
theorem cntI_all {l : List S65} {l1 : List Int} {l2 : List (List Int)} (h : Parts l l1 l2) (s0 s : ByteArray) : cntI s (flatTo s0 l l1 l2 l2.length) = (lineIn l l.length s).f1 := by
  rcases name_or (l := l) s with ⟨k, hk, e⟩ | e
  · subst e
    rw [cntI_flat h s0 k hk _ (Nat.le_refl _), lineIn_at h.lines k hk, ← h.sum k hk]
    rw [List.take_of_length_le (by unfold colK; rw [List.length_map]; exact Nat.le_refl _)]
  · rw [cntI_flat_no h s0 e _ (Nat.le_refl _), lineIn_no e]; rfl
def LotIn (l : List S65) (x : S67) : Prop := lotBad x = false ∧ (lineIn l l.length x.f0).f1 ≠ 0 ∧ x.f1 > 0
theorem Parts.le {l : List S65} {l1 : List Int} {l2 : List (List Int)} (h : Parts l l1 l2) (i k : Nat) (hi : i < l2.length) (hk : k < l.length) : (l2.getD i []).getD k 0 ≤ l[k].f1 := by
  have h1 := h.sum k hk
  have h2 : (colK l2 k).sum = ((colK l2 k).take (i + 1)).sum + ((colK l2 k).drop (i + 1)).sum := by rw [← List.sum_append, List.take_append_drop]
  rw [colK_take l2 k i hi] at h2
  have h3 := sum_nonneg ((colK l2 k).take i) (fun p hp => h.col k p (List.mem_of_mem_take hp))
  have h4 := sum_nonneg ((colK l2 k).drop (i + 1)) (fun p hp => h.col k p (List.mem_of_mem_drop hp))
  omega
theorem lotsTo_in {l : List S65} {l1 : List Int} {l2 : List (List Int)} (h : Parts l l1 l2) (i : Nat) (hi : i < l2.length) : ∀ x ∈ lotsTo l (l2.getD i []) (l2.getD i []).length, LotIn l x := by
  intro x hx
  obtain ⟨k, h1, h2, h3⟩ := (lotsTo_mem l _ x _).mp hx
  have hk : k < l.length := by have := h.plen i hi; omega
  have hf := line_facts h.lines k hk
  have hle := h.le i k hi hk
  subst h3
  rw [getD65 l k hk]
  refine ⟨?_, ?_, h2⟩
  · unfold lotBad
    simp only [hf.1, Bool.not_true, Bool.false_or, Bool.not_eq_false', Bool.and_eq_true, decide_eq_true_eq]
    omega
  · rw [lineIn_at h.lines k hk]; omega
def ConsIn (s0 : ByteArray) (l : List S65) (c : S42) : Prop := c.f0 = s0 ∧ c.f3.length ≤ 64 ∧ ∀ x ∈ c.f3, LotIn l x
theorem cutTo_in {l : List S65} {l1 : List Int} {l2 : List (List Int)} (h : Parts l l1 l2) (s0 : ByteArray) : ∀ n, n ≤ l2.length → ∀ c ∈ cutTo s0 l l1 l2 n, ConsIn s0 l c
  | 0 => fun _ c hc => by simp [cutTo] at hc
  | n + 1 => fun hn c hc => by
    unfold cutTo at hc
    rcases List.mem_append.mp hc with hc | hc
    · exact cutTo_in h s0 n (by omega) c hc
    · rw [List.mem_singleton] at hc
      subst hc
      have h1 := linesB_len h.lines
      have h2 := lotsTo_len l (l2.getD n []) (l2.getD n []).length
      have h3 := h.plen n (by omega)
      exact ⟨rfl, by show (lotsTo _ _ _).length ≤ 64; omega, lotsTo_in h n (by omega)⟩
theorem found_ok {s0 : ByteArray} {l : List S65} {cs : List S42} (h : ∀ c ∈ cs, ConsIn s0 l c) : foundE true s0 l cs = 0 := by
  unfold foundE
  rw [if_neg (by decide), if_neg, if_neg]
  · rw [List.any_eq_true]
    rintro ⟨c, hc, h2⟩
    rw [List.any_eq_true] at h2
    obtain ⟨x, hx, h3⟩ := h2
    exact ((h c hc).2.2 x hx).2.1 (by simpa using h3)
  · rw [List.any_eq_true]
    rintro ⟨c, hc, h2⟩
    unfold ofB at h2
    have h3 : (c.f3.any lotBad) = false := by
      rw [List.any_eq_false]; intro x hx; rw [((h c hc).2.2 x hx).1]; decide
    rw [h3, decide_eq_true (by rw [(h c hc).1])] at h2
    simp at h2
theorem left_ev (s0 s1 s2 s3 s4 s5 : ByteArray) (n6 : Int) (l : List S65) (cs : List S42) (ho : leftOk cs) :
    Ev (fun k => order_Left.f k s0 s1 s2 s3 s4 s5 n6 l cs) (if foundE (mayB s0 s1 s2 s3 s4 s5 n6 l) s0 l cs = 0 then leftV l (consGo (lineIn l l.length) cs) else ([], foundE (mayB s0 s1 s2 s3 s4 s5 n6 l) s0 l cs)) := by
  unfold order_Left.f
  refine Ev.bind (may_ev s0 s1 s2 s3 s4 s5 n6 l) ?_
  simp only [if_pos ho]
  split <;> exact Ev.now _
theorem value_ev (s0 s1 s2 s3 s4 s5 : ByteArray) (n6 : Int) (l : List S65) (c0 : ByteArray) (c1 c2 : Int) (xs : List S67) :
    Ev (fun k => order_Value.f k s0 s1 s2 s3 s4 s5 n6 l c0 c1 c2 xs) (if foundE (mayB s0 s1 s2 s3 s4 s5 n6 l) s0 l [⟨c0, c1, c2, xs⟩] = 0 then valueL (lineIn l l.length) xs 0 else (0, foundE (mayB s0 s1 s2 s3 s4 s5 n6 l) s0 l [⟨c0, c1, c2, xs⟩])) := by
  unfold order_Value.f
  refine Ev.bind (may_ev s0 s1 s2 s3 s4 s5 n6 l) ?_
  split <;> exact Ev.now _
theorem nameB_16 {s : ByteArray} (h : nameB s = true) : s.size ≤ 16 := by
  unfold nameB at h
  simp only [Bool.and_eq_true, decide_eq_true_eq] at h
  exact h.2.1
theorem LotIn.size {l : List S65} {x : S67} (h : LotIn l x) : x.f0.size ≤ 16 := by
  have h1 := h.1
  unfold lotBad at h1
  simp only [Bool.or_eq_false_iff, Bool.not_eq_false'] at h1
  exact nameB_16 h1.1
end Go.Proofs.Ytlhaaccdiienbaa.X
namespace Go.Proofs.Ytlhaaccdiienbaa.X
open Go.RowKit Go.Proofs.YtlhaaccdiienbaaW.PrintWords Go.Proofs.YtlhaaccdiienbaaW.PrintLast Go.Proofs.YtlhaaccdiienbaaW.PrintMore

theorem getD_set (p : List Int) (k j : Nat) (v : Int) (hk : k < p.length) : (p.set k v).getD j 0 = if k = j then v else p.getD j 0 := by
  rw [List.getD_eq_getElem?_getD, List.getElem?_set]
  by_cases c : k = j
  · subst c; rw [if_pos rfl, if_pos rfl, if_pos hk]; rfl
  · rw [if_neg c, if_neg c, List.getD_eq_getElem?_getD]
theorem sum_set : ∀ (c : List Int) (i : Nat) (hi : i < c.length) (x : Int), (c.set i x).sum = c.sum - c[i] + x
  | p :: r, 0, _, x => by rw [List.set_cons_zero, List.sum_cons, List.sum_cons, List.getElem_cons_zero]; omega
  | p :: r, i + 1, hi, x => by
    have := sum_set r i (by simpa using hi) x
    rw [List.set_cons_succ, List.sum_cons, List.sum_cons, List.getElem_cons_succ, this]; omega
theorem ask_shape {m : Bool} {l : List S65} {l1 : List Int} {l2 : List (List Int)} (h : askP m l l1 l2 = 0) : badShape m l1 l2 = false := by
  cases c : badShape m l1 l2 with
  | false => rfl
  | true => unfold askP at h; rw [if_pos c] at h; cases h
def moreP (l2 : List (List Int)) (i k : Nat) : List (List Int) := l2.set i ((l2.getD i []).set k ((l2.getD i []).getD k 0 + 1))
theorem ask_more {m : Bool} {l : List S65} {l1 : List Int} {l2 : List (List Int)} (hz : askP m l l1 l2 = 0) (h : Parts l l1 l2) (i k : Nat) (hi : i < l2.length) (hk : k < l.length) : askP m l l1 (moreP l2 i k) = 3 := by
  have hlen := linesB_len h.lines
  have hpl := h.plen i hi
  have hv := h.part i k
  obtain ⟨m1, m2, m3, m4, m5, m6, m7, m8, m9, m10⟩ := ask_zero hz
  have hget : ∀ j, ((l2.getD i []).set k ((l2.getD i []).getD k 0 + 1)).getD j 0 = if k = j then (l2.getD i []).getD k 0 + 1 else (l2.getD i []).getD j 0 := fun j => getD_set _ _ _ _ (by omega)
  have hnn : ∀ j, 0 ≤ ((l2.getD i []).set k ((l2.getD i []).getD k 0 + 1)).getD j 0 := fun j => by
    rw [hget]
    have := h.part i j
    split <;> omega
  have hl : ((l2.getD i []).set k ((l2.getD i []).getD k 0 + 1)).length = l.length := by rw [List.length_set]; exact hpl
  have hmin : ¬ minF ((l2.getD i []).set k ((l2.getD i []).getD k 0 + 1)) < 0 := by
    rw [minF_neg _ (by omega)]
    rintro ⟨j, _, hj⟩
    have := hnn j
    omega
  have e1 : badShape m l1 (moreP l2 i k) = false := by
    have := ask_shape hz
    unfold badShape moreP at *
    rw [List.length_set]; exact this
  have e3 : (moreP l2 i k).any (badPart l.length) = false := by
    rw [List.any_eq_false] at m10 ⊢
    intro p hp
    rcases List.mem_or_eq_of_mem_set hp with hp | rfl
    · exact m10 p hp
    · unfold badPart
      rw [hl, decide_eq_true rfl, decide_eq_false hmin]; decide
  have e5 : (moreP l2 i k).any noneIn = false := by
    rw [List.any_eq_false] at m8 ⊢
    intro p hp
    rcases List.mem_or_eq_of_mem_set hp with hp | rfl
    · exact m8 p hp
    · rw [noneIn_iff _ (by omega) hmin]
      exact fun hno => hno ⟨k, by omega, by rw [hget, if_pos rfl]; omega⟩
  have e6 : wholeB l (moreP l2 i k) = false := by
    refine wholeB_no hk ?_
    have hf := line_facts h.lines k hk
    have hcol : colK (moreP l2 i k) k = (colK l2 k).set i ((l2.getD i []).getD k 0 + 1) := by
      unfold colK moreP
      rw [List.map_set, hget, if_pos rfl]
    have hci : i < (colK l2 k).length := by unfold colK; rw [List.length_map]; exact hi
    have hcg : (colK l2 k)[i] = (l2.getD i []).getD k 0 := by simp only [colK, List.getElem_map]; rw [getD5 l2 i hi]
    rw [getD65 l k hk, hcol, wholeK_eq _ _ ?_ (by omega) (by omega), sum_set _ i hci, hcg, h.sum k hk]
    · exact decide_eq_false (by omega)
    · intro p hp
      rcases List.mem_or_eq_of_mem_set hp with hp | rfl
      · exact h.col k p hp
      · omega
  unfold askP
  rw [if_neg (by rw [e1]; decide), if_neg (by rw [m5]; decide), if_neg (by rw [e3]; decide), if_pos m7, if_neg (by rw [e5]; decide), if_neg (by rw [e6]; decide)]
theorem one_in {s0 : ByteArray} {l : List S65} (h : linesB l = true) (k : Nat) (hk : k < l.length) (a b : Int) : ConsIn s0 l ⟨s0, a, b, [⟨l[k].f0, 1⟩]⟩ := by
  refine ⟨rfl, by show 1 ≤ 64; decide, fun x hx => ?_⟩
  have hf := line_facts h k hk
  have hx2 : x = ⟨l[k].f0, 1⟩ := by simpa using hx
  subst hx2
  refine ⟨?_, ?_, show (1 : Int) > 0 by decide⟩
  · unfold lotBad; simp [hf.1]
  · show (lineIn l l.length l[k].f0).f1 ≠ 0
    rw [lineIn_at h k hk]; omega
section
variable (s0 s1 s2 s3 s4 s5 : ByteArray) (n6 : Int) (l : List S65) (l1 : List Int) (l2 : List (List Int))
theorem left_more (h : Parts l l1 l2) (hm : mayB s0 s1 s2 s3 s4 s5 n6 l = true) (k : Nat) (hk : k < l.length) (a b : Int) : Ev (fun q => order_Left.f q s0 s1 s2 s3 s4 s5 n6 l (cutTo s0 l l1 l2 l2.length ++ [⟨s0, a, b, [⟨l[k].f0, 1⟩]⟩])) ([], 3) := by
  have hc : ∀ c ∈ cutTo s0 l l1 l2 l2.length ++ [⟨s0, a, b, [⟨l[k].f0, 1⟩]⟩], ConsIn s0 l c := by
    intro c hc
    rcases List.mem_append.mp hc with hc | hc
    · exact cutTo_in h s0 _ (Nat.le_refl _) c hc
    · rw [List.mem_singleton] at hc; subst hc; exact one_in h.lines k hk a b
  have hf := h.few
  have ho : leftOk (cutTo s0 l l1 l2 l2.length ++ [⟨s0, a, b, [⟨l[k].f0, 1⟩]⟩]) := ⟨by rw [List.length_append, cutTo_len, List.length_singleton]; omega, fun c hc' => by have := (hc c hc').2.1; omega⟩
  have he := left_ev s0 s1 s2 s3 s4 s5 n6 l _ ho
  rw [hm, found_ok hc, if_pos rfl, consGo_flat] at he
  rw [lotsGo_no _ (lineIn l l.length) (fun x hx => by
      obtain ⟨c, hc', hx⟩ := List.mem_flatMap.mp hx
      exact ((hc c hc').2.2 x hx).2.2) (fun s => by have := lineIn_range h.lines s; omega) ⟨l[k].f0, by
      rw [List.flatMap_append, cntI_app]
      have := cntI_all h s0 l[k].f0
      unfold flatTo at this
      rw [this]
      have e : cntI l[k].f0 (List.flatMap (fun c : S42 => c.f3) [⟨s0, a, b, [⟨l[k].f0, 1⟩]⟩]) = 1 := by
        simp only [List.flatMap_cons, List.flatMap_nil, List.append_nil]
        rw [cntI, cntI, if_pos ⟨show (1 : Int) > 0 by decide, rfl⟩]
        rfl
      rw [e]; omega⟩] at he
  exact he
theorem found_bad (c0 : ByteArray) (a b : Int) (xs : List S67) (hc : c0.toList ≠ s0.toList) : foundE true s0 l [⟨c0, a, b, xs⟩] = 1 := by
  unfold foundE
  rw [if_neg (by decide), if_pos]
  rw [List.any_cons]
  unfold ofB
  rw [decide_eq_false hc]; rfl
theorem name_x : (s0 ++ (⟨#[120]⟩ : ByteArray)).toList ≠ s0.toList := by
  intro e
  have h1 : (s0 ++ (⟨#[120]⟩ : ByteArray)).size = s0.size + 1 := by rw [ByteArray.size_append]; rfl
  have h2 := congrArg ByteArray.size (toList_eq.mp e)
  omega
theorem more_l0 (h : Parts l l1 l2) (hz : askP (mayB s0 s1 s2 s3 s4 s5 n6 l) l l1 l2 = 0) (hl : l.length ≤ 9223372036854775807) (h1 : l1.length ≤ 9223372036854775807) (i k : Nat) (hi : i < l2.length) (hk : k < l.length) :
    ∀ d j : Nat, j + d = l2.length → Ev (fun q => supercargolaw19_OrderMore.l0 q l1 l2 i k (cutTo s0 l l1 l2 l2.length) (l2.take j) j s0 s1 s2 s3 s4 s5 n6 l) true := by
  have hf := h.few
  have hlen := linesB_len h.lines
  have hm := (ask_zero hz).1
  intro d
  induction d with
  | zero =>
    intro j hj
    obtain rfl : j = l2.length := by omega
    have hn : s0.size ≤ 16 := by
      unfold mayB at hm
      rw [Bool.and_eq_true, List.all_eq_true] at hm
      exact nameB_16 (hm.1 s0 List.mem_cons_self)
    have hp := h.plen i hi
    have hv := h.part i k
    have hle := h.le i k hi hk
    have hlf := line_facts h.lines k hk
    have e1 : wrap64 ((l2.getD i []).getD k 0 + 1) = (l2.getD i []).getD k 0 + 1 := wrap_id (by omega) (by omega)
    refine Ev.step (fun q => by rw [supercargolaw19_OrderMore.l0]) ?_
    rw [List.take_length]
    simp only [if_neg (show ¬ (l2.length : Int) < (l2.length : Int) by omega), if_pos (show (0 : Int) ≤ (i : Int) by omega), if_pos (show (i : Int) < (l2.length : Int) by omega), if_pos (show (0 : Int) ≤ (k : Int) by omega), rd5, if_pos (show (k : Int) < ((l2.getD i []).length : Int) by omega), rdN, e1, Int.toNat_natCast, if_pos (show (k : Int) < (l.length : Int) by omega), rd65, getD65 l k hk, Option.bind_some, if_pos (show s0.size + 1 ≤ 9223372036854775807 by omega)]
    have hc := cut_ev s0 s1 s2 s3 s4 s5 n6 l l1 (moreP l2 i k) hl h1 (by unfold moreP; rw [List.length_set]; omega)
    unfold cutP at hc
    rw [ask_more hz h i k hi hk, if_neg (by decide)] at hc
    refine Ev.bind hc ?_
    have ha1 : consAdd.f (cutTo s0 l l1 l2 l2.length) s0 0 0 [⟨l[k].f0, 1⟩] = some (cutTo s0 l l1 l2 l2.length ++ [⟨s0, 0, 0, [⟨l[k].f0, 1⟩]⟩]) := by unfold consAdd.f; rw [if_pos (by rw [cutTo_len]; omega)]
    have ha2 : consAdd.f [] (s0 ++ (⟨#[120]⟩ : ByteArray)) 0 0 [⟨l[k].f0, 1⟩] = some [⟨s0 ++ (⟨#[120]⟩ : ByteArray), 0, 0, [⟨l[k].f0, 1⟩]⟩] := by unfold consAdd.f; rw [if_pos (by simp)]; rfl
    simp only [ha1, ha2, Option.bind_some]
    refine Ev.bind (left_more s0 s1 s2 s3 s4 s5 n6 l l1 l2 h hm k hk 0 0) ?_
    have hl2 := left_ev s0 s1 s2 s3 s4 s5 n6 l [⟨s0 ++ (⟨#[120]⟩ : ByteArray), 0, 0, [⟨l[k].f0, 1⟩]⟩] ⟨by simp, fun c hc => by rw [List.mem_singleton] at hc; subst hc; show 1 ≤ 100; decide⟩
    rw [hm, found_bad s0 l _ _ _ _ (name_x s0), if_neg (by decide)] at hl2
    refine Ev.bind hl2 ?_
    have hv2 := value_ev s0 s1 s2 s3 s4 s5 n6 l (s0 ++ (⟨#[120]⟩ : ByteArray)) 0 0 [⟨l[k].f0, 1⟩]
    rw [hm, found_bad s0 l _ _ _ _ (name_x s0), if_neg (by decide)] at hv2
    refine Ev.bind hv2 ?_
    simp only [if_true]
    exact Ev.now _
  | succ d ih =>
    intro j hj
    have hlt : j < l2.length := by omega
    have hp := h.plen j hlt
    have e : l2.take (j + 1) = l2.take j ++ [l2.getD j []] := by rw [List.take_add_one, List.getElem?_eq_getElem hlt, Option.toList_some, getD5 l2 j hlt]
    have ht : (l2.take j).length ≤ 64 := by rw [List.length_take]; omega
    refine Ev.step (fun q => by rw [supercargolaw19_OrderMore.l0]) ?_
    simp only [if_pos (show (j : Int) < (l2.length : Int) by omega), Option.bind_some, if_pos (show (0 : Int) ≤ (j : Int) by omega), rd5, List.length_nil, if_pos (show 0 + (l2.getD j []).length < 17592186044416 by omega), if_pos (show (l2.take j).length < 5864062014805 by omega), List.nil_append, wrap_succ hlt (by omega)]
    rw [← e]
    exact ih (j + 1) (by omega)
theorem orderMore_ev (a3 a4 : Int) (hl : l.length ≤ 9223372036854775807) (h1 : l1.length ≤ 9223372036854775807) (h2 : l2.length ≤ 9223372036854775807) :
    Ev (fun k => supercargolaw19_OrderMore.f k s0 s1 s2 s3 s4 s5 n6 l l1 l2 a3 a4) true := by
  unfold supercargolaw19_OrderMore.f
  refine Ev.bind awake_ev ?_
  simp only [if_true]
  have J1 : Ev (fun k => supercargolaw19_OrderMore.j0 k l1 l2 a3 a4 true s0 s1 s2 s3 s4 s5 n6 l) true := by
    refine Ev.step (fun k => by rw [supercargolaw19_OrderMore.j0]) ?_
    simp only [if_true]; exact Ev.now _
  obtain ⟨b, hb, -⟩ := few_ev s0 s1 s2 s3 s4 s5 n6 l []
  refine Ev.bind hb ?_
  cases b with
  | false => simp only [Bool.false_eq_true, if_false]; exact J1
  | true =>
    simp only [if_true]
    by_cases c1 : (l1.length : Int) > 70
    · simp only [if_pos c1]; exact J1
    · simp only [if_neg c1]
      by_cases c2 : (l2.length : Int) > 70
      · simp only [if_pos c2]; exact J1
      · simp only [if_neg c2]
        by_cases c3 : a3 < 0
        · simp only [if_pos c3]; exact J1
        · simp only [if_neg c3]
          by_cases c4 : a3 ≥ (l2.length : Int)
          · simp only [if_pos c4]; exact J1
          · simp only [if_neg c4]
            by_cases c5 : a4 < 0
            · simp only [if_pos c5]; exact J1
            · simp only [if_neg c5]
              by_cases c6 : a4 ≥ (l.length : Int)
              · simp only [decide_eq_true c6]; exact J1
              · simp only [decide_eq_false c6]
                obtain ⟨i, rfl⟩ : ∃ i : Nat, a3 = (i : Int) := ⟨a3.toNat, by omega⟩
                obtain ⟨k, rfl⟩ : ∃ k : Nat, a4 = (k : Int) := ⟨a4.toNat, by omega⟩
                have hi : i < l2.length := by omega
                have hk : k < l.length := by omega
                refine Ev.step (fun k => by rw [supercargolaw19_OrderMore.j0]) ?_
                simp only [Bool.false_eq_true, if_false]
                refine Ev.bind (cut_ev s0 s1 s2 s3 s4 s5 n6 l l1 l2 hl h1 h2) ?_
                unfold cutP
                by_cases c : askP (mayB s0 s1 s2 s3 s4 s5 n6 l) l l1 l2 = 0
                · have h := Parts.of c
                  have hp := h.plen i hi
                  simp only [if_pos c, if_true, if_pos (show (0 : Int) ≤ (i : Int) by omega), if_pos (show (i : Int) < (l2.length : Int) by omega), rd5, if_pos (show ((l2.getD i []).length : Int) = (l.length : Int) by omega), cutTo_len, decide_eq_false (show ¬ (i : Int) ≥ (l2.length : Int) by omega)]
                  refine Ev.step (fun k => by rw [supercargolaw19_OrderMore.j1]) ?_
                  simp only [Bool.false_eq_true, if_false]
                  exact more_l0 s0 s1 s2 s3 s4 s5 n6 l l1 l2 h c hl h1 i k hi hk l2.length 0 (by omega)
                · simp only [if_neg c]
                  refine Ev.step (fun k => by rw [supercargolaw19_OrderMore.j1]) ?_
                  simp only [if_true]
                  rw [show (askP (mayB s0 s1 s2 s3 s4 s5 n6 l) l l1 l2 != 0) = true from bne_iff_ne.mpr c]
                  exact Ev.now _
end
end Go.Proofs.Ytlhaaccdiienbaa.X
