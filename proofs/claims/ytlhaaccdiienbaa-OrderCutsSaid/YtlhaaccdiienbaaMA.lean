import Derived.Test.YtlhaaccdiienbaaX4
import Derived.Test.YtlhaaccdiienbaaX8
namespace Go.Proofs.Ytlhaaccdiienbaa.X
open Go.RowKit Go.Proofs.YtlhaaccdiienbaaW.PrintWords Go.Proofs.YtlhaaccdiienbaaW.PrintLast Go.Proofs.YtlhaaccdiienbaaW.PrintMore

theorem wrap_succ {i n : Nat} (h : i < n) (hn : n ≤ 9223372036854775807) : wrap64 ((i : Int) + 1) = ((i + 1 : Nat) : Int) := by unfold wrap64; omega
theorem rd65 (l : List S65) (i : Nat) : rd_T65 l (i : Int) = l.getD i z65 := by simp [rd_T65]
theorem getD65 (l : List S65) (i : Nat) (h : i < l.length) : l.getD i z65 = l[i] := by rw [List.getD_eq_getElem?_getD, List.getElem?_eq_getElem h, Option.getD_some]
theorem bt_nat (s : ByteArray) (i : Nat) (h : i < s.size) : bt s (i : Int) = ((s[i]'h).toNat : Int) := by unfold bt; simp [h]

theorem letter_eq (c : Int) : sr03_letter.f c = some (decide (97 ≤ c) && decide (c ≤ 122)) := by
  unfold sr03_letter.f
  by_cases h : c ≥ 97
  · rw [if_pos h, decide_eq_true (show 97 ≤ c from h), Bool.true_and]
  · rw [if_neg h, decide_eq_false (show ¬ 97 ≤ c from h), Bool.false_and]
theorem digit_eq (c : Int) : sr03_digit.f c = some (decide (48 ≤ c) && decide (c ≤ 57)) := by
  unfold sr03_digit.f
  by_cases h : c ≥ 48
  · rw [if_pos h, decide_eq_true (show 48 ≤ c from h), Bool.true_and]
  · rw [if_neg h, decide_eq_false (show ¬ 48 ≤ c from h), Bool.false_and]
theorem ref_name_loop (s : ByteArray) (hs : s.size ≤ 9223372036854775807) : ∀ d i : Nat, i + d = s.size → (∀ q (h : q < s.size), q < i → nameByte ((s[q]'h).toNat : Int) = true) → Ev (fun k => sr03_Name.l0 k s i) (nameB s) := by
  intro d
  induction d with
  | zero =>
    intro i hi hq
    refine Ev.step (fun k => by rw [sr03_Name.l0]) ?_
    simp only [if_neg (show ¬ (i : Int) < (s.size : Int) by omega)]
    have e : allNames s = true := by
      unfold allNames
      rw [List.all_eq_true]
      intro c hc
      obtain ⟨q, hq', rfl⟩ := List.getElem_of_mem hc
      have hq2 : q < s.size := by simpa using hq'
      exact hq q hq2 (by omega)
    unfold nameB
    rw [e, Bool.and_true]
    by_cases h1 : (s.size : Int) ≥ 1
    · simp only [if_pos h1, decide_eq_true (show 1 ≤ s.size by omega), Bool.true_and]
      rw [show decide (s.size ≤ 16) = decide ((s.size : Int) ≤ 16) by rw [decide_eq_decide]; omega]
      exact Ev.now _
    · simp only [if_neg h1, decide_eq_false (show ¬ 1 ≤ s.size by omega), Bool.false_and]
      exact Ev.now _
  | succ d ih =>
    intro i hi hq
    have hlt : i < s.size := by omega
    refine Ev.step (fun k => by rw [sr03_Name.l0]) ?_
    simp only [if_pos (show (i : Int) < (s.size : Int) by omega), if_pos (show (0 : Int) ≤ (i : Int) by omega), bt_nat s i hlt, letter_eq, digit_eq, Option.bind_some, wrap_succ hlt hs]
    have next : nameByte ((s[i]'hlt).toNat : Int) = true → Ev (fun k => sr03_Name.l0 k s ((i + 1 : Nat) : Int)) (nameB s) := by
      intro hb
      refine ih (i + 1) (by omega) ?_
      intro q h hqi
      by_cases e : q = i
      · subst e; exact hb
      · exact hq q h (by omega)
    have no : nameByte ((s[i]'hlt).toNat : Int) = false → nameB s = false := by
      intro hb
      have e : allNames s = false := by
        unfold allNames
        rw [List.all_eq_false]
        exact ⟨s[i]'hlt, Array.mem_toList_iff.mpr (Array.getElem_mem _), by rw [hb]; decide⟩
      unfold nameB
      rw [e, Bool.and_false, Bool.and_false]
    generalize ((s[i]'hlt).toNat : Int) = c at *
    unfold nameByte at next no
    cases h1 : (decide (97 ≤ c) && decide (c ≤ 122)) with
    | true =>
      rw [h1] at next
      simp only [if_true]
      exact next rfl
    | false =>
      rw [h1] at next no
      simp only [Bool.false_eq_true, if_false]
      cases h2 : (decide (48 ≤ c) && decide (c ≤ 57)) with
      | true =>
        rw [h2] at next
        simp only [if_true]
        exact next rfl
      | false =>
        rw [h2] at next no
        simp only [Bool.false_eq_true, if_false]
        by_cases h3 : c = 45
        · simp only [if_pos h3]
          exact next (by rw [h3]; rfl)
        · simp only [if_neg h3]
          rw [no (by rw [beq_eq_false_iff_ne.mpr h3]; rfl)]
          exact Ev.now _
theorem ref_name_ev (s : ByteArray) (hs : s.size ≤ 9223372036854775807) : Ev (fun k => sr03_Name.f k s) (nameB s) := ref_name_loop s hs s.size 0 (by omega) (fun q _ h => by omega)

theorem ref_cur_loop (s : ByteArray) (h3 : s.size = 3) : ∀ d i : Nat, i + d = 3 → (∀ q (h : q < s.size), q < i → 65 ≤ ((s[q]'h).toNat : Int) ∧ ((s[q]'h).toNat : Int) ≤ 90) → Ev (fun k => sr01_Currency.l0 k s i) (curB s) := by
  intro d
  induction d with
  | zero =>
    intro i hi hq
    refine Ev.step (fun k => by rw [sr01_Currency.l0]) ?_
    simp only [if_neg (show ¬ (i : Int) < 3 by omega)]
    rw [(curB_iff s).mpr ⟨h3, fun q h => hq q h (by omega)⟩]
    exact Ev.now _
  | succ d ih =>
    intro i hi hq
    have hlt : i < s.size := by omega
    refine Ev.step (fun k => by rw [sr01_Currency.l0]) ?_
    simp only [if_pos (show (i : Int) < 3 by omega), if_pos (show (0 : Int) ≤ (i : Int) by omega), if_pos (show (i : Int) < (s.size : Int) by omega), bt_nat s i hlt, wrap_succ hlt (by omega)]
    have no : ¬ (65 ≤ ((s[i]'hlt).toNat : Int) ∧ ((s[i]'hlt).toNat : Int) ≤ 90) → curB s = false := by
      intro hn
      cases hc : curB s with
      | false => rfl
      | true => exact absurd (((curB_iff s).mp hc).2 i hlt) hn
    have next : 65 ≤ ((s[i]'hlt).toNat : Int) ∧ ((s[i]'hlt).toNat : Int) ≤ 90 → Ev (fun k => sr01_Currency.l0 k s ((i + 1 : Nat) : Int)) (curB s) := by
      intro hb
      refine ih (i + 1) (by omega) ?_
      intro q h hqi
      by_cases e : q = i
      · subst e; exact hb
      · exact hq q h (by omega)
    by_cases c1 : ((s[i]'hlt).toNat : Int) < 65
    · simp only [if_pos c1]
      rw [no (by omega)]
      exact Ev.now _
    · simp only [if_neg c1]
      by_cases c2 : ((s[i]'hlt).toNat : Int) > 90
      · simp only [if_pos c2]
        rw [no (by omega)]
        exact Ev.now _
      · simp only [if_neg c2]
        exact next (by omega)
theorem ref_cur_ev (s : ByteArray) : Ev (fun k => sr01_Currency.f k s) (curB s) := by
  unfold sr01_Currency.f
  by_cases h : (s.size : Int) = 3
  · simp only [if_pos h]
    exact ref_cur_loop s (by omega) 3 0 (by omega) (fun q _ h => by omega)
  · simp only [if_neg h]
    have : curB s = false := by unfold curB; rw [decide_eq_false (by omega), Bool.false_and]
    rw [this]
    exact Ev.now _
theorem money_may (s : ByteArray) : money_May.f s 0 = some (curB s) := by
  unfold money_May.f money_currency.f money_within.f
  cases curB s <;> simp

def findP (l : List S65) (a : ByteArray) : Int := match l.findIdx? (fun x => decide (x.f0 = a)) with | some i => (i : Int) | none => -1
theorem toList_eq {a b : ByteArray} : a.toList = b.toList ↔ a = b := by
  constructor
  · intro h
    rw [ByteArray.toList_eq, ByteArray.toList_eq] at h
    cases a; cases b; exact congrArg _ (Array.toList_inj.mp h)
  · intro h; rw [h]
theorem find_loop (l : List S65) (a : ByteArray) (hl : l.length ≤ 9223372036854775807) : ∀ d i : Nat, i + d = l.length → (∀ q, q < i → ¬ (l.getD q z65).f0 = a) → Ev (fun k => sr19_Find.l0 k l a i) (findP l a) := by
  intro d
  induction d with
  | zero =>
    intro i hi hq
    refine Ev.step (fun k => by rw [sr19_Find.l0]) ?_
    simp only [if_neg (show ¬ (i : Int) < (l.length : Int) by omega)]
    have e : findP l a = -1 := by
      unfold findP
      rw [List.findIdx?_eq_none_iff.mpr]
      intro x hx
      obtain ⟨q, hq', rfl⟩ := List.getElem_of_mem hx
      have := hq q (by omega)
      rw [getD65 l q hq'] at this
      exact decide_eq_false this
    rw [e]; exact Ev.now _
  | succ d ih =>
    intro i hi hq
    have hlt : i < l.length := by omega
    refine Ev.step (fun k => by rw [sr19_Find.l0]) ?_
    simp only [if_pos (show (i : Int) < (l.length : Int) by omega), if_pos (show (0 : Int) ≤ (i : Int) by omega), rd65, wrap_succ hlt hl, toList_eq]
    by_cases h : (l.getD i z65).f0 = a
    · simp only [if_pos h]
      have e : findP l a = (i : Int) := by
        unfold findP
        rw [show l.findIdx? (fun x => decide (x.f0 = a)) = some i from List.findIdx?_eq_some_iff_getElem.mpr ⟨hlt, by rw [← getD65 l i hlt]; exact decide_eq_true h, fun j hj => by rw [← getD65 l j (by omega)]; simpa using hq j hj⟩]
      rw [e]; exact Ev.now _
    · simp only [if_neg h]
      refine ih (i + 1) (by omega) ?_
      intro q hqi
      by_cases e : q = i
      · subst e; exact h
      · exact hq q (by omega)
theorem find_ev (l : List S65) (a : ByteArray) (hl : l.length ≤ 9223372036854775807) : Ev (fun k => sr19_Find.f k l a) (findP l a) := find_loop l a hl l.length 0 (by omega) (fun q h => by omega)
theorem findP_seen (l : List S65) (j : Nat) (a : ByteArray) : (findP (l.take j) a ≥ 0) ↔ seenIn l j a = true := by
  unfold findP seenIn
  cases h : (l.take j).findIdx? (fun x => decide (x.f0 = a)) with
  | none =>
    rw [List.findIdx?_eq_none_iff] at h
    constructor
    · intro q; simp at q
    · intro q
      obtain ⟨x, hx, hq⟩ := List.any_eq_true.mp q
      rw [h x hx] at hq; cases hq
  | some i =>
    obtain ⟨hi, h1, _⟩ := List.findIdx?_eq_some_iff_getElem.mp h
    constructor
    · intro _; exact List.any_eq_true.mpr ⟨_, List.getElem_mem hi, h1⟩
    · intro _; simp
def allOk (l : List S65) : Bool := (List.range l.length).all (lineOk l)
theorem allOk_no {l : List S65} {j : Nat} (hj : j < l.length) (h : lineOk l j = false) : allOk l = false := by
  unfold allOk
  rw [List.all_eq_false]; exact ⟨j, List.mem_range.mpr hj, by rw [h]; decide⟩
theorem lines_loop (l : List S65) (hl : l.length ≤ 9223372036854775807) (hn : ∀ x ∈ l, x.f0.size ≤ 9223372036854775807) (s0 s1 s2 s3 s4 s5 : ByteArray) (n6 : Int) :
    ∀ d i : Nat, i + d = l.length → (∀ q, q < i → lineOk l q = true) → Ev (fun k => sr19_May.l1 k i s0 s1 s2 s3 s4 s5 n6 l) (allOk l) := by
  intro d
  induction d with
  | zero =>
    intro i hi hq
    refine Ev.step (fun k => by rw [sr19_May.l1]) ?_
    simp only [if_neg (show ¬ (i : Int) < (l.length : Int) by omega)]
    have e : allOk l = true := by unfold allOk; rw [List.all_eq_true]; exact fun q h => hq q (by have := List.mem_range.mp h; omega)
    rw [e]; exact Ev.now _
  | succ d ih =>
    intro i hi hq
    have hlt : i < l.length := by omega
    have hsz : (l.getD i z65).f0.size ≤ 9223372036854775807 := by rw [getD65 l i hlt]; exact hn _ (List.getElem_mem hlt)
    refine Ev.step (fun k => by rw [sr19_May.l1]) ?_
    simp only [if_pos (show (i : Int) < (l.length : Int) by omega), if_pos (show (0 : Int) ≤ (i : Int) by omega), rd65, wrap_succ hlt hl]
    have no : lineOk l i = false → allOk l = false := allOk_no hlt
    have next : lineOk l i = true → Ev (fun k => sr19_May.l1 k ((i + 1 : Nat) : Int) s0 s1 s2 s3 s4 s5 n6 l) (allOk l) := by
      intro hb
      refine ih (i + 1) (by omega) ?_
      intro q hqi
      by_cases e : q = i
      · subst e; exact hb
      · exact hq q (by omega)
    unfold lineOk at no next
    rw [rd65] at no next
    refine Ev.bind (ref_name_ev _ hsz) ?_
    cases h1 : nameB (l.getD i z65).f0 with
    | false =>
      rw [h1] at no
      simp only [Bool.false_eq_true, if_false]
      rw [no rfl]; exact Ev.now _
    | true =>
      rw [h1] at no next
      simp only [if_true, if_pos (show (i : Int) ≤ (l.length : Int) by omega), Int.toNat_natCast]
      refine Ev.bind (find_ev (l.take i) _ (by rw [List.length_take]; omega)) ?_
      simp only [findP_seen]
      cases h2 : seenIn l i (l.getD i z65).f0 with
      | true =>
        rw [h2] at no
        simp only [if_true]
        rw [no rfl]; exact Ev.now _
      | false =>
        rw [h2] at no next
        simp only [Bool.false_eq_true, if_false]
        generalize (l.getD i z65).f1 = c at *
        generalize (l.getD i z65).f2 = p at *
        by_cases c1 : c < 1
        · simp only [if_pos c1]
          rw [decide_eq_false (show ¬ 1 ≤ c by omega)] at no
          rw [no (by simp)]; exact Ev.now _
        · simp only [if_neg c1]
          by_cases c2 : c > 1048576
          · simp only [if_pos c2]
            rw [decide_eq_false (show ¬ c ≤ 1048576 by omega)] at no
            rw [no (by simp)]; exact Ev.now _
          · simp only [if_neg c2]
            by_cases c3 : p < 0
            · simp only [if_pos c3]
              rw [decide_eq_true c3] at no
              rw [no (by simp)]; exact Ev.now _
            · simp only [if_neg c3]
              by_cases c4 : p > 1073741824
              · simp only [if_pos c4]
                rw [decide_eq_true (show 1073741824 < p from c4)] at no
                rw [no (by simp)]; exact Ev.now _
              · simp only [if_neg c4]
                refine next ?_
                rw [decide_eq_true (show 1 ≤ c by omega), decide_eq_true (show c ≤ 1048576 by omega), decide_eq_false c3, decide_eq_false (show ¬ 1073741824 < p by omega)]
                rfl

def restB (s1 s2 s3 : ByteArray) (n6 : Int) (l : List S65) : Bool := !(decide (s1.toList = s2.toList)) && (curB s3 && (decide (0 ≤ n6) && (decide (n6 ≤ 7) && linesB l)))
def mayB (s0 s1 s2 s3 s4 s5 : ByteArray) (n6 : Int) (l : List S65) : Bool := [s0, s1, s2, s4, s5].all nameB && restB s1 s2 s3 n6 l
theorem rdOf_nat (xs : List ByteArray) (i : Nat) (h : i < xs.length) : rdOf ByteArray.empty xs (i : Int) = xs[i] := by
  unfold rdOf
  rw [Int.toNat_natCast, List.getD_eq_getElem?_getD, List.getElem?_eq_getElem h, Option.getD_some]
theorem drop_all {α : Type} (p : α → Bool) (xs : List α) (i : Nat) (h : i < xs.length) : (xs.drop i).all p = (p xs[i] && (xs.drop (i + 1)).all p) := by
  rw [List.drop_eq_getElem_cons h, List.all_cons]
theorem ref_may_j1 (s0 s1 s2 s3 s4 s5 : ByteArray) (n6 : Int) (l : List S65) : Ev (fun k => sr19_May.j1 k true s0 s1 s2 s3 s4 s5 n6 l) false := by
  refine Ev.step (fun k => by rw [sr19_May.j1]) ?_
  simp only [if_true]; exact Ev.now _
theorem ref_may_loop (s0 s1 s2 s3 s4 s5 : ByteArray) (n6 : Int) (l : List S65) (hl : l.length ≤ 9223372036854775807) (hn : ∀ x ∈ l, x.f0.size ≤ 9223372036854775807) (xs : List ByteArray) (hx : xs.length ≤ 9223372036854775807) (hxs : ∀ x ∈ xs, x.size ≤ 9223372036854775807) :
    ∀ d i : Nat, i + d = xs.length → Ev (fun k => sr19_May.l0 k xs i s0 s1 s2 s3 s4 s5 n6 l) ((xs.drop i).all nameB && restB s1 s2 s3 n6 l) := by
  intro d
  induction d with
  | zero =>
    intro i hi
    refine Ev.step (fun k => by rw [sr19_May.l0]) ?_
    simp only [if_neg (show ¬ (i : Int) < (xs.length : Int) by omega)]
    rw [List.drop_eq_nil_of_le (by omega), List.all_nil, Bool.true_and]
    have J := ref_may_j1 s0 s1 s2 s3 s4 s5 n6 l
    unfold restB linesB
    by_cases c1 : s1.toList = s2.toList
    · simp only [if_pos c1, decide_eq_true c1, Bool.not_true, Bool.false_and]; exact J
    · simp only [if_neg c1, decide_eq_false c1, Bool.not_false, Bool.true_and]
      refine Ev.bind (ref_cur_ev s3) ?_
      cases curB s3 with
      | false => simp only [Bool.false_eq_true, if_false, Bool.false_and]; exact J
      | true =>
        simp only [if_true, Bool.true_and]
        by_cases c2 : n6 < 0
        · simp only [if_pos c2, decide_eq_false (show ¬ 0 ≤ n6 by omega), Bool.false_and]; exact J
        · simp only [if_neg c2, decide_eq_true (show 0 ≤ n6 by omega), Bool.true_and]
          by_cases c3 : n6 > 7
          · simp only [if_pos c3, decide_eq_false (show ¬ n6 ≤ 7 by omega), Bool.false_and]; exact J
          · simp only [if_neg c3, decide_eq_true (show n6 ≤ 7 by omega), Bool.true_and]
            by_cases c4 : (l.length : Int) < 1
            · simp only [if_pos c4, decide_eq_false (show ¬ 1 ≤ l.length by omega), Bool.false_and, Bool.and_false]; exact J
            · simp only [if_neg c4, decide_eq_true (show 1 ≤ l.length by omega), Bool.true_and]
              by_cases c5 : (l.length : Int) > 64
              · simp only [decide_eq_true c5, decide_eq_false (show ¬ l.length ≤ 64 by omega), Bool.and_false]; exact J
              · simp only [decide_eq_false c5, decide_eq_true (show l.length ≤ 64 by omega), Bool.and_true]
                refine Ev.step (fun k => by rw [sr19_May.j1]) ?_
                simp only [Bool.false_eq_true, if_false]
                exact lines_loop l hl hn s0 s1 s2 s3 s4 s5 n6 l.length 0 (by omega) (fun q h => by omega)
  | succ d ih =>
    intro i hi
    have hlt : i < xs.length := by omega
    refine Ev.step (fun k => by rw [sr19_May.l0]) ?_
    simp only [if_pos (show (i : Int) < (xs.length : Int) by omega), if_pos (show (0 : Int) ≤ (i : Int) by omega), rdOf_nat xs i hlt, wrap_succ hlt hx]
    rw [drop_all nameB xs i hlt]
    refine Ev.bind (ref_name_ev _ (hxs _ (List.getElem_mem hlt))) ?_
    cases nameB xs[i] with
    | false => simp only [Bool.false_eq_true, if_false, Bool.false_and]; exact Ev.now _
    | true => simp only [if_true, Bool.true_and]; exact ih (i + 1) (by omega)
theorem ref_may_ev (s0 s1 s2 s3 s4 s5 : ByteArray) (n6 : Int) (l : List S65) (hl : l.length ≤ 9223372036854775807) (hn : ∀ x ∈ l, x.f0.size ≤ 9223372036854775807) (h0 : s0.size ≤ 9223372036854775807) (h1 : s1.size ≤ 9223372036854775807) (h2 : s2.size ≤ 9223372036854775807) (h4 : s4.size ≤ 9223372036854775807) (h5 : s5.size ≤ 9223372036854775807) :
    Ev (fun k => sr19_May.f k s0 s1 s2 s3 s4 s5 n6 l) (mayB s0 s1 s2 s3 s4 s5 n6 l) := by
  have := ref_may_loop s0 s1 s2 s3 s4 s5 n6 l hl hn [s0, s1, s2, s4, s5] (by simp) (by simp [h0, h1, h2, h4, h5]) 5 0 (by simp)
  rw [List.drop_zero] at this
  exact this
theorem may_loop (s0 s1 s2 s3 s4 s5 : ByteArray) (n6 : Int) (l : List S65) (xs : List ByteArray) (hx : xs.length ≤ 9223372036854775807) :
    ∀ d i : Nat, i + d = xs.length → Ev (fun k => order_May.l0 k xs (xs.length : Int) i s0 s1 s2 s3 s4 s5 n6 l) ((xs.drop i).all nameB && restB s1 s2 s3 n6 l) := by
  intro d
  induction d with
  | zero =>
    intro i hi
    refine Ev.step (fun k => by rw [order_May.l0]) ?_
    simp only [if_neg (show ¬ (i : Int) < (xs.length : Int) by omega)]
    rw [List.drop_eq_nil_of_le (by omega), List.all_nil, Bool.true_and]
    unfold restB
    by_cases c1 : s1.toList = s2.toList
    · simp only [if_pos c1, decide_eq_true c1, Bool.not_true, Bool.false_and]; exact Ev.now _
    · simp only [if_neg c1, decide_eq_false c1, Bool.not_false, Bool.true_and, money_may, Option.bind_some]
      cases curB s3 with
      | false => simp only [Bool.false_eq_true, if_false, Bool.false_and]; exact Ev.now _
      | true =>
        simp only [if_true, Bool.true_and]
        by_cases c2 : n6 ≥ 0
        · simp only [if_pos c2, decide_eq_true (show 0 ≤ n6 by omega), Bool.true_and]
          by_cases c3 : n6 ≤ 7
          · simp only [if_pos c3, decide_eq_true c3, Bool.true_and, order_lines.f, Option.bind_some]; exact Ev.now _
          · simp only [if_neg c3, decide_eq_false c3, Bool.false_and]; exact Ev.now _
        · simp only [if_neg c2, decide_eq_false (show ¬ 0 ≤ n6 by omega), Bool.false_and]; exact Ev.now _
  | succ d ih =>
    intro i hi
    have hlt : i < xs.length := by omega
    refine Ev.step (fun k => by rw [order_May.l0]) ?_
    simp only [if_pos (show (i : Int) < (xs.length : Int) by omega), if_pos (show (0 : Int) ≤ (i : Int) by omega), rdOf_nat xs i hlt, wrap_succ hlt hx, mark_Name.f, Option.bind_some]
    rw [drop_all nameB xs i hlt]
    cases nameB xs[i] with
    | false => simp only [Bool.false_eq_true, if_false, Bool.false_and]; exact Ev.now _
    | true => simp only [if_true, Bool.true_and]; exact ih (i + 1) (by omega)
theorem may_ev (s0 s1 s2 s3 s4 s5 : ByteArray) (n6 : Int) (l : List S65) : Ev (fun k => order_May.f k s0 s1 s2 s3 s4 s5 n6 l) (mayB s0 s1 s2 s3 s4 s5 n6 l) := by
  unfold order_May.f
  simp only [Option.bind_some]
  have := may_loop s0 s1 s2 s3 s4 s5 n6 l [s0, s1, s2, s4, s5] (by simp) 5 0 (by simp)
  rw [List.drop_zero] at this
  exact this

end Go.Proofs.Ytlhaaccdiienbaa.X
