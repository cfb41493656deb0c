/- Plain laws of this claim: what the printed functions on calendars answer (no program in sight). -/
import Derived.Test.YtjagffhmdafnmaaX3
import Derived.Test.YtjagffhmdafnmaaEBetween
import Derived.IntWalk
namespace Go.Proofs.Ytjagffhmdafnmaa.X
open Go.RowKit Go.Proofs.YtjagffhmdafnmaaW.PrintWords Go.Proofs.YtjagffhmdafnmaaW.PrintLast Go.Proofs.YtjagffhmdafnmaaW.PrintMore

theorem rd_nat (l : List Int) (i : Nat) : rd l (i : Int) = l.getD i 0 := by simp [rd]
theorem wrap_id {x : Int} (h0 : -9223372036854775808 ≤ x) (h1 : x ≤ 9223372036854775807) : wrap64 x = x := by unfold wrap64; omega
theorem wrap_succ {i n : Nat} (h : i < n) (hn : n ≤ 9223372036854775807) : wrap64 ((i : Int) + 1) = ((i + 1 : Nat) : Int) := by unfold wrap64; omega

def okAt (l : List Int) (top : Int) (i : Nat) : Prop := 0 ≤ l.getD i 0 ∧ l.getD i 0 ≤ top ∧ (0 < i → l.getD (i - 1) 0 < l.getD i 0)
instance (l : List Int) (top : Int) (i : Nat) : Decidable (okAt l top i) := by unfold okAt; infer_instance
def Rises (l : List Int) (top : Int) : Prop := (∀ i, i < l.length → okAt l top i) ∧ l.length ≤ 4096
instance (l : List Int) (top : Int) : Decidable (Rises l top) := by unfold Rises; infer_instance

theorem rises_loop (l : List Int) (top : Int) (hl : l.length ≤ 9223372036854775807) : ∀ d i : Nat, i + d = l.length → (∀ j, j < i → okAt l top j) → Ev (fun k => day_rises.l0 k l top l l.length i) (decide (Rises l top)) := by
  intro d
  induction d with
  | zero =>
    intro i hi ho
    refine Ev.step (fun k => by rw [day_rises.l0]) ?_
    have e : decide (Rises l top) = decide ((l.length : Int) ≤ 4096) := by
      rw [decide_eq_decide]
      unfold Rises
      constructor
      · rintro ⟨_, h⟩; omega
      · intro h; exact ⟨fun i hi' => ho i (by omega), by omega⟩
    simp only [if_neg (show ¬ ((i : Int) < (l.length : Int)) by omega)]
    rw [e]
    exact Ev.now _
  | succ d ih =>
    intro i hi ho
    refine Ev.step (fun k => by rw [day_rises.l0]) ?_
    have hlt : i < l.length := by omega
    simp only [if_pos (show ((i : Int) < (l.length : Int)) by omega), if_pos (show (0 : Int) ≤ i by omega), rd_nat]
    have hno : ¬ okAt l top i → Ev (fun _ : Nat => some false) (decide (Rises l top)) := by
      intro h
      have e : decide (Rises l top) = false := by
        rw [decide_eq_false_iff_not]
        exact fun hr => h (hr.1 i hlt)
      rw [e]
      exact Ev.now _
    by_cases h1 : l.getD i 0 < 0
    · simp only [if_pos h1]
      exact hno (fun h => by have := h.1; omega)
    · simp only [if_neg h1]
      by_cases h2 : l.getD i 0 > top
      · simp only [if_pos h2]
        exact hno (fun h => by have := h.2.1; omega)
      · simp only [if_neg h2]
        have hw : wrap64 ((i : Int) + 1) = ((i + 1 : Nat) : Int) := wrap_succ hlt hl
        by_cases h3 : (i : Int) > 0
        · have hw2 : wrap64 ((i : Int) - 1) = ((i - 1 : Nat) : Int) := by unfold wrap64; omega
          simp only [if_pos h3, hw2, rd_nat]
          simp only [if_pos (show (0 : Int) ≤ ((i - 1 : Nat) : Int) by omega), if_pos (show ((i - 1 : Nat) : Int) < (l.length : Int) by omega)]
          by_cases h4 : l.getD (i - 1) 0 ≥ l.getD i 0
          · simp only [if_pos h4]
            exact hno (fun h => by have := h.2.2 (by omega); omega)
          · simp only [if_neg h4, hw]
            refine ih (i + 1) (by omega) ?_
            intro j hj
            by_cases e : j = i
            · subst e; exact ⟨by omega, by omega, fun _ => by omega⟩
            · exact ho j (by omega)
        · simp only [if_neg h3, hw]
          refine ih (i + 1) (by omega) ?_
          intro j hj
          have : i = 0 := by omega
          subst this
          obtain rfl : j = 0 := by omega
          exact ⟨by omega, by omega, fun h => by omega⟩
theorem rises_ev (l : List Int) (top : Int) (hl : l.length ≤ 9223372036854775807) : Ev (fun k => day_rises.f k l top) (decide (Rises l top)) := by
  unfold day_rises.f
  exact rises_loop l top hl l.length 0 (by omega) (fun j hj => by omega)

def May (r h : List Int) : Prop := Rises r 6 ∧ Rises h 1048576
instance (r h : List Int) : Decidable (May r h) := by unfold May; infer_instance
theorem may_ev (r h : List Int) (hr : r.length ≤ 9223372036854775807) (hh : h.length ≤ 9223372036854775807) : Ev (fun k => day_May.f k r h) (decide (May r h)) := by
  unfold day_May.f
  refine Ev.bind (rises_ev r 6 hr) ?_
  by_cases h1 : Rises r 6
  · simp only [h1, decide_true, if_true]
    refine Ev.bind (rises_ev h 1048576 hh) ?_
    have e : decide (May r h) = decide (Rises h 1048576) := by rw [decide_eq_decide]; unfold May; exact ⟨fun z => z.2, fun z => ⟨h1, z⟩⟩
    rw [e]
    exact Ev.now _
  · simp only [h1, decide_false]
    have e : decide (May r h) = false := by rw [decide_eq_false_iff_not]; exact fun z => h1 z.1
    rw [e]
    exact Ev.now _

/-! ### is a number in a list -/
theorem index_loop (l : List Int) (x : Int) (hl : l.length ≤ 9223372036854775807) : ∀ d i : Nat, i + d = l.length → (∀ j, j < i → l.getD j 0 ≠ x) → ∃ z : Int, Ev (fun k => slices_Index_int_int.l0 k l x l.length i) z ∧ (z ≥ 0 ↔ x ∈ l) := by
  intro d
  induction d with
  | zero =>
    intro i hi ho
    refine ⟨-1, ?_, ?_⟩
    · refine Ev.step (fun k => by rw [slices_Index_int_int.l0]) ?_
      simp only [if_neg (show ¬ ((i : Int) < (l.length : Int)) by omega)]
      exact Ev.now _
    · constructor
      · intro h; omega
      · intro h
        obtain ⟨j, hj, rfl⟩ := List.getElem_of_mem h
        exact absurd (by rw [List.getD_eq_getElem?_getD]; simp [hj]) (ho j (by omega))
  | succ d ih =>
    intro i hi ho
    have hlt : i < l.length := by omega
    by_cases hx : x = l.getD i 0
    · refine ⟨(i : Int), ?_, ?_⟩
      · refine Ev.step (fun k => by rw [slices_Index_int_int.l0]) ?_
        simp only [if_pos (show ((i : Int) < (l.length : Int)) by omega), if_pos (show (0 : Int) ≤ i by omega), rd_nat, if_pos hx]
        exact Ev.now _
      · constructor
        · intro _; rw [hx, List.getD_eq_getElem?_getD]; simp [hlt]
        · intro _; omega
    · obtain ⟨z, hz, hm⟩ := ih (i + 1) (by omega) (by
        intro j hj
        by_cases e : j = i
        · subst e; exact fun h => hx h.symm
        · exact ho j (by omega))
      refine ⟨z, ?_, hm⟩
      refine Ev.step (fun k => by rw [slices_Index_int_int.l0]) ?_
      simp only [if_pos (show ((i : Int) < (l.length : Int)) by omega), if_pos (show (0 : Int) ≤ i by omega), rd_nat, if_neg hx, wrap_succ hlt hl]
      exact hz
theorem contains_ev (l : List Int) (x : Int) (hl : l.length ≤ 9223372036854775807) : Ev (fun k => slices_Contains_int_int.f k l x) (decide (x ∈ l)) := by
  unfold slices_Contains_int_int.f slices_Index_int_int.f
  obtain ⟨z, hz, hm⟩ := index_loop l x hl l.length 0 (by omega) (fun j hj => by omega)
  refine Ev.bind hz ?_
  have e : decide (z ≥ 0) = decide (x ∈ l) := by rw [decide_eq_decide]; exact hm
  simp only [e]
  exact Ev.now _

/-! ### the search by halves -/
theorem rises_lt {l : List Int} {top : Int} (h : Rises l top) : ∀ d i : Nat, i + d + 1 < l.length → l.getD i 0 < l.getD (i + d + 1) 0 := by
  intro d
  induction d with
  | zero => intro i hi; exact (h.1 (i + 1) (by omega)).2.2 (by omega)
  | succ d ih =>
    intro i hi
    have a := ih i (by omega)
    have b := (h.1 (i + d + 1 + 1) (by omega)).2.2 (by omega)
    simp only [Nat.add_sub_cancel] at b
    have e : i + (d + 1) + 1 = i + d + 1 + 1 := by omega
    rw [e]
    omega
theorem rises_lt' {l : List Int} {top : Int} (h : Rises l top) {i j : Nat} (hij : i < j) (hj : j < l.length) : l.getD i 0 < l.getD j 0 := by
  have := rises_lt h (j - i - 1) i (by omega)
  have e : i + (j - i - 1) + 1 = j := by omega
  rwa [e] at this
theorem less_ev (a b : Int) : Ev (fun _ : Nat => cmp_Less_int.f a b) (decide (a < b)) := by
  have : cmp_Less_int.f a b = some (decide (a < b)) := by simp [cmp_Less_int.f, cmp_isNaN_int.f]
  simp only [this]
  exact Ev.now _
theorem less_eq (a b : Int) : cmp_Less_int.f a b = some (decide (a < b)) := by simp [cmp_Less_int.f, cmp_isNaN_int.f]
theorem nan_eq (a : Int) : slices_isNaN_int.f a = some false := by simp [slices_isNaN_int.f]
theorem search_loop (l : List Int) (top x : Int) (hr : Rises l top) (hl : l.length ≤ 9223372036854775807) : ∀ d i j : Nat, j - i ≤ d → i ≤ j → j ≤ l.length → (∀ q, q < i → l.getD q 0 < x) → (∀ q, j ≤ q → q < l.length → x ≤ l.getD q 0) →
    ∃ z : Int, Ev (fun k => slices_BinarySearch_int_int.l0 k l x l.length i j) (z, decide (x ∈ l)) := by
  intro d
  induction d with
  | zero =>
    intro i j hd hij hj hlo hhi
    obtain rfl : i = j := by omega
    by_cases hlt : i < l.length
    · have hm : x ∈ l ↔ l.getD i 0 = x := by
        constructor
        · intro h
          obtain ⟨q, hq, e⟩ := List.getElem_of_mem h
          have eq : l.getD q 0 = x := by rw [List.getD_eq_getElem?_getD]; simp [hq, e]
          by_cases h1 : q < i
          · have := hlo q h1; omega
          · by_cases h2 : q = i
            · subst h2; exact eq
            · have := rises_lt' hr (show i < q by omega) hq
              have := hhi i (Nat.le_refl _) hlt
              omega
        · intro h; rw [← h, List.getD_eq_getElem?_getD]; simp [hlt]
      by_cases he : l.getD i 0 = x
      · refine ⟨i, ?_⟩
        refine Ev.step (fun k => by rw [slices_BinarySearch_int_int.l0]) ?_
        simp only [if_neg (show ¬ ((i : Int) < (i : Int)) by omega), if_pos (show ((i : Int) < (l.length : Int)) by omega), if_pos (show (0 : Int) ≤ i by omega), rd_nat, if_pos he, decide_eq_true (hm.mpr he)]
        exact Ev.now _
      · refine ⟨i, ?_⟩
        refine Ev.step (fun k => by rw [slices_BinarySearch_int_int.l0]) ?_
        simp only [if_neg (show ¬ ((i : Int) < (i : Int)) by omega), if_pos (show ((i : Int) < (l.length : Int)) by omega), if_pos (show (0 : Int) ≤ i by omega), rd_nat, if_neg he, nan_eq, Option.bind_some, decide_eq_false (fun h => he (hm.mp h))]
        exact Ev.now _
    · refine ⟨i, ?_⟩
      have hm : ¬ x ∈ l := by
        intro h
        obtain ⟨q, hq, e⟩ := List.getElem_of_mem h
        have eq : l.getD q 0 = x := by rw [List.getD_eq_getElem?_getD]; simp [hq, e]
        have := hlo q (by omega)
        omega
      refine Ev.step (fun k => by rw [slices_BinarySearch_int_int.l0]) ?_
      simp only [if_neg (show ¬ ((i : Int) < (i : Int)) by omega), if_neg (show ¬ ((i : Int) < (l.length : Int)) by omega), decide_eq_false hm]
      exact Ev.now _
  | succ d ih =>
    intro i j hd hij hj hlo hhi
    by_cases hlt : i < j
    · have hl4 := hr.2
      have hmid : wrap64 ((IntKind.u64.wrap (wrap64 ((i : Int) + (j : Int)))) / 2) = (((i + j) / 2 : Nat) : Int) := by
        rw [wrap_id (x := (i : Int) + j) (by omega) (by omega), IntWalk.u64_in _ (by omega), wrap_id (by omega) (by omega)]
        omega
      have hm1 : (i + j) / 2 < j := by omega
      have hm0 : i ≤ (i + j) / 2 := by omega
      by_cases hc : l.getD ((i + j) / 2) 0 < x
      · obtain ⟨z, hz⟩ := ih ((i + j) / 2 + 1) j (by omega) (by omega) hj (by
          intro q hq
          by_cases e : q = (i + j) / 2
          · subst e; exact hc
          · have := rises_lt' hr (show q < (i + j) / 2 by omega) (by omega); omega) hhi
        refine ⟨z, ?_⟩
        refine Ev.step (fun k => by rw [slices_BinarySearch_int_int.l0]) ?_
        simp only [if_pos (show ((i : Int) < (j : Int)) by omega), hmid, if_pos (show (0 : Int) ≤ (((i + j) / 2 : Nat) : Int) by omega), if_pos (show (((i + j) / 2 : Nat) : Int) < (l.length : Int) by omega), rd_nat, less_eq, Option.bind_some, decide_eq_true hc, if_true, wrap_succ (show (i + j) / 2 < l.length by omega) hl]
        exact hz
      · obtain ⟨z, hz⟩ := ih i ((i + j) / 2) (by omega) (by omega) (by omega) hlo (by
          intro q h1 h2
          by_cases e : q = (i + j) / 2
          · subst e; omega
          · have := rises_lt' hr (show (i + j) / 2 < q by omega) h2; omega)
        refine ⟨z, ?_⟩
        refine Ev.step (fun k => by rw [slices_BinarySearch_int_int.l0]) ?_
        simp only [if_pos (show ((i : Int) < (j : Int)) by omega), hmid, if_pos (show (0 : Int) ≤ (((i + j) / 2 : Nat) : Int) by omega), if_pos (show (((i + j) / 2 : Nat) : Int) < (l.length : Int) by omega), rd_nat, less_eq, Option.bind_some, decide_eq_false hc]
        exact hz
    · exact ih i j (by omega) hij hj hlo hhi
theorem free_ev (r h : List Int) (top x : Int) (hr : Rises h top) (hl : h.length ≤ 9223372036854775807) : Ev (fun k => day_free.f k r h x) (decide (x ∈ h)) := by
  unfold day_free.f slices_BinarySearch_int_int.f
  obtain ⟨z, hz⟩ := search_loop h top x hr hl h.length 0 h.length (by omega) (by omega) (by omega) (fun q hq => by omega) (fun q h1 h2 => by omega)
  refine Ev.bind hz ?_
  exact Ev.now _

/-- Is a day worked on, by rows of days of rest and holidays? -/
def wk (r h : List Int) (d : Int) : Bool := !(decide (d % 7 ∈ r) || decide (d ∈ h))
theorem rests_ev (r h : List Int) (top d : Int) (hr : Rises h top) (hl : r.length ≤ 9223372036854775807) (hl2 : h.length ≤ 9223372036854775807) (hd : 0 ≤ d) : Ev (fun k => day_rests.f k r h d) (!wk r h d) := by
  unfold day_rests.f
  rw [Int.tmod_eq_emod_of_nonneg hd]
  refine Ev.bind (contains_ev r (d % 7) hl) ?_
  unfold wk
  by_cases h1 : d % 7 ∈ r
  · simp only [h1, decide_true, if_true, Bool.true_or, Bool.not_not]
    exact Ev.now _
  · simp only [h1, decide_false, Bool.false_or, Bool.not_not]
    exact Ev.bind (free_ev r h top d hr hl2) (Ev.now _)

/-! ### along the days -/
/-- The n-th day worked on, from d on, of f days at most. -/
def nth (wk : Int → Bool) : Nat → Int → Int → Int × Bool
  | 0, _, _ => (0, false)
  | f + 1, n, d => if wk d = true then (if 1 < n then nth wk f (n - 1) (d + 1) else (d, true)) else nth wk f n (d + 1)
theorem along_loop (r h : List Int) (top : Int) (hr : Rises h top) (hl : r.length ≤ 9223372036854775807) (hl2 : h.length ≤ 9223372036854775807) : ∀ (f : Nat) (n d : Int), 0 ≤ d → d + f = 1048577 → 1 ≤ n → n ≤ 1048576 → Ev (fun k => day_along.l0 k r h d n 1) (nth (wk r h) f n d) := by
  intro f
  induction f with
  | zero =>
    intro n d h0 h1 h2 h3
    refine Ev.step (fun k => by rw [day_along.l0]) ?_
    simp only [if_pos h0, if_neg (show ¬ d ≤ 1048576 by omega), nth]
    exact Ev.now _
  | succ f ih =>
    intro n d h0 h1 h2 h3
    refine Ev.step (fun k => by rw [day_along.l0]) ?_
    simp only [if_pos h0, if_pos (show d ≤ 1048576 by omega), nth]
    refine Ev.bind (rests_ev r h top d hr hl hl2 h0) ?_
    by_cases hw : wk r h d = true
    · simp only [hw, Bool.not_true, if_true, wrap_id (x := n - 1) (by omega) (by omega)]
      by_cases hn : 1 < n
      · simp only [if_pos hn, if_pos (show 0 < n - 1 by omega), wrap_id (x := d + 1) (by omega) (by omega)]
        exact ih (n - 1) (d + 1) (by omega) (by omega) (by omega) (by omega)
      · simp only [if_neg hn, if_neg (show ¬ 0 < n - 1 by omega)]
        exact Ev.now _
    · simp only [Bool.not_eq_true] at hw
      simp only [hw, Bool.not_false, if_true, if_pos (show 0 < n by omega), wrap_id (x := d + 1) (by omega) (by omega)]
      exact ih n (d + 1) (by omega) (by omega) (by omega) (by omega)

/-- Is a day worked on, by whatever calendar: by one that may not be each is. -/
def wkE (r h : List Int) : Int → Bool := if May r h then wk r h else wk [] []
theorem wk_nil (d : Int) : wk [] [] d = true := by simp [wk]
theorem rises_nil (top : Int) : Rises [] top := ⟨fun i hi => absurd hi (by simp), by simp⟩
theorem along_ev (r h : List Int) (hl : r.length ≤ 9223372036854775807) (hl2 : h.length ≤ 9223372036854775807) (f : Nat) (n d : Int) (h0 : 0 ≤ d) (h1 : d + f = 1048577) (h2 : 1 ≤ n) (h3 : n ≤ 1048576) : Ev (fun k => day_along.f k r h d n 1) (nth (wkE r h) f n d) := by
  unfold day_along.f
  refine Ev.bind (may_ev r h hl hl2) ?_
  unfold wkE
  by_cases hm : May r h
  · simp only [hm, decide_true, if_true]
    exact along_loop r h _ hm.2 hl hl2 f n d h0 h1 h2 h3
  · simp only [hm, decide_false]
    exact along_loop [] [] 0 (rises_nil 0) (by simp) (by simp) f n d h0 h1 h2 h3
/-- ... of what is no day there is none. -/
theorem along_no (r h : List Int) (hl : r.length ≤ 9223372036854775807) (hl2 : h.length ≤ 9223372036854775807) (n d s : Int) (h0 : d < 0 ∨ 1048576 < d) : Ev (fun k => day_along.f k r h d n s) (0, false) := by
  unfold day_along.f
  refine Ev.bind (may_ev r h hl hl2) ?_
  have key : ∀ a b : List Int, Ev (fun k => day_along.l0 k a b d n s) (0, false) := by
    intro a b
    refine Ev.step (fun k => by rw [day_along.l0]) ?_
    rcases h0 with h0 | h0
    · simp only [if_neg (show ¬ 0 ≤ d by omega)]
      exact Ev.now _
    · simp only [if_pos (show 0 ≤ d by omega), if_neg (show ¬ d ≤ 1048576 by omega)]
      exact Ev.now _
  by_cases hm : May r h
  · simp only [hm, decide_true, if_true]; exact key _ _
  · simp only [hm, decide_false]; exact key _ _

/-- The first day worked on from a day on. -/
def nextP (r h : List Int) (d : Int) : Int × Bool := if 0 ≤ d ∧ d ≤ 1048576 then nth (wkE r h) (1048577 - d).toNat 1 d else (0, false)
theorem next_ev (r h : List Int) (hl : r.length ≤ 9223372036854775807) (hl2 : h.length ≤ 9223372036854775807) (d : Int) : Ev (fun k => day_Next.f k r h d) (nextP r h d) := by
  unfold day_Next.f nextP
  by_cases hd : 0 ≤ d ∧ d ≤ 1048576
  · rw [if_pos hd]
    exact Ev.bind (along_ev r h hl hl2 (1048577 - d).toNat 1 d hd.1 (by omega) (by omega) (by omega)) (Ev.now _)
  · rw [if_neg hd]
    exact Ev.bind (along_no r h hl hl2 1 d 1 (by omega)) (Ev.now _)
/-- The n-th one behind a day. -/
def addP (r h : List Int) (d n : Int) : Int × Bool := if 0 ≤ d ∧ d ≤ 1048576 then nth (wkE r h) (1048576 - d).toNat n (d + 1) else (0, false)
theorem is_eq (d : Int) : day_is.f d = some (decide (0 ≤ d ∧ d ≤ 1048576)) := by
  unfold day_is.f
  by_cases h : d ≥ 0
  · rw [if_pos h]; congr 1; rw [decide_eq_decide]; omega
  · rw [if_neg h]; congr 1; symm; rw [decide_eq_false_iff_not]; omega
theorem add_ev (r h : List Int) (hl : r.length ≤ 9223372036854775807) (hl2 : h.length ≤ 9223372036854775807) (d n : Int) (h1 : 1 ≤ n) (h2 : n ≤ 1048576) : Ev (fun k => day_Add.f k r h d n) (addP r h d n) := by
  unfold day_Add.f addP
  simp only [is_eq, Option.bind_some]
  by_cases hd : 0 ≤ d ∧ d ≤ 1048576
  · simp only [hd, and_self, decide_true, if_true, if_neg (show ¬ n < -1048576 by omega)]
    refine Ev.step (fun k => by rw [day_Add.j0]) ?_
    simp only [decide_eq_false (show ¬ n > 1048576 by omega), if_neg (show ¬ n = 0 by omega), if_neg (show ¬ n < 0 by omega), wrap_id (x := d + 1) (by omega) (by omega)]
    by_cases he : d = 1048576
    · subst he
      exact Ev.bind (along_no r h hl hl2 n _ 1 (by omega)) (Ev.now _)
    · exact Ev.bind (along_ev r h hl hl2 (1048576 - d).toNat n (d + 1) (by omega) (by omega) h1 h2) (Ev.now _)
  · simp only [hd, decide_false, if_false]
    refine Ev.step (fun k => by rw [day_Add.j0]) ?_
    simp only [if_true]
    exact Ev.now _
theorem deadline_ev (r h : List Int) (hl : r.length ≤ 9223372036854775807) (hl2 : h.length ≤ 9223372036854775807) (d : Int) : Ev (fun k => notice_Deadline.f k r h d) (addP r h d 5) := by
  unfold notice_Deadline.f
  exact Ev.bind (add_ev r h hl hl2 d 5 (by omega) (by omega)) (Ev.now _)

/-! ### how many days are worked on -/
def cnt (wk : Int → Bool) : Nat → Int
  | 0 => 0
  | n + 1 => cnt wk n + (if wk n = true then 1 else 0)
/-- What the n-th one is: worked on, and there are n of them up to it. -/
theorem nth_spec (w : Int → Bool) : ∀ (f : Nat) (n : Int) (d : Nat), 1 ≤ n → (∃ e : Nat, nth w f n d = ((e : Int), true) ∧ d ≤ e ∧ e < d + f ∧ w e = true ∧ cnt w (e + 1) = cnt w d + n) ∨ (nth w f n d = (0, false) ∧ cnt w (d + f) < cnt w d + n) := by
  intro f
  induction f with
  | zero => intro n d hn; exact .inr ⟨rfl, by simp; omega⟩
  | succ f ih =>
    intro n d hn
    have hd : ((d : Int) + 1) = ((d + 1 : Nat) : Int) := rfl
    by_cases hw : w d = true
    · by_cases h1 : 1 < n
      · rcases ih (n - 1) (d + 1) (by omega) with ⟨e, he, a, b, c, z⟩ | ⟨he, z⟩
        · refine .inl ⟨e, by simp only [nth, if_pos hw, if_pos h1, hd]; exact he, by omega, by omega, c, ?_⟩
          rw [z]; simp only [cnt, if_pos hw]; omega
        · refine .inr ⟨by simp only [nth, if_pos hw, if_pos h1, hd]; exact he, ?_⟩
          have e : d + (f + 1) = d + 1 + f := by omega
          rw [e]; simp only [cnt, if_pos hw] at z; omega
      · refine .inl ⟨d, by simp only [nth, if_pos hw, if_neg h1], by omega, by omega, hw, ?_⟩
        simp only [cnt, if_pos hw]; omega
    · rcases ih n (d + 1) hn with ⟨e, he, a, b, c, z⟩ | ⟨he, z⟩
      · refine .inl ⟨e, by simp only [nth, if_neg hw, hd]; exact he, by omega, by omega, c, ?_⟩
        rw [z]; simp only [cnt, if_neg hw]; omega
      · refine .inr ⟨by simp only [nth, if_neg hw, hd]; exact he, ?_⟩
        have e : d + (f + 1) = d + 1 + f := by omega
        rw [e]; simp only [cnt, if_neg hw] at z; omega
theorem cnt_mono (w : Int → Bool) (a : Nat) : ∀ d : Nat, cnt w a ≤ cnt w (a + d) := by
  intro d
  induction d with
  | zero => simp
  | succ d ih => rw [← Nat.add_assoc]; simp only [cnt]; split <;> omega
theorem cnt_le (w : Int → Bool) : ∀ a : Nat, 0 ≤ cnt w a ∧ cnt w a ≤ a := by
  intro a
  induction a with
  | zero => simp [cnt]
  | succ a ih => simp only [cnt]; split <;> omega

/-- weekdays up to one that are no days of rest -/
def freeW (r : List Int) : Nat → Int
  | 0 => 0
  | m + 1 => freeW r m + (if (m : Int) ∈ r then 0 else 1)
/-- holidays ahead of a day that are no days of rest -/
def freeH (r : List Int) (d : Int) : List Int → Int
  | [] => 0
  | x :: h => (if x < d then (if x % 7 ∈ r then 0 else 1) else 0) + freeH r d h
theorem freeH_bd (r : List Int) (d : Int) : ∀ h : List Int, 0 ≤ freeH r d h ∧ freeH r d h ≤ h.length := by
  intro h
  induction h with
  | nil => simp [freeH]
  | cons x h ih => simp only [freeH, List.length_cons]; split <;> (try split) <;> omega
theorem freeW_bd (r : List Int) : ∀ m : Nat, 0 ≤ freeW r m ∧ freeW r m ≤ m := by
  intro m
  induction m with
  | zero => simp [freeW]
  | succ m ih => simp only [freeW]; split <;> omega
def aheadP (r h : List Int) (d : Nat) : Int := ((d / 7 : Nat) : Int) * (7 - r.length) + freeW r (d % 7) - freeH r d h
theorem rises_nodup {l : List Int} {top : Int} (h : Rises l top) : l.Nodup := by
  rw [List.nodup_iff_pairwise_ne, List.pairwise_iff_getElem]
  intro i j hi hj hij
  have := rises_lt' h hij hj
  rw [List.getD_eq_getElem?_getD, List.getD_eq_getElem?_getD] at this
  simp [hi, hj] at this
  omega
theorem rises_mem {l : List Int} {top : Int} (h : Rises l top) {x : Int} (hx : x ∈ l) : 0 ≤ x ∧ x ≤ top := by
  obtain ⟨j, hj, rfl⟩ := List.getElem_of_mem hx
  have := h.1 j hj
  unfold okAt at this
  rw [List.getD_eq_getElem?_getD] at this
  simp [hj] at this
  exact ⟨this.1, this.2.1⟩
theorem freeH_step (r : List Int) (d : Int) : ∀ h : List Int, h.Nodup → freeH r (d + 1) h = freeH r d h + (if d ∈ h then (if d % 7 ∈ r then 0 else 1) else 0) := by
  intro h
  induction h with
  | nil => intro _; simp [freeH]
  | cons x h ih =>
    intro hn
    rw [List.nodup_cons] at hn
    have := ih hn.2
    simp only [freeH, this]
    by_cases e : x = d
    · subst e
      simp only [if_pos (show x < x + 1 by omega), if_neg (show ¬ x < x by omega), if_neg hn.1, List.mem_cons_self, if_true]
      omega
    · have e1 : (x < d + 1) = (x < d) := by rw [eq_iff_iff]; omega
      have e2 : (d ∈ x :: h) = (d ∈ h) := by rw [eq_iff_iff, List.mem_cons]; exact ⟨fun z => z.resolve_left (fun q => e q.symm), fun z => .inr z⟩
      simp only [e1, e2]
      omega
def below (m : Int) : List Int → Int
  | [] => 0
  | x :: l => (if x < m then 1 else 0) + below m l
theorem below_step' (m : Int) : ∀ l : List Int, l.Nodup → below (m + 1) l = below m l + (if m ∈ l then 1 else 0) := by
  intro l
  induction l with
  | nil => intro _; simp [below]
  | cons x l ih =>
    intro hn
    rw [List.nodup_cons] at hn
    simp only [below, ih hn.2]
    by_cases e : x = m
    · subst e
      simp only [if_pos (show x < x + 1 by omega), if_neg (show ¬ x < x by omega), if_neg hn.1, List.mem_cons_self, if_true]
      omega
    · have e1 : (x < m + 1) = (x < m) := by rw [eq_iff_iff]; omega
      have e2 : (m ∈ x :: l) = (m ∈ l) := by rw [eq_iff_iff, List.mem_cons]; exact ⟨fun z => z.resolve_left (fun q => e q.symm), fun z => .inr z⟩
      simp only [e1, e2]
      omega
theorem below_none : ∀ (l : List Int), (∀ x ∈ l, 0 ≤ x) → below 0 l = 0 := by
  intro l
  induction l with
  | nil => intro _; rfl
  | cons x l ih =>
    intro h
    have := h x List.mem_cons_self
    simp only [below, if_neg (show ¬ x < 0 by omega), ih (fun y hy => h y (List.mem_cons_of_mem _ hy))]
    rfl
theorem below_all (m : Int) : ∀ (l : List Int), (∀ x ∈ l, x < m) → below m l = l.length := by
  intro l
  induction l with
  | nil => intro _; rfl
  | cons x l ih =>
    intro h
    simp only [below, if_pos (h x List.mem_cons_self), ih (fun y hy => h y (List.mem_cons_of_mem _ hy)), List.length_cons]
    omega
theorem freeW_below (r : List Int) (hn : r.Nodup) (h0 : ∀ x ∈ r, 0 ≤ x) : ∀ m : Nat, freeW r m = m - below m r := by
  intro m
  induction m with
  | zero => simp only [freeW]; have := below_none r h0; simp [this]
  | succ m ih =>
    have := below_step' m r hn
    simp only [freeW, ih]
    have e : ((m + 1 : Nat) : Int) = (m : Int) + 1 := rfl
    rw [e, this]
    split <;> omega
theorem freeW_week (r : List Int) (hr : Rises r 6) : freeW r 7 = 7 - r.length := by
  rw [freeW_below r (rises_nodup hr) (fun x hx => (rises_mem hr hx).1)]
  have := below_all 7 r (fun x hx => by have := (rises_mem hr hx).2; omega)
  show (7 : Int) - below 7 r = _
  rw [this]
theorem ahead_cnt (r h : List Int) (hm : May r h) : ∀ d : Nat, aheadP r h d = cnt (wk r h) d := by
  intro d
  induction d with
  | zero =>
    have hz : ∀ l : List Int, (∀ x ∈ l, 0 ≤ x) → freeH r 0 l = 0 := by
      intro l
      induction l with
      | nil => intro _; rfl
      | cons x l ih =>
        intro hh
        have := hh x List.mem_cons_self
        simp only [freeH, if_neg (show ¬ x < 0 by omega), ih (fun y hy => hh y (List.mem_cons_of_mem _ hy))]
        rfl
    have := hz h (fun x hx => (rises_mem hm.2 hx).1)
    unfold aheadP
    show ((0 / 7 : Nat) : Int) * _ + freeW r (0 % 7) - freeH r 0 h = 0
    rw [this]
    simp [freeW]
  | succ d ih =>
    have hs := freeH_step r d h (rises_nodup hm.2)
    have hw : wk r h d = true ↔ ¬ ((d : Int) % 7 ∈ r) ∧ ¬ (d : Int) ∈ h := by simp [wk]
    have e7 : ((d % 7 : Nat) : Int) = (d : Int) % 7 := by omega
    simp only [cnt, ← ih]
    unfold aheadP
    have ec : ((d + 1 : Nat) : Int) = (d : Int) + 1 := rfl
    rw [ec, hs]
    have hf : freeW r (d % 7 + 1) = freeW r (d % 7) + (if (d : Int) % 7 ∈ r then 0 else 1) := by simp only [freeW, e7]
    by_cases h6 : d % 7 = 6
    · have a : (d + 1) / 7 = d / 7 + 1 := by omega
      have b : (d + 1) % 7 = 0 := by omega
      have c := freeW_week r hm.1
      rw [h6] at hf
      have hf' : freeW r 7 = freeW r 6 + (if (d : Int) % 7 ∈ r then 0 else 1) := hf
      rw [a, b, h6]
      have e : ((d / 7 + 1 : Nat) : Int) * (7 - (r.length : Int)) = ((d / 7 : Nat) : Int) * (7 - (r.length : Int)) + (7 - (r.length : Int)) := by
        push_cast
        rw [Int.add_mul, Int.one_mul]
      rw [e, show freeW r 0 = 0 from rfl]
      generalize ((d / 7 : Nat) : Int) * (7 - (r.length : Int)) = Q
      by_cases h1 : (d : Int) % 7 ∈ r <;> by_cases h2 : (d : Int) ∈ h <;> simp only [h1, h2, if_true, if_false] at hf' ⊢ <;> simp only [hw, h1, h2, not_true, not_false_iff, true_and, false_and, and_self, if_true, if_false] <;> omega
    · have a : (d + 1) / 7 = d / 7 := by omega
      have b : (d + 1) % 7 = d % 7 + 1 := by omega
      rw [a, b, hf]
      generalize ((d / 7 : Nat) : Int) * (7 - (r.length : Int)) = Q
      by_cases h1 : (d : Int) % 7 ∈ r <;> by_cases h2 : (d : Int) ∈ h <;> simp only [h1, h2, if_true, if_false] <;> simp only [hw, h1, h2, not_true, not_false_iff, true_and, false_and, and_self, if_true, if_false] <;> omega

theorem ahead_l1 (r h : List Int) (hl : r.length ≤ 9223372036854775807) (hh : h.length ≤ 4096) (h0 : ∀ x ∈ h, 0 ≤ x) (d : Int) : ∀ (m i : Nat) (x5 : Int), i + m = h.length → -10000 - i ≤ x5 → x5 ≤ 100000000 → Ev (fun k => day_ahead.l1 k d x5 h h.length i r h) (x5 - freeH r d (h.drop i)) := by
  intro m
  induction m with
  | zero =>
    intro i x5 hi _ _
    refine Ev.step (fun k => by rw [day_ahead.l1]) ?_
    simp only [if_neg (show ¬ ((i : Int) < (h.length : Int)) by omega), List.drop_of_length_le (show h.length ≤ i by omega), freeH, Int.sub_zero]
    exact Ev.now _
  | succ m ih =>
    intro i x5 hi hb1 hb2
    have hlt : i < h.length := by omega
    have hg : h.getD i 0 = h[i] := by rw [List.getD_eq_getElem?_getD]; simp [hlt]
    have hp := h0 h[i] (List.getElem_mem hlt)
    refine Ev.step (fun k => by rw [day_ahead.l1]) ?_
    simp only [if_pos (show ((i : Int) < (h.length : Int)) by omega), if_pos (show (0 : Int) ≤ i by omega), rd_nat, hg, wrap_succ hlt (show h.length ≤ 9223372036854775807 by omega), Int.tmod_eq_emod_of_nonneg hp]
    rw [List.drop_eq_getElem_cons hlt]
    simp only [freeH]
    by_cases h1 : h[i] < d
    · simp only [if_pos h1]
      refine Ev.bind (contains_ev r _ hl) ?_
      by_cases h2 : h[i] % 7 ∈ r
      · simp only [h2, decide_true, if_true, Int.zero_add]
        exact ih (i + 1) x5 (by omega) (by omega) hb2
      · simp only [h2, decide_false, if_false, wrap_id (x := x5 - 1) (by omega) (by omega)]
        have := ih (i + 1) (x5 - 1) (by omega) (by omega) (by omega)
        have e : x5 - (1 + freeH r d (h.drop (i + 1))) = x5 - 1 - freeH r d (h.drop (i + 1)) := by omega
        rw [e]
        exact this
    · simp only [if_neg h1, Int.zero_add]
      exact ih (i + 1) x5 (by omega) (by omega) hb2
theorem ahead_l0 (r h : List Int) (hl : r.length ≤ 9223372036854775807) (hh : h.length ≤ 4096) (h0 : ∀ x ∈ h, 0 ≤ x) (d : Int) (e : Nat) (he : e ≤ 7) : ∀ (m i : Nat) (x5 : Int), i + m = e → -100 ≤ x5 → x5 ≤ 10000000 + i → Ev (fun k => day_ahead.l0 k d x5 e i r h) (x5 + (freeW r e - freeW r i) - freeH r d h) := by
  intro m
  induction m with
  | zero =>
    intro i x5 hi hb1 hb2
    obtain rfl : i = e := by omega
    refine Ev.step (fun k => by rw [day_ahead.l0]) ?_
    simp only [if_neg (show ¬ ((i : Int) < (i : Int)) by omega)]
    have := ahead_l1 r h hl hh h0 d h.length 0 x5 (by omega) (by omega) (by omega)
    rw [List.drop_zero] at this
    have e : x5 + (freeW r i - freeW r i) - freeH r d h = x5 - freeH r d h := by omega
    rw [e]
    exact this
  | succ m ih =>
    intro i x5 hi hb1 hb2
    refine Ev.step (fun k => by rw [day_ahead.l0]) ?_
    simp only [if_pos (show ((i : Int) < (e : Int)) by omega), wrap_succ (show i < e by omega) (show e ≤ 9223372036854775807 by omega)]
    refine Ev.bind (contains_ev r _ hl) ?_
    by_cases h2 : (i : Int) ∈ r
    · simp only [h2, decide_true, if_true]
      have := ih (i + 1) x5 (by omega) (by omega) (by omega)
      simp only [freeW, h2, if_true, Int.add_zero] at this
      exact this
    · simp only [h2, decide_false, wrap_id (x := x5 + 1) (by omega) (by omega)]
      have := ih (i + 1) (x5 + 1) (by omega) (by omega) (by omega)
      simp only [freeW, h2, if_false] at this
      have e' : x5 + (freeW r e - freeW r i) - freeH r d h = x5 + 1 + (freeW r e - (freeW r i + 1)) - freeH r d h := by omega
      rw [e']
      exact this
theorem ahead_ev (r h : List Int) (hm : May r h) (d : Nat) (hd : d ≤ 1048577) : Ev (fun k => day_ahead.f k r h d) (cnt (wk r h) d) := by
  have hrl : r.length ≤ 7 := by
    have := freeW_week r hm.1
    have := (freeW_bd r 7).1
    omega
  have hhl := hm.2.2
  rw [← ahead_cnt r h hm d]
  unfold day_ahead.f
  have e1 : Int.tmod (d : Int) 7 = ((d % 7 : Nat) : Int) := by rw [Int.tmod_eq_emod_of_nonneg (by omega)]; omega
  have e2 : wrap64 (Int.tdiv (d : Int) 7) = ((d / 7 : Nat) : Int) := by
    rw [Int.tdiv_eq_ediv_of_nonneg (by omega), wrap_id (by omega) (by omega)]; omega
  have e3 : wrap64 (7 - (r.length : Int)) = 7 - (r.length : Int) := wrap_id (by omega) (by omega)
  have hq : 0 ≤ ((d / 7 : Nat) : Int) * (7 - (r.length : Int)) := Int.mul_nonneg (by omega) (by omega)
  have hq2 : ((d / 7 : Nat) : Int) * (7 - (r.length : Int)) ≤ 149797 * 7 := by
    refine Int.mul_le_mul (by omega) (by omega) (by omega) (by omega)
  rw [e1, e2, e3, wrap_id (by omega) (by omega)]
  have := ahead_l0 r h (by omega) (by omega) (fun x hx => (rises_mem hm.2 hx).1) d (d % 7) (by omega) (d % 7) 0 (((d / 7 : Nat) : Int) * (7 - (r.length : Int))) (by omega) (by omega) (by omega)
  unfold aheadP
  rw [show freeW r 0 = 0 from rfl, Int.sub_zero] at this
  exact this
theorem may_nil : May [] [] := ⟨rises_nil _, rises_nil _⟩
/-- How many days are worked on, from a day on, up to another one. -/
def betweenP (r h : List Int) (a b : Int) : Int := if mn b 1048577 ≤ mx a 0 then 0 else cnt (wkE r h) (mn b 1048577).toNat - cnt (wkE r h) (mx a 0).toNat
theorem between_ev (r h : List Int) (hl : r.length ≤ 9223372036854775807) (hl2 : h.length ≤ 9223372036854775807) (a b : Int) : Ev (fun k => day_Between.f k r h a b) (betweenP r h a b) := by
  unfold day_Between.f betweenP
  by_cases hc : mn b 1048577 ≤ mx a 0
  · simp only [if_pos hc]; exact Ev.now _
  · simp only [if_neg hc]
    have ha : 0 ≤ mx a 0 := by unfold mx; split <;> omega
    have hb : mn b 1048577 ≤ 1048577 := by unfold mn; split <;> omega
    generalize hA : mx a 0 = A at *
    generalize hB : mn b 1048577 = B at *
    obtain ⟨A, rfl⟩ := Int.eq_ofNat_of_zero_le ha
    obtain ⟨B, rfl⟩ := Int.eq_ofNat_of_zero_le (show 0 ≤ B by omega)
    refine Ev.bind (may_ev r h hl hl2) ?_
    have key : ∀ x y : List Int, May x y → Ev (fun k => day_Between.l0 k x y A B) (cnt (wk x y) B - cnt (wk x y) A) := by
      intro x y hm
      unfold day_Between.l0
      refine Ev.bind (ahead_ev x y hm B (by omega)) (Ev.bind (ahead_ev x y hm A (by omega)) ?_)
      have := cnt_le (wk x y) A
      have := cnt_le (wk x y) B
      rw [show wrap64 (cnt (wk x y) B - cnt (wk x y) A) = cnt (wk x y) B - cnt (wk x y) A from wrap_id (by omega) (by omega)]
      exact Ev.now _
    unfold wkE
    by_cases hm : May r h
    · simp only [hm, decide_true, if_true, Int.toNat_natCast]
      exact key r h hm
    · simp only [hm, decide_false, if_false, Int.toNat_natCast]
      exact key [] [] may_nil
end Go.Proofs.Ytjagffhmdafnmaa.X
