/- Plain laws of this claim: who is late on a day is late on each later one. -/
import Derived.Test.YtlhaaccdiienbaaMFew
import Derived.Test.YtlhaaccdiienbaaX17
namespace Go.Proofs.Ytlhaaccdiienbaa.X
open Go.RowKit Go.Proofs.YtlhaaccdiienbaaW.PrintWords Go.Proofs.YtlhaaccdiienbaaW.PrintLast Go.Proofs.YtlhaaccdiienbaaW.PrintMore

theorem rdL (l : List Int) (i : Nat) : rd l (i : Int) = l.getD i 0 := by simp [rd]
theorem getDL (l : List Int) (i : Nat) (h : i < l.length) : l.getD i 0 = l[i] := by rw [List.getD_eq_getElem?_getD, List.getElem?_eq_getElem h, Option.getD_some]
theorem late_mem (a : Int) (l : List S42) (x : Int) : x ∈ lateP a l ↔ ∃ c ∈ l, c.f2 < a ∧ c.f1 = x := by
  unfold lateP
  rw [(rowP_spec _).2.1]
  simp [List.mem_map, List.mem_filter, and_assoc]
theorem late_lt (a : Int) (l : List S42) (i j : Nat) (hij : i < j) (hj : j < (lateP a l).length) : (lateP a l).getD i 0 < (lateP a l).getD j 0 := by
  rw [getDL _ i (by omega), getDL _ j hj]
  exact List.pairwise_iff_getElem.mp (rowP_spec _).1 i j (by unfold lateP at hj; omega) (by unfold lateP at hj; omega) hij
theorem late_len (a : Int) (l : List S42) : (lateP a l).length ≤ l.length := by
  unfold lateP
  refine Nat.le_trans (rowP_spec _).2.2 ?_
  rw [List.length_map]; exact List.length_filter_le _ _
section
variable (a b : Int) (l : List S42)
theorem late_l3 (i : Nat) (hi : i < l.length) (hl : l.length ≤ 21) (hy : Ev (fun k => supercargolaw19_OrderLate.l2 k a l (lateP a l) (wrap64 ((i : Int) + 1))) true) :
    ∀ (d q : Nat) (f : Bool), q + d = (lateP a l).length → ((∃ p, p < (lateP a l).length ∧ (lateP a l).getD p 0 = (l.getD i z42).f1) → f = true ∨ ∃ p, q ≤ p ∧ p < (lateP a l).length ∧ (lateP a l).getD p 0 = (l.getD i z42).f1) → Ev (fun k => supercargolaw19_OrderLate.l3 k a l (lateP a l) i f q) true := by
  have hA := late_len a l
  intro d
  induction d with
  | zero =>
    intro q f hq hf
    refine Ev.step (fun k => by rw [supercargolaw19_OrderLate.l3]) ?_
    simp only [if_neg (show ¬ (q : Int) < ((lateP a l).length : Int) by omega), if_pos (show (0 : Int) ≤ (i : Int) by omega), if_pos (show (i : Int) < (l.length : Int) by omega), rd42n]
    by_cases c : (l.getD i z42).f2 < a
    · simp only [if_pos c]
      have hm : (l.getD i z42).f1 ∈ lateP a l := (late_mem a l _).mpr ⟨l.getD i z42, by rw [List.getD_eq_getElem?_getD, List.getElem?_eq_getElem hi, Option.getD_some]; exact List.getElem_mem hi, c, rfl⟩
      obtain ⟨p, hp, he⟩ := List.getElem_of_mem hm
      rcases hf ⟨p, hp, by rw [getDL _ p hp]; exact he⟩ with h | ⟨p, h1, h2, _⟩
      · subst h; simp only [if_true]; exact hy
      · omega
    · simp only [if_neg c]; exact hy
  | succ d ih =>
    intro q f hq hf
    refine Ev.step (fun k => by rw [supercargolaw19_OrderLate.l3]) ?_
    simp only [if_pos (show (q : Int) < ((lateP a l).length : Int) by omega), if_pos (show (0 : Int) ≤ (i : Int) by omega), if_pos (show (0 : Int) ≤ (q : Int) by omega), if_pos (show (i : Int) < (l.length : Int) by omega), rd42n, rdL, show wrap64 ((q : Int) + 1) = ((q + 1 : Nat) : Int) by unfold wrap64; omega]
    cases f with
    | true => simp only [if_true]; exact ih (q + 1) true (by omega) (fun _ => .inl rfl)
    | false =>
      simp only [Bool.false_eq_true, if_false]
      refine ih (q + 1) _ (by omega) ?_
      intro h
      rcases hf h with h | ⟨p, h1, h2, h3⟩
      · cases h
      · by_cases e : p = q
        · subst e; exact .inl (by rw [h3]; exact beq_self_eq_true _)
        · exact .inr ⟨p, by omega, h2, h3⟩
theorem late_l2 (hl : l.length ≤ 21) : ∀ d i : Nat, i + d = l.length → Ev (fun k => supercargolaw19_OrderLate.l2 k a l (lateP a l) i) true := by
  intro d
  induction d with
  | zero =>
    intro i hi
    refine Ev.step (fun k => by rw [supercargolaw19_OrderLate.l2]) ?_
    simp only [if_neg (show ¬ (i : Int) < (l.length : Int) by omega)]
    exact Ev.now _
  | succ d ih =>
    intro i hi
    refine Ev.step (fun k => by rw [supercargolaw19_OrderLate.l2]) ?_
    simp only [if_pos (show (i : Int) < (l.length : Int) by omega)]
    refine late_l3 a l i (by omega) hl ?_ (lateP a l).length 0 false (by omega) (fun ⟨p, h1, h2⟩ => .inr ⟨p, by omega, h1, h2⟩)
    rw [show wrap64 ((i : Int) + 1) = ((i + 1 : Nat) : Int) by unfold wrap64; omega]
    exact ih (i + 1) (by omega)
theorem late_l1 (hl : l.length ≤ 21) (i : Nat) (hi : i < (lateP a l).length) (hm : (lateP a l).getD i 0 ∈ lateP b l)
    (hy : ∀ j : Nat, (∀ q, q < j → (lateP b l).getD q 0 < (lateP a l).getD i 0) → Ev (fun k => supercargolaw19_OrderLate.l0 k a l (lateP a l) (lateP b l) j (wrap64 ((i : Int) + 1))) true) :
    ∀ d j : Nat, j + d = (lateP b l).length → (∀ q, q < j → (lateP b l).getD q 0 < (lateP a l).getD i 0) → Ev (fun k => supercargolaw19_OrderLate.l1 k a l (lateP a l) (lateP b l) j i) true := by
  have hA := late_len a l
  have hB := late_len b l
  obtain ⟨p, hp, he⟩ := List.getElem_of_mem hm
  have he' : (lateP b l).getD p 0 = (lateP a l).getD i 0 := by rw [getDL _ p hp]; exact he
  intro d
  induction d with
  | zero =>
    intro j hj hq
    have := hq p (by omega)
    omega
  | succ d ih =>
    intro j hj hq
    have hjp : j ≤ p := by
      by_cases c : p < j
      · have := hq p c; omega
      · omega
    refine Ev.step (fun k => by rw [supercargolaw19_OrderLate.l1]) ?_
    simp only [if_pos (show (j : Int) < ((lateP b l).length : Int) by omega), if_pos (show (0 : Int) ≤ (j : Int) by omega), if_pos (show (0 : Int) ≤ (i : Int) by omega), if_pos (show (i : Int) < ((lateP a l).length : Int) by omega), rdL, if_neg (show ¬ (j : Int) = ((lateP b l).length : Int) by omega)]
    by_cases c : (lateP b l).getD j 0 < (lateP a l).getD i 0
    · simp only [if_pos c]
      rw [show wrap64 ((j : Int) + 1) = ((j + 1 : Nat) : Int) by unfold wrap64; omega]
      refine ih (j + 1) (by omega) ?_
      intro q hqj
      by_cases e : q = j
      · subst e; exact c
      · exact hq q (by omega)
    · have e : (lateP b l).getD j 0 = (lateP a l).getD i 0 := by
        by_cases e : j = p
        · subst e; exact he'
        · have := late_lt b l j p (by omega) hp
          omega
      simp only [if_neg c, if_pos e]
      exact hy j hq
theorem late_l0 (hl : l.length ≤ 21) (hab : ∀ x, x ∈ lateP a l → x ∈ lateP b l) :
    ∀ d i j : Nat, i + d = (lateP a l).length → (∀ q, q < j → i < (lateP a l).length → (lateP b l).getD q 0 < (lateP a l).getD i 0) → j ≤ (lateP b l).length → Ev (fun k => supercargolaw19_OrderLate.l0 k a l (lateP a l) (lateP b l) j i) true := by
  have hA := late_len a l
  intro d
  induction d with
  | zero =>
    intro i j hi hq hj
    refine Ev.step (fun k => by rw [supercargolaw19_OrderLate.l0]) ?_
    simp only [if_neg (show ¬ (i : Int) < ((lateP a l).length : Int) by omega)]
    exact late_l2 a l hl l.length 0 (by omega)
  | succ d ih =>
    intro i j hi hq hj
    have hlt : i < (lateP a l).length := by omega
    refine Ev.step (fun k => by rw [supercargolaw19_OrderLate.l0]) ?_
    simp only [if_pos (show (i : Int) < ((lateP a l).length : Int) by omega)]
    have hm : (lateP a l).getD i 0 ∈ lateP b l := hab _ (by rw [getDL _ i hlt]; exact List.getElem_mem hlt)
    refine late_l1 a b l hl i hlt hm ?_ ((lateP b l).length - j) j (by omega) (fun q h => hq q h hlt)
    intro j' hq'
    rw [show wrap64 ((i : Int) + 1) = ((i + 1 : Nat) : Int) by unfold wrap64; omega]
    have hj' : j' ≤ (lateP b l).length := by
      obtain ⟨p, hp, he⟩ := List.getElem_of_mem hm
      by_cases c : p < j'
      · have := hq' p c
        rw [getDL _ p hp, he] at this
        omega
      · omega
    refine ih (i + 1) j' (by omega) ?_ hj'
    intro q h1 h2
    have := hq' q h1
    have := late_lt a l i (i + 1) (by omega) h2
    omega
end
theorem late_val (a : Int) (l : List S42) (hl : l.length ≤ 21) : order_Late.f a l = some (lateP a l) := by
  unfold order_Late.f
  rw [if_pos (by omega)]
theorem orderLate_ev (a0 a1 : Int) (l : List S42) : Ev (fun k => supercargolaw19_OrderLate.f k a0 a1 l) true := by
  unfold supercargolaw19_OrderLate.f
  refine Ev.bind awake_ev ?_
  simp only [if_true]
  have J1 : Ev (fun k => supercargolaw19_OrderLate.j0 k a0 a1 l true) true := by
    refine Ev.step (fun k => by rw [supercargolaw19_OrderLate.j0]) ?_
    simp only [if_true]; exact Ev.now _
  obtain ⟨b, hb, hB⟩ := few_ev (⟨#[]⟩ : ByteArray) (⟨#[]⟩ : ByteArray) (⟨#[]⟩ : ByteArray) (⟨#[]⟩ : ByteArray) (⟨#[]⟩ : ByteArray) (⟨#[]⟩ : ByteArray) 0 [] l
  refine Ev.bind hb ?_
  cases b with
  | false => simp only [Bool.false_eq_true, if_false]; exact J1
  | true =>
    have hl := (hB rfl).2.2.1
    simp only [if_true]
    by_cases c1 : a1 < 0
    · simp only [if_pos c1]; exact J1
    · simp only [if_neg c1]
      by_cases c2 : a1 > 1073741824
      · simp only [if_pos c2]; exact J1
      · simp only [if_neg c2]
        by_cases c3 : a0 < 0
        · simp only [if_pos c3]; exact J1
        · simp only [if_neg c3]
          by_cases c4 : a0 > 1073741824
          · simp only [decide_eq_true c4]; exact J1
          · simp only [decide_eq_false c4]
            refine Ev.step (fun k => by rw [supercargolaw19_OrderLate.j0]) ?_
            simp only [Bool.false_eq_true, if_false, late_val _ l hl, Option.bind_some]
            rw [wrap_id (by omega) (by omega)]
            refine late_l0 a0 (a0 + a1) l hl ?_ (lateP a0 l).length 0 0 (by omega) (fun q h => by omega) (by omega)
            intro x hx
            rw [late_mem] at hx ⊢
            obtain ⟨c, h1, h2, h3⟩ := hx
            exact ⟨c, h1, by omega, h3⟩
end Go.Proofs.Ytlhaaccdiienbaa.X
