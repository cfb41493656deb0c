import Derived.Test.YtlhaaccdiienbaaMCutB
import Derived.Test.YtlhaaccdiienbaaMFew
import Derived.Test.YtlhaaccdiienbaaX16
namespace Go.Proofs.Ytlhaaccdiienbaa.X
open Go.RowKit Go.Proofs.YtlhaaccdiienbaaW.PrintWords Go.Proofs.YtlhaaccdiienbaaW.PrintLast Go.Proofs.YtlhaaccdiienbaaW.PrintMore

def lotsTo (l : List S65) (p : List Int) : Nat → List S67
  | 0 => []
  | n + 1 => lotsTo l p n ++ (if p.getD n 0 > 0 then [⟨(l.getD n z65).f0, p.getD n 0⟩] else [])
def cutTo (s0 : ByteArray) (l : List S65) (l1 : List Int) (l2 : List (List Int)) : Nat → List S42
  | 0 => []
  | n + 1 => cutTo s0 l l1 l2 n ++ [⟨s0, ((n + 1 : Nat) : Int), l1.getD n 0, lotsTo l (l2.getD n []) (l2.getD n []).length⟩]
theorem cutTo_succ (s0 : ByteArray) (l : List S65) (l1 : List Int) (l2 : List (List Int)) (n : Nat) : cutTo s0 l l1 l2 (n + 1) = cutTo s0 l l1 l2 n ++ [⟨s0, ((n + 1 : Nat) : Int), l1.getD n 0, lotsTo l (l2.getD n []) (l2.getD n []).length⟩] := rfl
theorem lotsTo_len (l : List S65) (p : List Int) : ∀ n, (lotsTo l p n).length ≤ n
  | 0 => Nat.le_refl _
  | n + 1 => by
    have := lotsTo_len l p n
    unfold lotsTo
    rw [List.length_append]
    split <;> simp <;> omega
theorem cutTo_len (s0 : ByteArray) (l : List S65) (l1 : List Int) (l2 : List (List Int)) : ∀ n, (cutTo s0 l l1 l2 n).length = n
  | 0 => rfl
  | n + 1 => by unfold cutTo; rw [List.length_append, cutTo_len s0 l l1 l2 n]; rfl
theorem cutTo_lots (s0 : ByteArray) (l : List S65) (l1 : List Int) (l2 : List (List Int)) (m : Nat) (h : ∀ p ∈ l2, p.length ≤ m) : ∀ n, n ≤ l2.length → ∀ c ∈ cutTo s0 l l1 l2 n, c.f3.length ≤ m
  | 0 => fun _ c hc => by simp [cutTo] at hc
  | n + 1 => fun hn c hc => by
    unfold cutTo at hc
    rcases List.mem_append.mp hc with hc | hc
    · exact cutTo_lots s0 l l1 l2 m h n (by omega) c hc
    · rw [List.mem_singleton] at hc
      subst hc
      refine Nat.le_trans (lotsTo_len _ _ _) ?_
      rw [getD5 l2 n (by omega)]
      exact h _ (List.getElem_mem (by omega))

section
variable (s0 s1 s2 s3 s4 s5 : ByteArray) (n6 : Int) (l : List S65) (l1 : List Int) (l2 : List (List Int))
theorem cut_l1 (hl : l.length ≤ 64) (acc : List S42) (hacc : acc.length ≤ 64) (i : Nat) (p : List Int) (hp : p.length = l.length) (x d : Int) (R : (List S42) × Int)
    (hy : Ev (fun k => order_Cut.l0 k (acc ++ [⟨s0, x, d, lotsTo l p p.length⟩]) l2 (l2.length : Int) (wrap64 ((i : Int) + 1)) s0 s1 s2 s3 s4 s5 n6 l l1) R) :
    ∀ e j : Nat, j + e = p.length → Ev (fun k => order_Cut.l1 k acc l2 (l2.length : Int) i p (p.length : Int) j s0 s1 s2 s3 s4 s5 n6 l l1 s0 x d (lotsTo l p j)) R := by
  intro e
  induction e with
  | zero =>
    intro j hj
    obtain rfl : j = p.length := by omega
    refine Ev.step (fun k => by rw [order_Cut.l1]) ?_
    simp only [if_neg (show ¬ (p.length : Int) < (p.length : Int) by omega), if_pos (show acc.length < 2513169434916 by omega)]
    exact hy
  | succ e ih =>
    intro j hj
    have hlen := lotsTo_len l p j
    have hs := ih (j + 1) (by omega)
    unfold lotsTo at hs
    refine Ev.step (fun k => by rw [order_Cut.l1]) ?_
    simp only [if_pos (show (j : Int) < (p.length : Int) by omega), if_pos (show (0 : Int) ≤ (j : Int) by omega), rdN, rd65, if_pos (show (j : Int) < (l.length : Int) by omega), if_pos (show (lotsTo l p j).length < 5864062014805 by omega), wrap_succ (show j < p.length by omega) (by omega)]
    by_cases c : p.getD j 0 > 0
    · simp only [if_pos c] at hs ⊢; exact hs
    · simp only [if_neg c, List.append_nil] at hs ⊢; exact hs
theorem cut_l0 (hl : l.length ≤ 64) (h2 : l2.length ≤ 64) (h12 : l2.length = l1.length) (hp : ∀ p ∈ l2, p.length = l.length) :
    ∀ e i : Nat, i + e = l2.length → Ev (fun k => order_Cut.l0 k (cutTo s0 l l1 l2 i) l2 (l2.length : Int) i s0 s1 s2 s3 s4 s5 n6 l l1) (cutTo s0 l l1 l2 l2.length, 0) := by
  intro e
  induction e with
  | zero =>
    intro i hi
    obtain rfl : i = l2.length := by omega
    refine Ev.step (fun k => by rw [order_Cut.l0]) ?_
    simp only [if_neg (show ¬ (l2.length : Int) < (l2.length : Int) by omega)]
    exact Ev.now _
  | succ e ih =>
    intro i hi
    have hlt : i < l2.length := by omega
    refine Ev.step (fun k => by rw [order_Cut.l0]) ?_
    simp only [if_pos (show (i : Int) < (l2.length : Int) by omega), if_pos (show (0 : Int) ≤ (i : Int) by omega), if_pos (show (i : Int) < (l1.length : Int) by omega), rd5, rdN, wrap_succ hlt (by omega)]
    refine cut_l1 s0 s1 s2 s3 s4 s5 n6 l l1 l2 hl _ (by rw [cutTo_len]; omega) i (l2.getD i []) (by rw [getD5 l2 i hlt]; exact hp _ (List.getElem_mem hlt)) _ _ _ ?_ (l2.getD i []).length 0 (by omega)
    have := ih (i + 1) (by omega)
    rw [cutTo_succ] at this
    rw [wrap_succ hlt (by omega)]
    exact this
theorem ref_cut_l1 (hl : l.length ≤ 64) (acc : List S42) (hacc : acc.length ≤ 64) (i : Nat) (hi : i < l2.length) (hp : (l2.getD i []).length = l.length) (x d : Int) (R : (List S42) × Int)
    (hy : Ev (fun k => sr19_Cut.l0 k l1 l2 (acc ++ [⟨s0, x, d, lotsTo l (l2.getD i []) (l2.getD i []).length⟩]) (wrap64 ((i : Int) + 1)) s0 s1 s2 s3 s4 s5 n6 l) R) :
    ∀ e j : Nat, j + e = (l2.getD i []).length → Ev (fun k => sr19_Cut.l1 k l1 l2 acc i j s0 s1 s2 s3 s4 s5 n6 l s0 x d (lotsTo l (l2.getD i []) j)) R := by
  intro e
  induction e with
  | zero =>
    intro j hj
    obtain rfl : j = (l2.getD i []).length := by omega
    refine Ev.step (fun k => by rw [sr19_Cut.l1]) ?_
    simp only [if_pos (show (0 : Int) ≤ (i : Int) by omega), if_pos (show (i : Int) < (l2.length : Int) by omega), rd5, if_neg (show ¬ ((l2.getD i []).length : Int) < ((l2.getD i []).length : Int) by omega), if_pos (show acc.length < 2513169434916 by omega)]
    exact hy
  | succ e ih =>
    intro j hj
    have hlen := lotsTo_len l (l2.getD i []) j
    have hs := ih (j + 1) (by omega)
    unfold lotsTo at hs
    refine Ev.step (fun k => by rw [sr19_Cut.l1]) ?_
    simp only [if_pos (show (0 : Int) ≤ (i : Int) by omega), if_pos (show (i : Int) < (l2.length : Int) by omega), rd5, if_pos (show (j : Int) < ((l2.getD i []).length : Int) by omega), if_pos (show (0 : Int) ≤ (j : Int) by omega), rdN, rd65, if_pos (show (j : Int) < (l.length : Int) by omega), if_pos (show (lotsTo l (l2.getD i []) j).length < 5864062014805 by omega), wrap_succ (show j < (l2.getD i []).length by omega) (by omega)]
    by_cases c : (l2.getD i []).getD j 0 > 0
    · simp only [if_pos c] at hs ⊢; exact hs
    · simp only [if_neg c, List.append_nil] at hs ⊢; exact hs
theorem ref_cut_l0 (hl : l.length ≤ 64) (h2 : l2.length ≤ 64) (h12 : l2.length = l1.length) (hp : ∀ p ∈ l2, p.length = l.length) :
    ∀ e i : Nat, i + e = l2.length → Ev (fun k => sr19_Cut.l0 k l1 l2 (cutTo s0 l l1 l2 i) i s0 s1 s2 s3 s4 s5 n6 l) (cutTo s0 l l1 l2 l2.length, 0) := by
  intro e
  induction e with
  | zero =>
    intro i hi
    obtain rfl : i = l2.length := by omega
    refine Ev.step (fun k => by rw [sr19_Cut.l0]) ?_
    simp only [if_neg (show ¬ (l2.length : Int) < (l2.length : Int) by omega)]
    exact Ev.now _
  | succ e ih =>
    intro i hi
    have hlt : i < l2.length := by omega
    refine Ev.step (fun k => by rw [sr19_Cut.l0]) ?_
    simp only [if_pos (show (i : Int) < (l2.length : Int) by omega), if_pos (show (0 : Int) ≤ (i : Int) by omega), if_pos (show (i : Int) < (l1.length : Int) by omega), rdN, wrap_succ hlt (by omega)]
    refine ref_cut_l1 s0 s1 s2 s3 s4 s5 n6 l l1 l2 hl _ (by rw [cutTo_len]; omega) i hlt (by rw [getD5 l2 i hlt]; exact hp _ (List.getElem_mem hlt)) _ _ _ ?_ (l2.getD i []).length 0 (by omega)
    have := ih (i + 1) (by omega)
    rw [cutTo_succ] at this
    rw [wrap_succ hlt (by omega)]
    exact this

def cutP (s0 : ByteArray) (m : Bool) (l : List S65) (l1 : List Int) (l2 : List (List Int)) : (List S42) × Int :=
  if askP m l l1 l2 = 0 then (cutTo s0 l l1 l2 l2.length, 0) else ([], askP m l l1 l2)
theorem ask_zero {m : Bool} {l : List S65} {l1 : List Int} {l2 : List (List Int)} (h : askP m l l1 l2 = 0) : m = true ∧ l2.length = l1.length ∧ 1 ≤ l2.length ∧ l2.length ≤ 64 ∧ l1.any notDay = false ∧ (∀ p ∈ l2, p.length = l.length) ∧ sortedB l1 = true ∧ l2.any noneIn = false ∧ wholeB l l2 = true ∧ l2.any (badPart l.length) = false := by
  unfold askP at h
  by_cases c1 : badShape m l1 l2 = true
  · rw [if_pos c1] at h; cases h
  · rw [if_neg c1] at h
    by_cases c2 : l1.any notDay = true
    · rw [if_pos c2] at h; cases h
    · rw [if_neg c2] at h
      by_cases c3 : l2.any (badPart l.length) = true
      · rw [if_pos c3] at h; cases h
      · rw [if_neg c3] at h
        by_cases c4 : sortedB l1 = true
        · rw [if_pos c4] at h
          by_cases c5 : l2.any noneIn = true
          · rw [if_pos c5] at h; cases h
          · rw [if_neg c5] at h
            by_cases c6 : wholeB l l2 = true
            · have e3 := Bool.not_eq_true _ ▸ c3
              have e1 := Bool.not_eq_true _ ▸ c1
              unfold badShape at e1
              simp at e1
              exact ⟨e1.1, e1.2.1, Nat.one_le_iff_ne_zero.mpr (fun h => e1.2.2.1 (List.length_eq_zero_iff.mp h)), e1.2.2.2, Bool.not_eq_true _ ▸ c2, parts_len e3, c4, Bool.not_eq_true _ ▸ c5, c6, e3⟩
            · rw [if_neg c6] at h; cases h
        · rw [if_neg c4] at h; cases h
theorem cut_ev (hl : l.length ≤ 9223372036854775807) (h1 : l1.length ≤ 9223372036854775807) (h2 : l2.length ≤ 9223372036854775807) :
    Ev (fun k => order_Cut.f k s0 s1 s2 s3 s4 s5 n6 l l1 l2) (cutP s0 (mayB s0 s1 s2 s3 s4 s5 n6 l) l l1 l2) := by
  unfold order_Cut.f cutP
  refine Ev.bind (ask_ev s0 s1 s2 s3 s4 s5 n6 l l1 l2 hl h1 h2) ?_
  by_cases c : askP (mayB s0 s1 s2 s3 s4 s5 n6 l) l l1 l2 = 0
  · simp only [if_pos c]
    obtain ⟨m1, m2, m3, m4, m5, m6, _⟩ := ask_zero c
    exact cut_l0 s0 s1 s2 s3 s4 s5 n6 l l1 l2 (mayB_pos m1).2 m4 m2 m6 l2.length 0 (by omega)
  · simp only [if_neg c]; exact Ev.now _
theorem ref_cut_ev (hl : l.length ≤ 9223372036854775807) (hn : ∀ x ∈ l, x.f0.size ≤ 9223372036854775807) (g0 : s0.size ≤ 9223372036854775807) (g1 : s1.size ≤ 9223372036854775807) (g2 : s2.size ≤ 9223372036854775807) (g4 : s4.size ≤ 9223372036854775807) (g5 : s5.size ≤ 9223372036854775807)
    (h1 : l1.length ≤ 9223372036854775807) (h2 : l2.length ≤ 9223372036854775807) (hlr : ∀ p ∈ l2, p.length ≤ 9223372036854775807) :
    Ev (fun k => sr19_Cut.f k s0 s1 s2 s3 s4 s5 n6 l l1 l2) (cutP s0 (mayB s0 s1 s2 s3 s4 s5 n6 l) l l1 l2) := by
  unfold sr19_Cut.f cutP
  refine Ev.bind (ref_wrong_ev s0 s1 s2 s3 s4 s5 n6 l l1 l2 hl hn g0 g1 g2 g4 g5 h1 h2 hlr) ?_
  by_cases c : askP (mayB s0 s1 s2 s3 s4 s5 n6 l) l l1 l2 = 0
  · simp only [if_pos c]
    obtain ⟨m1, m2, m3, m4, m5, m6, _⟩ := ask_zero c
    exact ref_cut_l0 s0 s1 s2 s3 s4 s5 n6 l l1 l2 (mayB_pos m1).2 m4 m2 m6 l2.length 0 (by omega)
  · simp only [if_neg c]; exact Ev.now _
end

theorem lots_self (a : List S67) (ha : a.length ≤ 9223372036854775807) : ∀ d i : Nat, i + d = a.length → Ev (fun k => sr11_Same.l0 k a a i) true := by
  intro d
  induction d with
  | zero =>
    intro i hi
    refine Ev.step (fun k => by rw [sr11_Same.l0]) ?_
    simp only [if_neg (show ¬ (i : Int) < (a.length : Int) by omega)]
    exact Ev.now _
  | succ d ih =>
    intro i hi
    have hlt : (i : Int) < (a.length : Int) := by omega
    refine Ev.step (fun k => by rw [sr11_Same.l0]) ?_
    simp only [if_pos hlt, if_pos (show (0 : Int) ≤ (i : Int) by omega), beq_self_eq_true, Bool.not_true, Bool.or_self, Bool.false_eq_true, if_false, wrap_succ (show i < a.length by omega) ha]
    exact ih (i + 1) (by omega)
theorem lots_same (a : List S67) (ha : a.length ≤ 9223372036854775807) : Ev (fun k => sr11_Same.f k a a) true := by
  unfold sr11_Same.f
  simp only [if_true]
  exact lots_self a ha a.length 0 (by omega)
theorem cuts_self (a : List S42) (ha : a.length ≤ 9223372036854775807) (hq : ∀ c ∈ a, c.f3.length ≤ 9223372036854775807) : ∀ d i : Nat, i + d = a.length → Ev (fun k => sr19_Cuts.l0 k a a i) true := by
  intro d
  induction d with
  | zero =>
    intro i hi
    refine Ev.step (fun k => by rw [sr19_Cuts.l0]) ?_
    simp only [if_neg (show ¬ (i : Int) < (a.length : Int) by omega)]
    exact Ev.now _
  | succ d ih =>
    intro i hi
    have hi' : i < a.length := by omega
    have hlt : (i : Int) < (a.length : Int) := by omega
    refine Ev.step (fun k => by rw [sr19_Cuts.l0]) ?_
    simp only [if_pos hlt, if_pos (show (0 : Int) ≤ (i : Int) by omega), if_true, wrap_succ hi' ha]
    refine Ev.bind (lots_same _ (by rw [rd42n, List.getD_eq_getElem?_getD, List.getElem?_eq_getElem hi', Option.getD_some]; exact hq _ (List.getElem_mem hi'))) ?_
    simp only [if_true]
    exact ih (i + 1) (by omega)
theorem cuts_same (a : List S42) (ha : a.length ≤ 9223372036854775807) (hq : ∀ c ∈ a, c.f3.length ≤ 9223372036854775807) : Ev (fun k => sr19_Cuts.f k a a) true := by
  unfold sr19_Cuts.f
  simp only [if_true]
  exact cuts_self a ha hq a.length 0 (by omega)

section
variable (s0 s1 s2 s3 s4 s5 : ByteArray) (n6 : Int) (l : List S65) (l1 : List Int) (l2 : List (List Int))
theorem cuts_l0 (hl : l.length ≤ 9223372036854775807) (hn : ∀ x ∈ l, x.f0.size ≤ 9223372036854775807) (g0 : s0.size ≤ 9223372036854775807) (g1 : s1.size ≤ 9223372036854775807) (g2 : s2.size ≤ 9223372036854775807) (g4 : s4.size ≤ 9223372036854775807) (g5 : s5.size ≤ 9223372036854775807)
    (h1 : l1.length ≤ 9223372036854775807) (h2 : l2.length ≤ 9223372036854775807) :
    ∀ d i : Nat, i + d = l2.length → (∀ q, q < i → (l2.getD q []).length ≤ 70) → Ev (fun k => supercargolaw19_OrderCuts.l0 k l1 l2 i s0 s1 s2 s3 s4 s5 n6 l) true := by
  intro d
  induction d with
  | zero =>
    intro i hi hq
    have hlr : ∀ p ∈ l2, p.length ≤ 70 := by
      intro p hp
      obtain ⟨q, hq', rfl⟩ := List.getElem_of_mem hp
      have := hq q (by omega)
      rwa [getD5 l2 q hq'] at this
    refine Ev.step (fun k => by rw [supercargolaw19_OrderCuts.l0]) ?_
    simp only [if_neg (show ¬ (i : Int) < (l2.length : Int) by omega)]
    refine Ev.bind (cut_ev s0 s1 s2 s3 s4 s5 n6 l l1 l2 hl h1 h2) ?_
    refine Ev.bind (ref_cut_ev s0 s1 s2 s3 s4 s5 n6 l l1 l2 hl hn g0 g1 g2 g4 g5 h1 h2 (fun p hp => by have := hlr p hp; omega)) ?_
    refine Ev.bind (cuts_same _ ?_ ?_) ?_
    · unfold cutP
      split
      · simp only [cutTo_len]; exact h2
      · simp
    · unfold cutP
      split
      · intro c hc
        have := cutTo_lots s0 l l1 l2 70 hlr l2.length (Nat.le_refl _) c hc
        omega
      · intro c hc; simp at hc
    · simp only [if_true, beq_self_eq_true]; exact Ev.now _
  | succ d ih =>
    intro i hi hq
    refine Ev.step (fun k => by rw [supercargolaw19_OrderCuts.l0]) ?_
    simp only [if_pos (show (i : Int) < (l2.length : Int) by omega), if_pos (show (0 : Int) ≤ (i : Int) by omega), rd5, wrap_succ (show i < l2.length by omega) h2]
    by_cases c : ((l2.getD i []).length : Int) > 70
    · simp only [if_pos c]; exact Ev.now _
    · simp only [if_neg c]
      refine ih (i + 1) (by omega) ?_
      intro q hqi
      by_cases e : q = i
      · subst e; omega
      · exact hq q (by omega)
theorem orderCuts_ev (hl : l.length ≤ 9223372036854775807) (hn : ∀ x ∈ l, x.f0.size ≤ 9223372036854775807) (g0 : s0.size ≤ 9223372036854775807) (g1 : s1.size ≤ 9223372036854775807) (g2 : s2.size ≤ 9223372036854775807) (g4 : s4.size ≤ 9223372036854775807) (g5 : s5.size ≤ 9223372036854775807)
    (h1 : l1.length ≤ 9223372036854775807) (h2 : l2.length ≤ 9223372036854775807) :
    Ev (fun k => supercargolaw19_OrderCuts.f k s0 s1 s2 s3 s4 s5 n6 l l1 l2) true := by
  unfold supercargolaw19_OrderCuts.f
  refine Ev.bind awake_ev ?_
  simp only [if_true]
  have J1 : Ev (fun k => supercargolaw19_OrderCuts.j0 k l1 l2 true s0 s1 s2 s3 s4 s5 n6 l) true := by
    refine Ev.step (fun k => by rw [supercargolaw19_OrderCuts.j0]) ?_
    simp only [if_true]; exact Ev.now _
  obtain ⟨b, hb, -⟩ := few_ev s0 s1 s2 s3 s4 s5 n6 l []
  refine Ev.bind hb ?_
  cases b with
  | false => simp only [Bool.false_eq_true, if_false]; exact J1
  | true =>
    simp only [if_true]
    by_cases c1 : (l1.length : Int) > 70
    · simp only [if_pos c1]; exact J1
    · simp only [if_neg c1]
      by_cases c2 : (l2.length : Int) > 70
      · simp only [decide_eq_true c2]; exact J1
      · simp only [decide_eq_false c2]
        refine Ev.step (fun k => by rw [supercargolaw19_OrderCuts.j0]) ?_
        simp only [Bool.false_eq_true, if_false]
        exact cuts_l0 s0 s1 s2 s3 s4 s5 n6 l l1 l2 hl hn g0 g1 g2 g4 g5 h1 h2 l2.length 0 (by omega) (fun q h => by omega)
end
end Go.Proofs.Ytlhaaccdiienbaa.X
