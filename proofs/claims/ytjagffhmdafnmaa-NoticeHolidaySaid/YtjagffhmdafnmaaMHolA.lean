/- Plain laws of this claim: a holiday more leaves fewer days that are worked on. -/
import Derived.Test.YtjagffhmdafnmaaMDays
import Derived.Test.YtjagffhmdafnmaaEBoth
namespace Go.Proofs.Ytjagffhmdafnmaa.X
open Go.RowKit Go.Proofs.YtjagffhmdafnmaaW.PrintWords Go.Proofs.YtjagffhmdafnmaaW.PrintLast Go.Proofs.YtjagffhmdafnmaaW.PrintMore

/-! ### two rows, merged -/
theorem mergedP_spec (a b : List Int) : (mergedP a b).Pairwise (· < ·) ∧ (∀ x, x ∈ mergedP a b ↔ x ∈ a ∨ x ∈ b) ∧ (mergedP a b).length ≤ a.length + b.length := by
  have h := rowP_spec (a ++ b)
  refine ⟨h.1, fun x => ?_, by have := h.2.2; rw [List.length_append] at this; exact this⟩
  rw [← List.mem_append]; exact h.2.1 x
theorem rises_of {l : List Int} {top : Int} (h1 : l.Pairwise (· < ·)) (h2 : ∀ x ∈ l, 0 ≤ x ∧ x ≤ top) (h3 : l.length ≤ 4096) : Rises l top := by
  refine ⟨fun i hi => ?_, h3⟩
  have g : ∀ j (hj : j < l.length), l.getD j 0 = l[j] := by
    intro j hj; rw [List.getD_eq_getElem?_getD, List.getElem?_eq_getElem hj, Option.getD_some]
  unfold okAt
  rw [g i hi]
  have := h2 _ (List.getElem_mem hi)
  refine ⟨this.1, this.2, fun h0 => ?_⟩
  rw [g (i - 1) (by omega)]
  exact List.pairwise_iff_getElem.mp h1 (i - 1) i (by omega) hi (by omega)
theorem pairwise_of {l : List Int} {top : Int} (h : Rises l top) : l.Pairwise (· < ·) := by
  rw [List.pairwise_iff_getElem]
  intro i j hi hj hij
  have := rises_lt' h hij hj
  rwa [List.getD_eq_getElem?_getD, List.getD_eq_getElem?_getD, List.getElem?_eq_getElem hi, List.getElem?_eq_getElem hj, Option.getD_some, Option.getD_some] at this
/-- A calendar that may be, or the empty one. -/
def ownP (r h : List Int) : List Int × List Int := if May r h then (r, h) else ([], [])
def bothP (r h r2 h2 : List Int) : List Int × List Int := ownP (mergedP (ownP r h).1 (ownP r2 h2).1) (mergedP (ownP r h).2 (ownP r2 h2).2)
theorem wkE_own (r h : List Int) : wkE r h = wk (ownP r h).1 (ownP r h).2 := by
  unfold wkE ownP; split <;> rfl
theorem own_may (r h : List Int) : May (ownP r h).1 (ownP r h).2 := by
  unfold ownP; split
  · assumption
  · exact may_nil
theorem own_own {r h : List Int} (hm : May r h) : ownP r h = (r, h) := by unfold ownP; rw [if_pos hm]
theorem both_fewer (r h : List Int) (hm : May r h) (hh : h.length ≤ 60) (x : Int) (d : Int) (hw : wkE (bothP r h [] [x]).1 (bothP r h [] [x]).2 d = true) : wkE r h d = true := by
  have hq := own_may [] [x]
  have hqn : (ownP [] [x]).1.length = 0 ∧ (ownP [] [x]).2.length ≤ 1 := by
    unfold ownP; split <;> simp
  have e : bothP r h [] [x] = (mergedP r (ownP [] [x]).1, mergedP h (ownP [] [x]).2) := by
    unfold bothP
    rw [own_own hm]
    refine own_own ⟨?_, ?_⟩
    · obtain ⟨a, b, c⟩ := mergedP_spec r (ownP [] [x]).1
      refine rises_of a (fun y hy => ?_) (by have := hm.1.2; simp only at c ⊢; omega)
      rcases (b y).mp hy with hy | hy
      · exact rises_mem hm.1 hy
      · exact rises_mem hq.1 hy
    · obtain ⟨a, b, c⟩ := mergedP_spec h (ownP [] [x]).2
      refine rises_of a (fun y hy => ?_) (by simp only at c ⊢; omega)
      rcases (b y).mp hy with hy | hy
      · exact rises_mem hm.2 hy
      · exact rises_mem hq.2 hy
  have hmay : May (bothP r h [] [x]).1 (bothP r h [] [x]).2 := own_may _ _
  have e1 : wkE (bothP r h [] [x]).1 (bothP r h [] [x]).2 d = wk (bothP r h [] [x]).1 (bothP r h [] [x]).2 d := by
    rw [show wkE (bothP r h [] [x]).1 (bothP r h [] [x]).2 = wk (bothP r h [] [x]).1 (bothP r h [] [x]).2 by unfold wkE; rw [if_pos hmay]]
  rw [e1, e] at hw
  rw [show wkE r h = wk r h by unfold wkE; rw [if_pos hm]]
  unfold wk at hw ⊢
  simp only [Bool.not_eq_true', Bool.or_eq_false_iff, decide_eq_false_iff_not] at hw ⊢
  exact ⟨fun q => hw.1 (((mergedP_spec r (ownP [] [x]).1).2.1 _).mpr (.inl q)), fun q => hw.2 (((mergedP_spec h (ownP [] [x]).2).2.1 _).mpr (.inl q))⟩
theorem both_length (r h r2 h2 : List Int) : (bothP r h r2 h2).1.length ≤ 4096 ∧ (bothP r h r2 h2).2.length ≤ 4096 := by
  have := own_may (mergedP (ownP r h).1 (ownP r2 h2).1) (mergedP (ownP r h).2 (ownP r2 h2).2)
  exact ⟨this.1.2, this.2.2⟩

/-! ### the n-th day that is worked on -/
theorem cnt_fewer (w v : Int → Bool) (h : ∀ d, v d = true → w d = true) (a : Nat) : ∀ d : Nat, cnt v (a + d) - cnt v a ≤ cnt w (a + d) - cnt w a := by
  intro d
  induction d with
  | zero => simp
  | succ d ih =>
    rw [← Nat.add_assoc]
    simp only [cnt]
    have := h ((a + d : Nat) : Int)
    by_cases c : v ((a + d : Nat) : Int) = true
    · rw [if_pos c, if_pos (this c)]; omega
    · rw [if_neg c]; split <;> omega
theorem nth_fewer (w v : Int → Bool) (h : ∀ d, v d = true → w d = true) (f : Nat) (n : Int) (d : Nat) (hn : 1 ≤ n) (hv : (nth v f n d).2 = true) : (nth w f n d).2 = true ∧ (nth w f n d).1 ≤ (nth v f n d).1 := by
  rcases nth_spec v f n d hn with ⟨e, he, a, b, c, z⟩ | ⟨he, _⟩
  · rcases nth_spec w f n d hn with ⟨e2, he2, a2, b2, c2, z2⟩ | ⟨he2, z2⟩
    · rw [he, he2]
      refine ⟨rfl, ?_⟩
      simp only
      by_cases hle : e2 ≤ e
      · omega
      · have k := cnt_fewer w v h d (e + 1 - d)
        rw [show d + (e + 1 - d) = e + 1 by omega] at k
        have m := cnt_mono w (e + 1) (e2 - (e + 1))
        rw [show e + 1 + (e2 - (e + 1)) = e2 by omega] at m
        have s : cnt w (e2 + 1) = cnt w e2 + (if w e2 = true then 1 else 0) := rfl
        rw [if_pos c2] at s
        omega
    · have k := cnt_fewer w v h d (e + 1 - d)
      rw [show d + (e + 1 - d) = e + 1 by omega] at k
      have m := cnt_mono w (e + 1) (d + f - (e + 1))
      rw [show e + 1 + (d + f - (e + 1)) = d + f by omega] at m
      omega
  · rw [he] at hv; simp at hv
theorem next_fewer (r h r2 h2 : List Int) (H : ∀ d, wkE r2 h2 d = true → wkE r h d = true) (d : Int) (hv : (nextP r2 h2 d).2 = true) : (nextP r h d).2 = true ∧ (nextP r h d).1 ≤ (nextP r2 h2 d).1 := by
  unfold nextP at hv ⊢
  by_cases hd : 0 ≤ d ∧ d ≤ 1048576
  · rw [if_pos hd] at hv ⊢
    rw [if_pos hd]
    obtain ⟨d, rfl⟩ := Int.eq_ofNat_of_zero_le hd.1
    exact nth_fewer _ _ H _ 1 d (by omega) hv
  · rw [if_neg hd] at hv; simp at hv
theorem add_fewer (r h r2 h2 : List Int) (H : ∀ d, wkE r2 h2 d = true → wkE r h d = true) (d n : Int) (hn : 1 ≤ n) (hv : (addP r2 h2 d n).2 = true) : (addP r h d n).2 = true ∧ (addP r h d n).1 ≤ (addP r2 h2 d n).1 := by
  unfold addP at hv ⊢
  by_cases hd : 0 ≤ d ∧ d ≤ 1048576
  · rw [if_pos hd] at hv ⊢
    rw [if_pos hd]
    obtain ⟨d, rfl⟩ := Int.eq_ofNat_of_zero_le hd.1
    exact nth_fewer _ _ H _ n (d + 1) hn hv
  · rw [if_neg hd] at hv; simp at hv
theorem ownF_ev (r h : List Int) (hl : r.length ≤ 9223372036854775807) (hl2 : h.length ≤ 9223372036854775807) : Ev (fun k => ownF k r h) (ownP r h) := by
  unfold ownF ownP
  refine Ev.bind (may_ev r h hl hl2) ?_
  by_cases hm : May r h
  · simp only [hm, decide_true, if_true]; exact Ev.now _
  · simp only [hm, decide_false, Bool.false_eq_true, if_false]; exact Ev.now _
theorem both_ev (r h r2 h2 : List Int) (hl : r.length ≤ 9223372036854775807) (hl2 : h.length ≤ 9223372036854775807) (hl3 : r2.length ≤ 9223372036854775807) (hl4 : h2.length ≤ 9223372036854775807) : Ev (fun k => day_Both.f k r h r2 h2) (bothP r h r2 h2) := by
  unfold day_Both.f bothP
  refine Ev.bind (ownF_ev r h hl hl2) (Ev.bind (ownF_ev r2 h2 hl3 hl4) ?_)
  have a := own_may r h
  have b := own_may r2 h2
  have a1 := a.1.2
  have a2 := a.2.2
  have b1 := b.1.2
  have b2 := b.2.2
  unfold day_merged.f
  simp only [if_pos (show (ownP r h).1.length + (ownP r2 h2).1.length ≤ 100000 by omega), if_pos (show (ownP r h).2.length + (ownP r2 h2).2.length ≤ 100000 by omega), Option.bind_some]
  have c1 := (mergedP_spec (ownP r h).1 (ownP r2 h2).1).2.2
  have c2 := (mergedP_spec (ownP r h).2 (ownP r2 h2).2).2.2
  exact ownF_ev _ _ (by omega) (by omega)
end Go.Proofs.Ytjagffhmdafnmaa.X
