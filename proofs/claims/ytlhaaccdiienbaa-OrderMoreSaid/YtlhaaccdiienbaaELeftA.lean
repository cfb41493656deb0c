/- Lemmas of this claim, proved by hand: plain functions for 'Left': what is left of each line. -/
import Derived.Test.YtlhaaccdiienbaaEJoin
import Derived.Test.YtlhaaccdiienbaaEValue
namespace Go.Proofs.Ytlhaaccdiienbaa.X
open Go.RowKit Go.WideMaps Go.Maps Go.Proofs.YtlhaaccdiienbaaW.PrintWords Go.Proofs.YtlhaaccdiienbaaW.PrintLast Go.Proofs.YtlhaaccdiienbaaW.PrintMore
set_option linter.unusedVariables false

/-- A line less a lot. -/
def lessLot (F : ByteArray → S65) (x : S67) : ByteArray → S65 := fun t => if t = x.f0 then ⟨(F x.f0).f0, wrap64 ((F x.f0).f1 - x.f1), (F x.f0).f2⟩ else F t
def lotsGo : (ByteArray → S65) → List S67 → Option (ByteArray → S65)
  | F, [] => some F
  | F, x :: r => if x.f1 > (F x.f0).f1 then none else lotsGo (lessLot F x) r
def consGo : (ByteArray → S65) → List S42 → Option (ByteArray → S65)
  | F, [] => some F
  | F, c :: r => (lotsGo F c.f3).bind fun F' => consGo F' r
def lotOfF (F : ByteArray → S65) (s : ByteArray) : S67 := ⟨s, (F s).f1⟩
def leftP (l : List S65) (F : ByteArray → S65) : List S67 := (sortB (keyTo (l.map (fun x => lotOfF F x.f0)) (l.map (fun x => lotOfF F x.f0)).length)).map (fun s => ⟨s, wrap64 (0 + (F s).f1)⟩)
theorem rdT67 (l : List S67) (j : Nat) (h : j < l.length) : rd_T67 l (j : Int) = l[j] := by simp [rd_T67, h]
theorem keyTo_mem (l : List S67) (s : List UInt8) : ∀ n, n ≤ l.length → (s ∈ keyTo l n ↔ ∃ j, ∃ h : j < l.length, j < n ∧ (l[j]'h).f1 > 0 ∧ (l[j]'h).f0.data.toList = s)
  | 0 => fun _ => by simp [keyTo]
  | n + 1 => fun hn => by
    have ih := keyTo_mem l s n (by omega)
    unfold keyTo
    rw [rdT67 l n (by omega)]
    by_cases c : (l[n]'(by omega)).f1 > 0
    · rw [if_pos c, List.mem_cons, List.mem_filter, ih]
      constructor
      · rintro (e | ⟨⟨j, h, h1, h2, h3⟩, _⟩)
        · exact ⟨n, by omega, by omega, c, e.symm⟩
        · exact ⟨j, h, by omega, h2, h3⟩
      · rintro ⟨j, h, h1, h2, h3⟩
        by_cases e : s = (l[n]'(by omega)).f0.data.toList
        · exact .inl e
        · refine .inr ⟨⟨j, h, ?_, h2, h3⟩, by simpa using e⟩
          by_cases e2 : j = n
          · subst e2; exact absurd h3.symm e
          · omega
    · rw [if_neg c, ih]
      constructor
      · rintro ⟨j, h, h1, h2, h3⟩; exact ⟨j, h, by omega, h2, h3⟩
      · rintro ⟨j, h, h1, h2, h3⟩
        refine ⟨j, h, ?_, h2, h3⟩
        by_cases e2 : j = n
        · subst e2; exact absurd h2 c
        · omega
theorem keyTo_nodup (l : List S67) : ∀ n, (keyTo l n).Nodup
  | 0 => List.nodup_nil
  | n + 1 => by
    have ih := keyTo_nodup l n
    unfold keyTo
    split
    · refine List.nodup_cons.mpr ⟨?_, ih.filter _⟩
      intro h
      have := (List.mem_filter.mp h).2
      simp at this
    · exact ih
theorem bytes_inj {a b : ByteArray} (h : a.data.toList = b.data.toList) : a = b := by
  cases a; cases b; exact congrArg _ (Array.toList_inj.mp h)
/-- Lots of distinct names: each counts for itself. -/
theorem cntTo_one (l : List S67) (hd : (l.map (fun x => x.f0.data.toList)).Nodup) : ∀ n, n ≤ l.length → ∀ s : ByteArray, (∀ j (h : j < l.length), j < n → (l[j]'h).f0 = s → (l[j]'h).f1 > 0 → cntTo l n s = wrap64 (0 + (l[j]'h).f1)) ∧ ((∀ j (h : j < l.length), j < n → (l[j]'h).f0 ≠ s) → cntTo l n s = 0)
  | 0 => fun _ s => ⟨fun j h h1 => by omega, fun _ => rfl⟩
  | n + 1 => fun hn s => by
    obtain ⟨i1, i2⟩ := cntTo_one l hd n (by omega) s
    have hne : ∀ j (h : j < l.length), j < n → (l[j]'h).f0 ≠ (l[n]'(by omega)).f0 := by
      intro j h h1 e
      have := (List.pairwise_iff_getElem.mp hd) j n (by rw [List.length_map]; exact h) (by rw [List.length_map]; omega) h1
      apply this
      rw [List.getElem_map, List.getElem_map, e]
    have e0 : cntTo l (n + 1) s = if (l[n]'(by omega)).f1 > 0 then (if s = (l[n]'(by omega)).f0 then wrap64 (cntTo l n (l[n]'(by omega)).f0 + (l[n]'(by omega)).f1) else cntTo l n s) else cntTo l n s := by
      rw [← rdT67 l n (by omega)]; rfl
    constructor
    · intro j h h1 h2 h3
      by_cases e : j = n
      · subst e
        rw [e0, if_pos h3, if_pos h2.symm]
        have z := (cntTo_one l hd j (by omega) (l[j]'h).f0).2 (fun q hq h4 => hne q hq h4)
        rw [z]
      · have hs : ¬ s = (l[n]'(by omega)).f0 := fun q => hne j h (by omega) (h2.trans q)
        rw [e0]
        simp only [if_neg hs, ite_self]
        exact i1 j h (by omega) h2 h3
    · intro hno
      have hs : ¬ s = (l[n]'(by omega)).f0 := fun q => hno n (by omega) (by omega) q.symm
      rw [e0]
      simp only [if_neg hs, ite_self]
      exact i2 (fun j h h1 => hno j h (by omega))
/-- What is appended while the map is ranged over, joined. -/
theorem join_left (l : List S65) (F : ByteArray → S65) (ss : List (List UInt8)) (hd : ss.Nodup) (hin : ∀ s : ByteArray, (F s).f1 > 0 → (s.data.toList ∈ ss ∧ ∃ x ∈ l, x.f0 = s)) :
    joinP (ss.map (fun k => lotOfF F ⟨k.toArray⟩)) = leftP l F := by
  have hn : ((ss.map (fun k => lotOfF F ⟨k.toArray⟩)).map (fun x => x.f0.data.toList)).Nodup := by
    rw [List.map_map]
    have : ((fun x : S67 => x.f0.data.toList) ∘ fun k : List UInt8 => lotOfF F ⟨k.toArray⟩) = id := by funext k; simp [lotOfF]
    rw [this, List.map_id]; exact hd
  unfold joinP leftP
  have hk : (keyTo (ss.map (fun k => lotOfF F ⟨k.toArray⟩)) (ss.map (fun k => lotOfF F ⟨k.toArray⟩)).length).Perm (keyTo (l.map (fun x => lotOfF F x.f0)) (l.map (fun x => lotOfF F x.f0)).length) := by
    refine (List.perm_ext_iff_of_nodup (keyTo_nodup _ _) (keyTo_nodup _ _)).mpr (fun s => ?_)
    rw [keyTo_mem _ _ _ (Nat.le_refl _), keyTo_mem _ _ _ (Nat.le_refl _)]
    constructor
    · rintro ⟨j, h, _, h2, h3⟩
      rw [List.getElem_map] at h2 h3
      obtain ⟨_, x, hx, he⟩ := hin _ h2
      obtain ⟨i, hi, rfl⟩ := List.getElem_of_mem hx
      refine ⟨i, by rw [List.length_map]; exact hi, by rw [List.length_map]; exact hi, ?_, ?_⟩
      · rw [List.getElem_map]; show (F l[i].f0).f1 > 0; rw [he]; exact h2
      · rw [List.getElem_map]; show l[i].f0.data.toList = s; rw [he]; exact h3
    · rintro ⟨j, h, _, h2, h3⟩
      rw [List.getElem_map] at h2 h3
      obtain ⟨hm, _⟩ := hin _ h2
      obtain ⟨i, hi, he⟩ := List.getElem_of_mem hm
      have e : (⟨ss[i].toArray⟩ : ByteArray) = (l[j]'(by rw [List.length_map] at h; exact h)).f0 := bytes_inj (by simpa using he)
      refine ⟨i, by rw [List.length_map]; exact hi, by rw [List.length_map]; exact hi, ?_, ?_⟩
      · rw [List.getElem_map]; show (F ⟨ss[i].toArray⟩).f1 > 0; rw [e]; exact h2
      · rw [List.getElem_map]; show (⟨ss[i].toArray⟩ : ByteArray).data.toList = s; rw [e]; exact h3
  have hs : sortB (keyTo (ss.map (fun k => lotOfF F ⟨k.toArray⟩)) (ss.map (fun k => lotOfF F ⟨k.toArray⟩)).length) = sortB (keyTo (l.map (fun x => lotOfF F x.f0)) (l.map (fun x => lotOfF F x.f0)).length) := by
    unfold sortB; rw [mergeSort_of_perm hk]
  rw [← hs]
  refine List.map_congr_left (fun s hsm => ?_)
  unfold sortB at hsm
  obtain ⟨k, hk', rfl⟩ := List.mem_map.mp hsm
  have hk2 := (List.mergeSort_perm _ _).mem_iff.mp hk'
  rw [keyTo_mem _ _ _ (Nat.le_refl _)] at hk2
  obtain ⟨j, h, h1, h2, h3⟩ := hk2
  have e : (⟨k.toArray⟩ : ByteArray) = ((ss.map (fun k => lotOfF F ⟨k.toArray⟩))[j]'h).f0 := bytes_inj (by simpa using h3.symm)
  have := (cntTo_one _ hn _ (Nat.le_refl _) ⟨k.toArray⟩).1 j h h1 e.symm h2
  rw [this]
  congr 2
  rw [List.getElem_map] at e ⊢
  show 0 + (F ⟨(ss[j]'(by rw [List.length_map] at h; exact h)).toArray⟩).f1 = 0 + (F ⟨k.toArray⟩).f1
  rw [e]; rfl
end Go.Proofs.Ytlhaaccdiienbaa.X
