/- Lemmas of this claim, proved by hand: 'Join': lots of one name made one, in the order of their names. -/
import Derived.Test.YtlhaaccdiienbaaECounts
import Derived.Test.YtlhaaccdiienbaaShelfD
namespace Go.Proofs.Ytlhaaccdiienbaa.X
open Go.RowKit Go.WideMaps Go.Maps Go.Proofs.YtlhaaccdiienbaaW.PrintWords Go.Proofs.YtlhaaccdiienbaaW.PrintLast Go.Proofs.YtlhaaccdiienbaaW.PrintMore
set_option linter.unusedVariables false

def sortB (ks : List (List UInt8)) : List ByteArray := (ks.mergeSort (fun x y => decide (x ≤ y))).map (fun s => ⟨s.toArray⟩)
theorem sortB_len (ks : List (List UInt8)) : (sortB ks).length = ks.length := by unfold sortB; rw [List.length_map, List.length_mergeSort]
def joinP (l : List S67) : List S67 := (sortB (keyTo l l.length)).map (fun s => ⟨s, cntTo l l.length s⟩)
def goods_Join.f (l0 : List S67) : Option (List S67) := if l0.length ≤ 100000 ∧ ∀ x ∈ l0, x.f0.size ≤ maxLen then some (joinP l0) else none
theorem keyTo_size (l : List S67) (m : Nat) (h : ∀ j : Nat, j < l.length → (rd_T67 l (j : Int)).f0.size ≤ m) : ∀ j, j ≤ l.length → ∀ s ∈ keyTo l j, s.length ≤ m
  | 0 => fun _ s hs => by simp [keyTo] at hs
  | j + 1 => fun hj s hs => by
    unfold keyTo at hs
    split at hs
    · rcases List.mem_cons.mp hs with e | hs
      · subst e; rw [Array.length_toList]; exact h j (by omega)
      · exact keyTo_size l m h j (by omega) s (List.mem_filter.mp hs).1
    · exact keyTo_size l m h j (by omega) s hs
theorem take_next (l : List ByteArray) (f : ByteArray → Int) (j : Nat) (hj : j < l.length) : (l.take (j + 1)).map (fun s => (⟨s, f s⟩ : S67)) = (l.take j).map (fun s => (⟨s, f s⟩ : S67)) ++ [⟨rdOf ByteArray.empty l (j : Int), f (rdOf ByteArray.empty l (j : Int))⟩] := by
  have e : rdOf ByteArray.empty l (j : Int) = l[j] := by simp [rdOf, hj]
  rw [List.take_add_one, List.getElem?_eq_getElem hj, Option.toList_some, List.map_append, e]; rfl
set_option maxHeartbeats 8000000 in
set_option maxRecDepth 100000 in
theorem goods_Join.calls (A0 : Option Addr) (c0 : Nat) (l0 : List S67) (r : List S67) (w : World) (hr0 : Kd.C k67 w A0 l0.length l0) (hc0 : l0.length ≤ c0) (h : goods_Join.f l0 = some r) :
    Calls Try.prog 33 #[.slice A0 l0.length c0] w fun e w' => ∃ v0_ : Value, e = .returned v0_ ∧ Kd.R k67 67 w' w.heap.size (fun _ => True) v0_ r ∧ Below w.heap.size w w' := by
  unfold goods_Join.f at h
  by_cases hl : l0.length ≤ 100000 ∧ ∀ x ∈ l0, x.f0.size ≤ maxLen
  · rw [if_pos hl] at h
    obtain rfl := Option.some.inj h
    have hs : ∀ j : Nat, j < l0.length → (rd_T67 l0 (j : Int)).f0.size ≤ maxLen := by
      intro j hj
      have e : rd_T67 l0 (j : Int) = l0[j] := by simp [rd_T67, hj]
      rw [e]; exact hl.2 _ (List.getElem_mem hj)
    have HN := Aside0.mk hl.1
    have HKS := Aside0.mk (keyTo_size l0 maxLen hs l0.length (Nat.le_refl _))
    have HKL := Aside0.mk (keyTo_len l0 l0.length)
    have HCC := Aside0.mk (counts_calls A0 c0 l0 w hr0 hc0 hl.1 hs)
    unfold joinP
    generalize hF : cntTo l0 l0.length = F at *
    generalize hK : keyTo l0 l0.length = ks at *
    clear hr0 hc0 h hl hs hF hK
    go_enter Try.func33, Try.ntmps33
    go_wp2_with fail
    refine HCC.out.mono ?_
    rintro e w1 ⟨b, rfl, hb0, hM, hb1⟩
    have HM1 := Aside0.mk hM
    have HB1 := Aside0.mk hb1
    have HB0 := Aside0.mk hb0
    clear hb0 hM hb1 HCC
    obtain ⟨D, hown, hIs, hat, hperm⟩ := HM1.out
    have hsz : Maps.size D = ks.length := by
      obtain ⟨es, rfl⟩ := hIs
      rw [Maps.size_eq, ← hperm.length_eq]; show es.length = (es.map _).length; rw [List.length_map]
    have HSC := Aside0.mk ((callsIn_wide (n := 5)).1 (Try.slices_Sorted_keys_75_76 b _ D anyElemC w1 hown (by have := HKL.out; have := HN.out; unfold maxLen; omega) (by have := HKL.out; have := HN.out; omega)))
    have HPM := Aside0.mk hperm
    clear hown hIs hat hperm hsz
    go_wp2_with fail
    refine ((callsIn_wide (n := 5)).1 (Try.maps_Keys_76 (some b) w1)).mono ?_
    rintro e w2 ⟨rfl, rfl⟩
    go_wp2_with fail
    refine HSC.out.mono ?_
    rintro e w3 ⟨v, ss, rfl, hS, hrow, hnil, hb3⟩
    have hss : ss.mergeSort (fun x y => decide (x ≤ y)) = ks.mergeSort (fun x y => decide (x ≤ y)) := mergeSort_of_perm (hS.trans HPM.out)
    have hlen : ss.length = (sortB ks).length := by rw [sortB_len]; exact (hS.trans HPM.out).length_eq
    have hR : Kd.R Kd.string 9 w3 (w1.alloc (.cells #[.map (some b)] 114)).heap.size (fun _ => True) v (sortB ks) := by
      refine Kd.R_of_own (h1 := fun _ => rfl) ?_ (fun _ _ => trivial)
      have e : encs Value.string (sortB ks) = (ss.mergeSort (fun x y => decide (x ≤ y))).map encStr := by
        rw [hss]; unfold encs sortB; rw [List.map_map]; rfl
      rw [e, ← hlen]; exact hrow
    have HB3 : Aside0 (Below w.heap.size w w3) := ⟨below_step (below_alloc HB1.out _) hb3⟩
    have HM3 : Aside0 (CntMap w3 b l0.length F ks) := ⟨(HM1.out.below (below_alloc (Below.refl _ _) (.cells #[.map (some b)] 114)) HM1.out.lt).below hb3 (by have := HM1.out.lt; simp; omega)⟩
    have HZ : Aside0 (∀ s ∈ sortB ks, s.size ≤ maxLen) := ⟨by
      intro s hs
      unfold sortB at hs
      obtain ⟨t, ht, rfl⟩ := List.mem_map.mp hs
      have := HKS.out t ((List.mergeSort_perm _ _).mem_iff.mp ht)
      show t.toArray.size ≤ maxLen
      rw [List.size_toArray]; exact this⟩
    have HSL : Aside0 ((sortB ks).length ≤ 100000) := ⟨by rw [sortB_len]; have := HKL.out; have := HN.out; omega⟩
    clear hS hnil hrow hss hlen HSC HPM HM1 HKS HKL hb3
    generalize hNm : sortB ks = names at *
    have HNm := Aside0.mk hNm
    clear hNm
    obtain ⟨A, c, rfl⟩ := Kd.R_slice hR
    have HC := Aside0.mk (Kd.R_reads' hR).2.2
    clear hR
    go_wp2
    go_loopg [4, 13] (names.length + 1) (fun kq v4 v13 wr => ∃ j : Nat, v13 = .int .i64 j ∧ Aside0 (j + kq = names.length + 1) ∧ Aside0 (j ≤ names.length) ∧ Aside0 (Kd.R k67 67 wr w3.heap.size (fun _ => True) v4 ((names.take j).map (fun s => (⟨s, F s⟩ : S67)))) ∧ Aside0 (Below w3.heap.size w3 wr))
    case atStart => exact ⟨0, rfl, ⟨by omega⟩, ⟨by omega⟩, ⟨Kd.R_nil _ _ _ _ _⟩, ⟨Below.refl _ _⟩⟩
    case round =>
      obtain ⟨j, rfl, HJK, HJL, HO, HB⟩ := hrel
      by_cases hj : j < names.length
      · have c0b : decide ((j : Int) < (names.length : Int)) = true := decide_eq_true (by omega)
        have c1b : decide (j < names.length) = true := decide_eq_true hj
        have p0 : (0 ≤ (j : Int)) = True := eq_true (by omega)
        have q0 : ((j : Int) < (names.length : Int)) = True := eq_true (by omega)
        have hw1 : Aside0 (wrap64 ((j : Int) + 1) = ((j + 1 : Nat) : Int)) := ⟨by have := HSL.out; unfold wrap64; omega⟩
        obtain ⟨ad, ee, hx0⟩ := Kd.at_string (Kd.C_below HC.out HB.out) (j : Int) (by omega) (by omega)
        cases ee
        have HS : Aside0 ((rdOf ByteArray.empty names (j : Int)).size ≤ maxLen) := ⟨by rw [show rdOf ByteArray.empty names (j : Int) = names[j] by simp [rdOf, hj]]; exact HZ.out _ (List.getElem_mem hj)⟩
        have HT := Aside0.mk (take_next names F j hj)
        obtain ⟨s, hx⟩ : ∃ s, s = rdOf ByteArray.empty names (j : Int) := ⟨_, rfl⟩
        rw [← hx] at hx0 HS HT
        clear hx
        try simp only [Int.toNat_natCast] at hx0
        have hlook := (HM3.out.below HB.out HM3.out.lt).look s HS.out
        have HJ := Aside0.mk hj
        clear hj
        go_wp2_with (at_builtin; refine Kd.R_append k67 (w0 := w3) w3.heap.size rfl (.tmp 17) (.tmp 23) 40 67 (.agg #[(.string ⟨#[]⟩), (.int .i64 0)]) 24 rfl Try.underlying40 info67 rfl (by decide) (by omega) _ ((names.take j).map (fun s => (⟨s, F s⟩ : S67))) (⟨s, F s⟩ : S67) [.string s, .int .i64 (F s)] (fun _ => True) (fun _ => False) rfl rfl ?aP (fun _ hk => hk.elim) (fun _ _ => trivial) HO.out HB.out HB.out.size ?aL ?_; (case aP => exact ⟨_, _, rfl, rfl, rfl⟩); (case aL => have := HSL.out; have := HJL.out; rw [List.length_map, List.length_take]; omega); intro v1 w4 ho hb hg hat; rw [← HT.out] at ho; have HO1 := Aside0.mk ho; have HB4 := Aside0.mk hb; clear ho hb hg hat)
        go_roundg (gk - 1)
        case measure => have := HJK.out; have := HJ.out; omega
        case rel => exact ⟨j + 1, by first | rfl | (rw [hw1.out]), ⟨by have := HJK.out; have := HJ.out; omega⟩, ⟨HJ.out⟩, HO1, HB4⟩
      · have c0b : decide ((j : Int) < (names.length : Int)) = false := decide_eq_false (by omega)
        have c1b : decide (j < names.length) = false := decide_eq_false hj
        have ej : j = names.length := by have := HJL.out; omega
        subst ej
        have HO2 := Aside0.mk HO.out
        clear hj
        go_wp2
        go_ret
        refine ⟨_, rfl, ?_, below_step HB3.out HB.out⟩
        have := HO2.out
        rw [List.take_length] at this
        rw [HNm.out]
        exact Kd.R_lower this HB3.out.size
  · rw [if_neg hl] at h; cases h
end Go.Proofs.Ytlhaaccdiienbaa.X
