/- Lemmas of this claim, proved by hand: the closures by which 'Cut' asks what is wrong. -/
import Derived.Test.YtlhaaccdiienbaaX5
import Derived.Test.YtlhaaccdiienbaaELines
import Derived.IntWalk
namespace Go.Proofs.Ytlhaaccdiienbaa.X
open Go.RowKit Go.Proofs.YtlhaaccdiienbaaW.PrintWords Go.Proofs.YtlhaaccdiienbaaW.PrintLast Go.Proofs.YtlhaaccdiienbaaW.PrintMore
set_option linter.unusedVariables false
attribute [local go_sem] max2_int min2_int max_two min_two max_three min_three max_four min_four

def IdxPost (b : Bool) (w : World) (e : Ending) (w' : World) : Prop := ∃ z : Int, e = .returned (.int .i64 z) ∧ decide (0 ≤ z) = b ∧ Below w.heap.size w w'

def minF (l : List Int) : Int := l.foldl mn (l.headD 0)
theorem min_start (l : List Int) (h : 0 < l.length) : (l.take 1).foldl mn (l.headD 0) = rd l 0 := by
  cases l with
  | nil => simp at h
  | cons x r => simp [rd, mn]
theorem min_step (l : List Int) (j : Nat) (h : j < l.length) : (l.take (j + 1)).foldl mn (l.headD 0) = mn ((l.take j).foldl mn (l.headD 0)) (rd l (j : Int)) := by
  rw [List.take_add_one, List.foldl_append, List.getElem?_eq_getElem h]
  simp [rd, List.getD_eq_getElem?_getD, List.getElem?_eq_getElem h]
set_option maxHeartbeats 4000000 in
set_option maxRecDepth 100000 in
theorem min_calls (A0 : Option Addr) (c0 : Nat) (l0 : List Int) (w : World) (hr0 : Kd.C (Kd.int .i64) w A0 l0.length l0) (hp : 0 < l0.length) :
    Calls Try.prog 51 #[.slice A0 l0.length c0] w fun e w' => e = .returned (.int .i64 (minF l0)) ∧ w = w' := by
  have HR := Aside0.mk hr0
  have HN := Aside0.mk hr0.2.1
  have HP := Aside0.mk hp
  obtain ⟨ad, ee, hx0⟩ := Kd.at_int hr0 0 (Int.le_refl _) (by omega)
  cases ee
  have c1b : decide ((l0.length : Int) < 1) = false := decide_eq_false (by omega)
  have q1 : (0 < l0.length) = True := eq_true hp
  have hx1 : w.cell? ad = some (.int .i64 (rd l0 0)) := by rwa [show ad.add (Int.toNat 0) = ad by unfold Addr.add; split <;> simp_all] at hx0
  clear hr0 hp hx0
  go_enter Try.func51, Try.ntmps51
  go_wp2
  go_loopg [3, 4] (l0.length + 1) (fun kq v3 v4 w' => ∃ j : Nat, v4 = .int .i64 j ∧ v3 = .int .i64 ((l0.take j).foldl mn (l0.headD 0)) ∧ Aside0 (j + kq = l0.length + 2) ∧ Aside0 (j ≤ l0.length) ∧ w = w')
  case atStart => exact ⟨1, rfl, by rw [min_start l0 HP.out], ⟨by omega⟩, ⟨HP.out⟩, rfl⟩
  case round =>
    obtain ⟨j, rfl, rfl, HK, HL, rfl⟩ := hrel
    by_cases hj : j < l0.length
    · have c0b : decide ((j : Int) < (l0.length : Int)) = true := decide_eq_true (by omega)
      have p0 : (0 ≤ (j : Int)) = True := eq_true (by omega)
      have q0 : ((j : Int) < (l0.length : Int)) = True := eq_true (by omega)
      have hw1 : Aside0 (wrap64 ((j : Int) + 1) = ((j + 1 : Nat) : Int)) := ⟨by have := HN.out; unfold wrap64; omega⟩
      obtain ⟨ad2, ee, hx2⟩ := Kd.at_int HR.out (j : Int) (by omega) (by omega)
      cases ee
      try simp only [Int.toNat_natCast] at hx2
      have HS := Aside0.mk (min_step l0 j hj)
      have HJ := Aside0.mk hj
      generalize (l0.take j).foldl mn (l0.headD 0) = m at *
      clear hj
      by_cases hm : rd l0 (j : Int) < m
      · go_wp2
        go_roundg (gk - 1)
        case measure => have := HK.out; have := HJ.out; omega
        case rel => exact ⟨j + 1, by first | rfl | (rw [hw1.out]), by rw [HS.out]; unfold mn; rw [if_pos hm], ⟨by have := HK.out; have := HJ.out; omega⟩, ⟨HJ.out⟩, rfl⟩
      · go_wp2
        go_roundg (gk - 1)
        case measure => have := HK.out; have := HJ.out; omega
        case rel => exact ⟨j + 1, by first | rfl | (rw [hw1.out]), by rw [HS.out]; unfold mn; rw [if_neg (by omega)], ⟨by have := HK.out; have := HJ.out; omega⟩, ⟨HJ.out⟩, rfl⟩
    · have c0b : decide ((j : Int) < (l0.length : Int)) = false := decide_eq_false (by omega)
      have c2b : decide (j < l0.length) = false := decide_eq_false hj
      have HE : Aside0 ((l0.take j).foldl mn (l0.headD 0) = minF l0) := ⟨by have := HL.out; rw [List.take_of_length_le (by omega)]; rfl⟩
      clear hj
      go_wp2
      go_ret
      exact ⟨by rw [← HE.out]; rfl, rfl⟩

def maxF (l : List Int) : Int := l.foldl mx (l.headD 0)
theorem max_start (l : List Int) (h : 0 < l.length) : (l.take 1).foldl mx (l.headD 0) = rd l 0 := by
  cases l with
  | nil => simp at h
  | cons x r => simp [rd, mx]
theorem max_step (l : List Int) (j : Nat) (h : j < l.length) : (l.take (j + 1)).foldl mx (l.headD 0) = mx ((l.take j).foldl mx (l.headD 0)) (rd l (j : Int)) := by
  rw [List.take_add_one, List.foldl_append, List.getElem?_eq_getElem h]
  simp [rd, List.getD_eq_getElem?_getD, List.getElem?_eq_getElem h]
set_option maxHeartbeats 4000000 in
set_option maxRecDepth 100000 in
theorem max_calls (A0 : Option Addr) (c0 : Nat) (l0 : List Int) (w : World) (hr0 : Kd.C (Kd.int .i64) w A0 l0.length l0) (hp : 0 < l0.length) :
    Calls Try.prog 56 #[.slice A0 l0.length c0] w fun e w' => e = .returned (.int .i64 (maxF l0)) ∧ w = w' := by
  have HR := Aside0.mk hr0
  have HN := Aside0.mk hr0.2.1
  have HP := Aside0.mk hp
  obtain ⟨ad, ee, hx0⟩ := Kd.at_int hr0 0 (Int.le_refl _) (by omega)
  cases ee
  have c1b : decide ((l0.length : Int) < 1) = false := decide_eq_false (by omega)
  have q1 : (0 < l0.length) = True := eq_true hp
  have hx1 : w.cell? ad = some (.int .i64 (rd l0 0)) := by rwa [show ad.add (Int.toNat 0) = ad by unfold Addr.add; split <;> simp_all] at hx0
  clear hr0 hp hx0
  go_enter Try.func56, Try.ntmps56
  go_wp2
  go_loopg [3, 4] (l0.length + 1) (fun kq v3 v4 w' => ∃ j : Nat, v4 = .int .i64 j ∧ v3 = .int .i64 ((l0.take j).foldl mx (l0.headD 0)) ∧ Aside0 (j + kq = l0.length + 2) ∧ Aside0 (j ≤ l0.length) ∧ w = w')
  case atStart => exact ⟨1, rfl, by rw [max_start l0 HP.out], ⟨by omega⟩, ⟨HP.out⟩, rfl⟩
  case round =>
    obtain ⟨j, rfl, rfl, HK, HL, rfl⟩ := hrel
    by_cases hj : j < l0.length
    · have c0b : decide ((j : Int) < (l0.length : Int)) = true := decide_eq_true (by omega)
      have p0 : (0 ≤ (j : Int)) = True := eq_true (by omega)
      have q0 : ((j : Int) < (l0.length : Int)) = True := eq_true (by omega)
      have hw1 : Aside0 (wrap64 ((j : Int) + 1) = ((j + 1 : Nat) : Int)) := ⟨by have := HN.out; unfold wrap64; omega⟩
      obtain ⟨ad2, ee, hx2⟩ := Kd.at_int HR.out (j : Int) (by omega) (by omega)
      cases ee
      try simp only [Int.toNat_natCast] at hx2
      have HS := Aside0.mk (max_step l0 j hj)
      have HJ := Aside0.mk hj
      generalize (l0.take j).foldl mx (l0.headD 0) = m at *
      clear hj
      by_cases hm : m < rd l0 (j : Int)
      · go_wp2
        go_roundg (gk - 1)
        case measure => have := HK.out; have := HJ.out; omega
        case rel => exact ⟨j + 1, by first | rfl | (rw [hw1.out]), by rw [HS.out]; unfold mx; rw [if_pos hm], ⟨by have := HK.out; have := HJ.out; omega⟩, ⟨HJ.out⟩, rfl⟩
      · go_wp2
        go_roundg (gk - 1)
        case measure => have := HK.out; have := HJ.out; omega
        case rel => exact ⟨j + 1, by first | rfl | (rw [hw1.out]), by rw [HS.out]; unfold mx; rw [if_neg (by omega)], ⟨by have := HK.out; have := HJ.out; omega⟩, ⟨HJ.out⟩, rfl⟩
    · have c0b : decide ((j : Int) < (l0.length : Int)) = false := decide_eq_false (by omega)
      have c2b : decide (j < l0.length) = false := decide_eq_false hj
      have HE : Aside0 ((l0.take j).foldl mx (l0.headD 0) = maxF l0) := ⟨by have := HL.out; rw [List.take_of_length_le (by omega)]; rfl⟩
      clear hj
      go_wp2
      go_ret
      exact ⟨by rw [← HE.out]; rfl, rfl⟩

def notDay (d : Int) : Bool := decide (d < 0) || decide (1048576 < d)
theorem date_one (d : Int) (w : World) : Calls Try.prog 47 #[.int .i64 d] w fun e w' => e = .returned (.bool (notDay d)) ∧ Below w.heap.size w w' := by
  unfold notDay
  cases c : decide (d < 0) with
  | true =>
    go_enter Try.func47, Try.ntmps47
    go_wp2
    go_ret
    exact ⟨by first | rfl | simp, Below.refl _ _⟩
  | false =>
    go_enter Try.func47, Try.ntmps47
    go_wp2
    go_ret
    exact ⟨by first | rfl | simp, Below.refl _ _⟩
set_option maxHeartbeats 4000000 in
set_option maxRecDepth 100000 in
theorem date_index  (A0 : Option Addr) (c0 : Nat) (l0 : List Int) (p : Int → Bool) (w : World) (hr0 : Kd.C (Kd.int .i64) w A0 l0.length l0) (hc0 : l0.length ≤ c0) (hp : Aside0 (∀ (W : World), Below w.heap.size w W → ∀ (j : Nat), j < l0.length → Calls Try.prog 47 #[.int .i64 (rd l0 (j : Int))] W fun e W' => e = .returned (.bool (p (rd l0 (j : Int)))) ∧ Below W.heap.size W W')) :
    Calls Try.prog 86 #[.slice A0 l0.length c0, .func (.func 47) #[] #[]] w (IdxPost (l0.any p) w) := by
  have HR0 := Aside0.mk hr0
  have HC0 := Aside0.mk hc0
  have HN := Aside0.mk hr0.2.1
  clear hr0 hc0
  go_enter Try.func86, Try.ntmps86
  go_wp2
  go_loopg [8] (l0.length + 1) (fun kq v w' => ∃ j : Nat, v = .int .i64 j ∧ Aside0 (j + kq = l0.length + 1) ∧ Aside0 (∀ q : Nat, q < j → p (rd l0 (q : Int)) = false) ∧ Aside0 (Below w.heap.size w w'))
  case atStart => exact ⟨0, rfl, ⟨by omega⟩, ⟨fun q hq => absurd hq (by omega)⟩, ⟨Below.refl _ _⟩⟩
  case round =>
    obtain ⟨j, rfl, HK, HQ, HB⟩ := hrel
    by_cases hj : j < l0.length
    · have c0b : decide ((j : Int) < (l0.length : Int)) = true := decide_eq_true (by omega)
      have p0 : (0 ≤ (j : Int)) = True := eq_true (by omega)
      have q0 : ((j : Int) < (l0.length : Int)) = True := eq_true (by omega)
      have hw1 : Aside0 (wrap64 ((j : Int) + 1) = ((j + 1 : Nat) : Int)) := ⟨by have := HN.out; unfold wrap64; omega⟩
      obtain ⟨ad, ee, hx0⟩ := Kd.at_int (Kd.C_below HR0.out HB.out) (j : Int) (by omega) (by omega)
      cases ee
      try simp only [Int.toNat_natCast] at hx0
      have hq := Aside0.mk (hp.out wr HB.out j hj)
      have HJ := Aside0.mk hj
      clear hj
      cases hb : p (rd l0 (j : Int)) with
      | true =>
        rw [hb] at hq
        have HBB := Aside0.mk hb
        clear hb
        go_wp2_with (go_at_call 47; refine hq.out.mono ?_; rintro e w2 ⟨rfl, hb2⟩)
        go_ret
        refine ⟨(j : Int), rfl, ?_, below_step HB.out hb2⟩
        have h1 : l0.any p = true := by
          rw [List.any_eq_true]
          refine ⟨rd l0 (j : Int), ?_, HBB.out⟩
          have := HJ.out
          simp only [rd, Int.toNat_natCast, List.getD_eq_getElem?_getD, List.getElem?_eq_getElem this, Option.getD_some]
          exact List.getElem_mem this
        rw [h1, decide_eq_true_iff]
        omega
      | false =>
        rw [hb] at hq
        have HBB := Aside0.mk hb
        clear hb
        go_wp2_with (go_at_call 47; refine hq.out.mono ?_; rintro e w2 ⟨rfl, hb2⟩)
        go_roundg (gk - 1)
        case measure => have := HK.out; have := HJ.out; omega
        case rel =>
          refine ⟨j + 1, by first | rfl | (rw [hw1.out]), ⟨by have := HK.out; have := HJ.out; omega⟩, ⟨?_⟩, ⟨below_step HB.out hb2⟩⟩
          intro q hq2
          by_cases hqj : q = j
          · subst hqj; exact HBB.out
          · exact HQ.out q (by omega)
    · have c0b : decide ((j : Int) < (l0.length : Int)) = false := decide_eq_false (by omega)
      have c1b : decide (j < l0.length) = false := decide_eq_false hj
      have HJ := Aside0.mk hj
      clear hj
      go_wp2
      go_ret
      refine ⟨-1, rfl, ?_, HB.out⟩
      have h1 : l0.any p = false := by
        rw [List.any_eq_false]
        intro x hx
        obtain ⟨q, hq, rfl⟩ := List.getElem_of_mem hx
        have := HQ.out q (by have := HJ.out; omega)
        simp only [rd, Int.toNat_natCast, List.getD_eq_getElem?_getD, List.getElem?_eq_getElem hq, Option.getD_some] at this
        rw [this]; decide
      rw [h1]
      rfl
set_option maxHeartbeats 4000000 in
set_option maxRecDepth 100000 in
theorem date_contains  (A0 : Option Addr) (c0 : Nat) (l0 : List Int) (p : Int → Bool) (w : World) (hr0 : Kd.C (Kd.int .i64) w A0 l0.length l0) (hc0 : l0.length ≤ c0) (hp : Aside0 (∀ (W : World), Below w.heap.size w W → ∀ (j : Nat), j < l0.length → Calls Try.prog 47 #[.int .i64 (rd l0 (j : Int))] W fun e W' => e = .returned (.bool (p (rd l0 (j : Int)))) ∧ Below W.heap.size W W')) :
    Calls Try.prog 46 #[.slice A0 l0.length c0, .func (.func 47) #[] #[]] w fun e w' => e = .returned (.bool (l0.any p)) ∧ Below w.heap.size w w' := by
  have HI := Aside0.mk (date_index  A0 c0 l0 p w hr0 hc0 hp)
  clear hr0 hc0 hp
  generalize hg : l0.any p = b at *
  have HG := Aside0.mk hg
  clear hg
  go_enter Try.func46, Try.ntmps46
  go_wp2_with fail
  refine HI.out.mono ?_
  rintro e w1 ⟨z, rfl, hz, hb⟩
  have HZ := Aside0.mk hz
  clear hz
  go_wp2
  go_ret
  exact ⟨by have := HZ.out; subst this; rfl, hb⟩

/-- A part that doesn't fit n lines, or has less than nothing. -/
def badPart (n : Nat) (p : List Int) : Bool := !(decide (p.length = n)) || decide (minF p < 0)
theorem part_one (q0 : Addr) (A0_7 : Option Addr) (c0_7 : Nat) (l0_7 : List S65) (A : Option Addr) (c : Nat) (p : List Int) (w : World) (hn : 0 < l0_7.length) (hq : w.cell? ⟨q0.block, q0.off + 7, none⟩ = some (.slice A0_7 l0_7.length c0_7)) (hr : Kd.C (Kd.int .i64) w A p.length p) :
    Calls Try.prog 50 #[.slice A p.length c, .pointer (some q0)] w fun e w' => e = .returned (.bool (badPart l0_7.length p)) ∧ Below w.heap.size w w' := by
  unfold badPart
  by_cases h : p.length = l0_7.length
  · have HM := Aside0.mk (min_calls A c p w hr (by omega))
    rw [decide_eq_true h]
    have e1 : ((p.length : Int) != (l0_7.length : Int)) = false := by rw [bne_eq_false_iff_eq]; omega
    generalize minF p = m at *
    clear h hr hn
    go_enter Try.func50, Try.ntmps50
    go_wp2_with (go_at_call 51; refine HM.out.mono ?_; rintro e w1 ⟨rfl, rfl⟩)
    go_ret
    exact ⟨by first | rfl | simp, Below.refl _ _⟩
  · rw [decide_eq_false h]
    have e1 : ((p.length : Int) != (l0_7.length : Int)) = true := by rw [bne_iff_ne]; omega
    clear h hr hn
    go_enter Try.func50, Try.ntmps50
    go_wp2
    go_ret
    exact ⟨by first | rfl | simp, Below.refl _ _⟩
set_option maxHeartbeats 4000000 in
set_option maxRecDepth 100000 in
theorem part_index (q0 : Addr) (A0 : Option Addr) (c0 : Nat) (l0 : List (List Int)) (p : (List Int) → Bool) (w : World) (hr0 : Kd.C (Kd.slice 3 (Kd.int .i64)) w A0 l0.length l0) (hc0 : l0.length ≤ c0) (hp : Aside0 (∀ (W : World), Below w.heap.size w W → ∀ (j : Nat), j < l0.length → ∀ (S0 : Option Addr) (d0 : Nat), Kd.C (Kd.int .i64) W S0 (rd_L5 l0 (j : Int)).length (rd_L5 l0 (j : Int)) → (rd_L5 l0 (j : Int)).length ≤ d0 → Calls Try.prog 50 #[.slice S0 (rd_L5 l0 (j : Int)).length d0, .pointer (some q0)] W fun e W' => e = .returned (.bool (p (rd_L5 l0 (j : Int)))) ∧ Below W.heap.size W W')) :
    Calls Try.prog 87 #[.slice A0 l0.length c0, .func (.func 50) #[] #[.pointer (some q0)]] w (IdxPost (l0.any p) w) := by
  have HR0 := Aside0.mk hr0
  have HC0 := Aside0.mk hc0
  have HN := Aside0.mk hr0.2.1
  clear hr0 hc0
  go_enter Try.func87, Try.ntmps87
  go_wp2
  go_loopg [8] (l0.length + 1) (fun kq v w' => ∃ j : Nat, v = .int .i64 j ∧ Aside0 (j + kq = l0.length + 1) ∧ Aside0 (∀ q : Nat, q < j → p (rd_L5 l0 (q : Int)) = false) ∧ Aside0 (Below w.heap.size w w'))
  case atStart => exact ⟨0, rfl, ⟨by omega⟩, ⟨fun q hq => absurd hq (by omega)⟩, ⟨Below.refl _ _⟩⟩
  case round =>
    obtain ⟨j, rfl, HK, HQ, HB⟩ := hrel
    by_cases hj : j < l0.length
    · have c0b : decide ((j : Int) < (l0.length : Int)) = true := decide_eq_true (by omega)
      have p0 : (0 ≤ (j : Int)) = True := eq_true (by omega)
      have q0 : ((j : Int) < (l0.length : Int)) = True := eq_true (by omega)
      have hw1 : Aside0 (wrap64 ((j : Int) + 1) = ((j + 1 : Nat) : Int)) := ⟨by have := HN.out; unfold wrap64; omega⟩
      obtain ⟨ad, S0, d0, ee, hx0, hl0, hg0⟩ := at_L5 (Kd.C_below HR0.out HB.out) (j : Int) (by omega) (by omega)
      cases ee
      try simp only [Int.toNat_natCast] at hx0
      have hq := Aside0.mk (hp.out wr HB.out j hj _ _ hg0 hl0)
      have HJ := Aside0.mk hj
      clear hj
      cases hb : p (rd_L5 l0 (j : Int)) with
      | true =>
        rw [hb] at hq
        have HBB := Aside0.mk hb
        clear hb
        go_wp2_with (go_at_call 50; refine hq.out.mono ?_; rintro e w2 ⟨rfl, hb2⟩)
        go_ret
        refine ⟨(j : Int), rfl, ?_, below_step HB.out hb2⟩
        have h1 : l0.any p = true := by
          rw [List.any_eq_true]
          refine ⟨rd_L5 l0 (j : Int), ?_, HBB.out⟩
          have := HJ.out
          simp only [rd_L5, Int.toNat_natCast, List.getD_eq_getElem?_getD, List.getElem?_eq_getElem this, Option.getD_some]
          exact List.getElem_mem this
        rw [h1, decide_eq_true_iff]
        omega
      | false =>
        rw [hb] at hq
        have HBB := Aside0.mk hb
        clear hb
        go_wp2_with (go_at_call 50; refine hq.out.mono ?_; rintro e w2 ⟨rfl, hb2⟩)
        go_roundg (gk - 1)
        case measure => have := HK.out; have := HJ.out; omega
        case rel =>
          refine ⟨j + 1, by first | rfl | (rw [hw1.out]), ⟨by have := HK.out; have := HJ.out; omega⟩, ⟨?_⟩, ⟨below_step HB.out hb2⟩⟩
          intro q hq2
          by_cases hqj : q = j
          · subst hqj; exact HBB.out
          · exact HQ.out q (by omega)
    · have c0b : decide ((j : Int) < (l0.length : Int)) = false := decide_eq_false (by omega)
      have c1b : decide (j < l0.length) = false := decide_eq_false hj
      have HJ := Aside0.mk hj
      clear hj
      go_wp2
      go_ret
      refine ⟨-1, rfl, ?_, HB.out⟩
      have h1 : l0.any p = false := by
        rw [List.any_eq_false]
        intro x hx
        obtain ⟨q, hq, rfl⟩ := List.getElem_of_mem hx
        have := HQ.out q (by have := HJ.out; omega)
        simp only [rd_L5, Int.toNat_natCast, List.getD_eq_getElem?_getD, List.getElem?_eq_getElem hq, Option.getD_some] at this
        rw [this]; decide
      rw [h1]
      rfl
set_option maxHeartbeats 4000000 in
set_option maxRecDepth 100000 in
theorem part_contains (q0 : Addr) (A0 : Option Addr) (c0 : Nat) (l0 : List (List Int)) (p : (List Int) → Bool) (w : World) (hr0 : Kd.C (Kd.slice 3 (Kd.int .i64)) w A0 l0.length l0) (hc0 : l0.length ≤ c0) (hp : Aside0 (∀ (W : World), Below w.heap.size w W → ∀ (j : Nat), j < l0.length → ∀ (S0 : Option Addr) (d0 : Nat), Kd.C (Kd.int .i64) W S0 (rd_L5 l0 (j : Int)).length (rd_L5 l0 (j : Int)) → (rd_L5 l0 (j : Int)).length ≤ d0 → Calls Try.prog 50 #[.slice S0 (rd_L5 l0 (j : Int)).length d0, .pointer (some q0)] W fun e W' => e = .returned (.bool (p (rd_L5 l0 (j : Int)))) ∧ Below W.heap.size W W')) :
    Calls Try.prog 49 #[.slice A0 l0.length c0, .func (.func 50) #[] #[.pointer (some q0)]] w fun e w' => e = .returned (.bool (l0.any p)) ∧ Below w.heap.size w w' := by
  have HI := Aside0.mk (part_index q0 A0 c0 l0 p w hr0 hc0 hp)
  clear hr0 hc0 hp
  generalize hg : l0.any p = b at *
  have HG := Aside0.mk hg
  clear hg
  go_enter Try.func49, Try.ntmps49
  go_wp2_with fail
  refine HI.out.mono ?_
  rintro e w1 ⟨z, rfl, hz, hb⟩
  have HZ := Aside0.mk hz
  clear hz
  go_wp2
  go_ret
  exact ⟨by have := HZ.out; subst this; rfl, hb⟩

def noneIn (p : List Int) : Bool := maxF p == 0
theorem most_one (A : Option Addr) (c : Nat) (p : List Int) (w : World) (hn : 0 < p.length) (hr : Kd.C (Kd.int .i64) w A p.length p) :
    Calls Try.prog 55 #[.slice A p.length c] w fun e w' => e = .returned (.bool (noneIn p)) ∧ Below w.heap.size w w' := by
  have HM := Aside0.mk (max_calls A c p w hr hn)
  unfold noneIn
  generalize maxF p = m at *
  clear hr hn
  go_enter Try.func55, Try.ntmps55
  go_wp2_with (go_at_call 56; refine HM.out.mono ?_; rintro e w1 ⟨rfl, rfl⟩)
  go_ret
  exact ⟨rfl, Below.refl _ _⟩
set_option maxHeartbeats 4000000 in
set_option maxRecDepth 100000 in
theorem most_index  (A0 : Option Addr) (c0 : Nat) (l0 : List (List Int)) (p : (List Int) → Bool) (w : World) (hr0 : Kd.C (Kd.slice 3 (Kd.int .i64)) w A0 l0.length l0) (hc0 : l0.length ≤ c0) (hp : Aside0 (∀ (W : World), Below w.heap.size w W → ∀ (j : Nat), j < l0.length → ∀ (S0 : Option Addr) (d0 : Nat), Kd.C (Kd.int .i64) W S0 (rd_L5 l0 (j : Int)).length (rd_L5 l0 (j : Int)) → (rd_L5 l0 (j : Int)).length ≤ d0 → Calls Try.prog 55 #[.slice S0 (rd_L5 l0 (j : Int)).length d0] W fun e W' => e = .returned (.bool (p (rd_L5 l0 (j : Int)))) ∧ Below W.heap.size W W')) :
    Calls Try.prog 87 #[.slice A0 l0.length c0, .func (.func 55) #[] #[]] w (IdxPost (l0.any p) w) := by
  have HR0 := Aside0.mk hr0
  have HC0 := Aside0.mk hc0
  have HN := Aside0.mk hr0.2.1
  clear hr0 hc0
  go_enter Try.func87, Try.ntmps87
  go_wp2
  go_loopg [8] (l0.length + 1) (fun kq v w' => ∃ j : Nat, v = .int .i64 j ∧ Aside0 (j + kq = l0.length + 1) ∧ Aside0 (∀ q : Nat, q < j → p (rd_L5 l0 (q : Int)) = false) ∧ Aside0 (Below w.heap.size w w'))
  case atStart => exact ⟨0, rfl, ⟨by omega⟩, ⟨fun q hq => absurd hq (by omega)⟩, ⟨Below.refl _ _⟩⟩
  case round =>
    obtain ⟨j, rfl, HK, HQ, HB⟩ := hrel
    by_cases hj : j < l0.length
    · have c0b : decide ((j : Int) < (l0.length : Int)) = true := decide_eq_true (by omega)
      have p0 : (0 ≤ (j : Int)) = True := eq_true (by omega)
      have q0 : ((j : Int) < (l0.length : Int)) = True := eq_true (by omega)
      have hw1 : Aside0 (wrap64 ((j : Int) + 1) = ((j + 1 : Nat) : Int)) := ⟨by have := HN.out; unfold wrap64; omega⟩
      obtain ⟨ad, S0, d0, ee, hx0, hl0, hg0⟩ := at_L5 (Kd.C_below HR0.out HB.out) (j : Int) (by omega) (by omega)
      cases ee
      try simp only [Int.toNat_natCast] at hx0
      have hq := Aside0.mk (hp.out wr HB.out j hj _ _ hg0 hl0)
      have HJ := Aside0.mk hj
      clear hj
      cases hb : p (rd_L5 l0 (j : Int)) with
      | true =>
        rw [hb] at hq
        have HBB := Aside0.mk hb
        clear hb
        go_wp2_with (go_at_call 55; refine hq.out.mono ?_; rintro e w2 ⟨rfl, hb2⟩)
        go_ret
        refine ⟨(j : Int), rfl, ?_, below_step HB.out hb2⟩
        have h1 : l0.any p = true := by
          rw [List.any_eq_true]
          refine ⟨rd_L5 l0 (j : Int), ?_, HBB.out⟩
          have := HJ.out
          simp only [rd_L5, Int.toNat_natCast, List.getD_eq_getElem?_getD, List.getElem?_eq_getElem this, Option.getD_some]
          exact List.getElem_mem this
        rw [h1, decide_eq_true_iff]
        omega
      | false =>
        rw [hb] at hq
        have HBB := Aside0.mk hb
        clear hb
        go_wp2_with (go_at_call 55; refine hq.out.mono ?_; rintro e w2 ⟨rfl, hb2⟩)
        go_roundg (gk - 1)
        case measure => have := HK.out; have := HJ.out; omega
        case rel =>
          refine ⟨j + 1, by first | rfl | (rw [hw1.out]), ⟨by have := HK.out; have := HJ.out; omega⟩, ⟨?_⟩, ⟨below_step HB.out hb2⟩⟩
          intro q hq2
          by_cases hqj : q = j
          · subst hqj; exact HBB.out
          · exact HQ.out q (by omega)
    · have c0b : decide ((j : Int) < (l0.length : Int)) = false := decide_eq_false (by omega)
      have c1b : decide (j < l0.length) = false := decide_eq_false hj
      have HJ := Aside0.mk hj
      clear hj
      go_wp2
      go_ret
      refine ⟨-1, rfl, ?_, HB.out⟩
      have h1 : l0.any p = false := by
        rw [List.any_eq_false]
        intro x hx
        obtain ⟨q, hq, rfl⟩ := List.getElem_of_mem hx
        have := HQ.out q (by have := HJ.out; omega)
        simp only [rd_L5, Int.toNat_natCast, List.getD_eq_getElem?_getD, List.getElem?_eq_getElem hq, Option.getD_some] at this
        rw [this]; decide
      rw [h1]
      rfl
set_option maxHeartbeats 4000000 in
set_option maxRecDepth 100000 in
theorem most_contains  (A0 : Option Addr) (c0 : Nat) (l0 : List (List Int)) (p : (List Int) → Bool) (w : World) (hr0 : Kd.C (Kd.slice 3 (Kd.int .i64)) w A0 l0.length l0) (hc0 : l0.length ≤ c0) (hp : Aside0 (∀ (W : World), Below w.heap.size w W → ∀ (j : Nat), j < l0.length → ∀ (S0 : Option Addr) (d0 : Nat), Kd.C (Kd.int .i64) W S0 (rd_L5 l0 (j : Int)).length (rd_L5 l0 (j : Int)) → (rd_L5 l0 (j : Int)).length ≤ d0 → Calls Try.prog 55 #[.slice S0 (rd_L5 l0 (j : Int)).length d0] W fun e W' => e = .returned (.bool (p (rd_L5 l0 (j : Int)))) ∧ Below W.heap.size W W')) :
    Calls Try.prog 49 #[.slice A0 l0.length c0, .func (.func 55) #[] #[]] w fun e w' => e = .returned (.bool (l0.any p)) ∧ Below w.heap.size w w' := by
  have HI := Aside0.mk (most_index  A0 c0 l0 p w hr0 hc0 hp)
  clear hr0 hc0 hp
  generalize hg : l0.any p = b at *
  have HG := Aside0.mk hg
  clear hg
  go_enter Try.func49, Try.ntmps49
  go_wp2_with fail
  refine HI.out.mono ?_
  rintro e w1 ⟨z, rfl, hz, hb⟩
  have HZ := Aside0.mk hz
  clear hz
  go_wp2
  go_ret
  exact ⟨by have := HZ.out; subst this; rfl, hb⟩
end Go.Proofs.Ytlhaaccdiienbaa.X
