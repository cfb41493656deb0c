/- A lemma of this claim, proved by hand: what 'Late' answers, as a plain function. -/
import Derived.Test.YtjagffhmdafnmaaX1
import Derived.Test.YtjagffhmdafnmaaX7
import Derived.Test.YtjagffhmdafnmaaEFunc
import Derived.Test.YtjagffhmdafnmaaEAny
import Derived.Test.YtjagffhmdafnmaaEBetween
import Derived.IntWalk
namespace Go.Proofs.Ytjagffhmdafnmaa.X
open Go.RowKit Go.Proofs.YtjagffhmdafnmaaW.PrintWords Go.Proofs.YtjagffhmdafnmaaW.PrintLast Go.Proofs.YtjagffhmdafnmaaW.PrintMore
set_option linter.unusedVariables false
attribute [local go_sem] max2_int min2_int max_two min_two max_three min_three max_four min_four

/-- Is a number a day? -/
def rightB (n : Int) : Bool := decide (0 ≤ n) && decide (n ≤ 1048576)
theorem right_one (n : Int) (w : World) : Calls Try.prog 38 #[.int .i64 n] w fun e w' => e = .returned (.bool (rightB n)) ∧ w = w' := by
  unfold rightB
  cases c : decide (0 ≤ n) with
  | true =>
    go_enter Try.func38, Try.ntmps38
    go_wp2
    go_ret
    exact ⟨by first | rfl | simp, rfl⟩
  | false =>
    go_enter Try.func38, Try.ntmps38
    go_wp2
    go_ret
    exact ⟨by first | rfl | simp, rfl⟩
theorem wrong_one (n : Int) (w : World) : Calls Try.prog 37 #[.int .i64 n] w fun e w' => e = .returned (.bool (!rightB n)) ∧ w = w' := by
  have H := Aside0.mk (right_one n w)
  generalize rightB n = b at *
  go_enter Try.func37, Try.ntmps37
  go_wp2_with fail
  refine H.out.mono ?_
  rintro e w1 ⟨rfl, rfl⟩
  go_wp2
  go_ret
  exact ⟨rfl, rfl⟩
set_option maxHeartbeats 4000000 in
set_option maxRecDepth 100000 in
theorem wrong_index  (A0 : Option Addr) (c0 : Nat) (l0 : List Int) (p : Int → Bool) (w : World) (hr0 : Kd.C (Kd.int .i64) w A0 l0.length l0) (hc0 : l0.length ≤ c0) (hp : Aside0 (∀ (W : World), Below w.heap.size w W → ∀ (j : Nat), j < l0.length → Calls Try.prog 37 #[.int .i64 (rd l0 (j : Int))] W fun e W' => e = .returned (.bool (p (rd l0 (j : Int)))) ∧ Below W.heap.size W W')) :
    Calls Try.prog 49 #[.slice A0 l0.length c0, .func (.func 37) #[] #[]] w (IdxPost (l0.any p) w) := by
  have HR0 := Aside0.mk hr0
  have HC0 := Aside0.mk hc0
  have HN := Aside0.mk hr0.2.1
  clear hr0 hc0
  go_enter Try.func49, Try.ntmps49
  go_wp2
  go_loopg [8] (l0.length + 1) (fun kq v w' => ∃ j : Nat, v = .int .i64 j ∧ Aside0 (j + kq = l0.length + 1) ∧ Aside0 (∀ q : Nat, q < j → p (rd l0 (q : Int)) = false) ∧ Aside0 (Below w.heap.size w w'))
  case atStart => exact ⟨0, rfl, ⟨by omega⟩, ⟨fun q hq => absurd hq (by omega)⟩, ⟨Below.refl _ _⟩⟩
  case round =>
    obtain ⟨j, rfl, HK, HQ, HB⟩ := hrel
    by_cases hj : j < l0.length
    · have c0b : decide ((j : Int) < (l0.length : Int)) = true := decide_eq_true (by omega)
      have p0 : (0 ≤ (j : Int)) = True := eq_true (by omega)
      have q0 : ((j : Int) < (l0.length : Int)) = True := eq_true (by omega)
      have hw1 : Aside0 (wrap64 ((j : Int) + 1) = ((j + 1 : Nat) : Int)) := ⟨by have := HN.out; unfold wrap64; omega⟩
      obtain ⟨ad, ee, hx0⟩ := Kd.at_int (Kd.C_below HR0.out HB.out) (j : Int) (by omega) (by omega)
      cases ee
      try simp only [Int.toNat_natCast] at hx0
      have hq := Aside0.mk (hp.out wr HB.out j hj)
      have HJ := Aside0.mk hj
      clear hj
      cases hb : p (rd l0 (j : Int)) with
      | true =>
        rw [hb] at hq
        have HBB := Aside0.mk hb
        clear hb
        go_wp2_with (go_at_call 37; refine hq.out.mono ?_; rintro e w2 ⟨rfl, hb2⟩)
        go_ret
        refine ⟨(j : Int), rfl, ?_, below_step HB.out hb2⟩
        have h1 : l0.any p = true := by
          rw [List.any_eq_true]
          refine ⟨rd l0 (j : Int), ?_, HBB.out⟩
          have := HJ.out
          simp only [rd, Int.toNat_natCast, List.getD_eq_getElem?_getD, List.getElem?_eq_getElem this, Option.getD_some]
          exact List.getElem_mem this
        rw [h1, decide_eq_true_iff]
        omega
      | false =>
        rw [hb] at hq
        have HBB := Aside0.mk hb
        clear hb
        go_wp2_with (go_at_call 37; refine hq.out.mono ?_; rintro e w2 ⟨rfl, hb2⟩)
        go_roundg (gk - 1)
        case measure => have := HK.out; have := HJ.out; omega
        case rel =>
          refine ⟨j + 1, by first | rfl | (rw [hw1.out]), ⟨by have := HK.out; have := HJ.out; omega⟩, ⟨?_⟩, ⟨below_step HB.out hb2⟩⟩
          intro q hq2
          by_cases hqj : q = j
          · subst hqj; exact HBB.out
          · exact HQ.out q (by omega)
    · have c0b : decide ((j : Int) < (l0.length : Int)) = false := decide_eq_false (by omega)
      have c1b : decide (j < l0.length) = false := decide_eq_false hj
      have HJ := Aside0.mk hj
      clear hj
      go_wp2
      go_ret
      refine ⟨-1, rfl, ?_, HB.out⟩
      have h1 : l0.any p = false := by
        rw [List.any_eq_false]
        intro x hx
        obtain ⟨q, hq, rfl⟩ := List.getElem_of_mem hx
        have := HQ.out q (by have := HJ.out; omega)
        simp only [rd, Int.toNat_natCast, List.getD_eq_getElem?_getD, List.getElem?_eq_getElem hq, Option.getD_some] at this
        rw [this]; decide
      rw [h1]
      rfl
set_option maxHeartbeats 4000000 in
set_option maxRecDepth 100000 in
theorem wrong_contains  (A0 : Option Addr) (c0 : Nat) (l0 : List Int) (p : Int → Bool) (w : World) (hr0 : Kd.C (Kd.int .i64) w A0 l0.length l0) (hc0 : l0.length ≤ c0) (hp : Aside0 (∀ (W : World), Below w.heap.size w W → ∀ (j : Nat), j < l0.length → Calls Try.prog 37 #[.int .i64 (rd l0 (j : Int))] W fun e W' => e = .returned (.bool (p (rd l0 (j : Int)))) ∧ Below W.heap.size W W')) :
    Calls Try.prog 36 #[.slice A0 l0.length c0, .func (.func 37) #[] #[]] w fun e w' => e = .returned (.bool (l0.any p)) ∧ Below w.heap.size w w' := by
  have HI := Aside0.mk (wrong_index  A0 c0 l0 p w hr0 hc0 hp)
  clear hr0 hc0 hp
  generalize hg : l0.any p = b at *
  have HG := Aside0.mk hg
  clear hg
  go_enter Try.func36, Try.ntmps36
  go_wp2_with fail
  refine HI.out.mono ?_
  rintro e w1 ⟨z, rfl, hz, hb⟩
  have HZ := Aside0.mk hz
  clear hz
  go_wp2
  go_ret
  exact ⟨by have := HZ.out; subst this; rfl, hb⟩

def notice_Late.f (k : Nat) (l0_0 : List Int) (l0_1 : List Int) (a1_0 : ByteArray) (a1_1 : ByteArray) (a1_2 : ByteArray) (a1_3 : ByteArray) (a1_4 : ByteArray) (a1_5 : ByteArray) (a1_6 : ByteArray) (a1_7 : ByteArray) (a1_8 : Int) (a1_9 : Int) (a1_10 : Int) (a1_11 : Int) (a1_12 : Int) (a1_13 : Int) (a1_14 : Int) (a1_15 : Bool) (a1_16 : Bool) (l1_17 : List Unit) (a2 : Int) (a3 : Int) : Option (Int) :=
  if [a2, a3, a1_11, a1_12, a1_13].any (fun n => !rightB n) = true then some 1 else (notice_Expiry.f k l0_0 l0_1 a1_12).bind fun bt => if bt.2 = true then ((notice_Expiry.f k l0_0 l0_1 (wrap64 (a2 + a1_13))).bind fun bu => if bu.2 = true then (if a3 < a2 then some 6 else if a1_11 < a2 then some 11 else if mn bt.1 bu.1 < a3 then some 11 else some 0) else (if a3 < a2 then some 6 else if a1_11 < a2 then some 11 else if bt.1 < a3 then some 11 else some 0)) else some 4
theorem notice_Late.mono : ∀ l0_0 l0_1 a1_0 a1_1 a1_2 a1_3 a1_4 a1_5 a1_6 a1_7 a1_8 a1_9 a1_10 a1_11 a1_12 a1_13 a1_14 a1_15 a1_16 l1_17 a2 a3 k, LeO (notice_Late.f k l0_0 l0_1 a1_0 a1_1 a1_2 a1_3 a1_4 a1_5 a1_6 a1_7 a1_8 a1_9 a1_10 a1_11 a1_12 a1_13 a1_14 a1_15 a1_16 l1_17 a2 a3) (notice_Late.f (k + 1) l0_0 l0_1 a1_0 a1_1 a1_2 a1_3 a1_4 a1_5 a1_6 a1_7 a1_8 a1_9 a1_10 a1_11 a1_12 a1_13 a1_14 a1_15 a1_16 l1_17 a2 a3) := by
  intro l0_0 l0_1 a1_0 a1_1 a1_2 a1_3 a1_4 a1_5 a1_6 a1_7 a1_8 a1_9 a1_10 a1_11 a1_12 a1_13 a1_14 a1_15 a1_16 l1_17 a2 a3 k
  unfold notice_Late.f
  repeat' first
      | (with_reducible exact notice_Expiry.mono _ _ _ _)
      | (with_reducible exact LeO.refl _)
      | (with_reducible exact LeO.none _)
      | (with_reducible refine LeO.ite ?_ ?_)
      | (with_reducible refine LeO.bind ?_ (fun _ => ?_))
theorem late_first (w : World) (A B C : Obj) (b : Nat) (v : Value) (hb : b < w.heap.size) (h : w.cell? ⟨b, 0, none⟩ = some v) : (((w.alloc A).alloc B).alloc C).cell? ⟨b, 0, none⟩ = some v := pw_cell_below (below_alloc (below_alloc (below_alloc (Below.refl _ _) _) _) _) h

set_option maxHeartbeats 8000000 in
set_option maxRecDepth 100000 in
theorem notice_Late.calls (k : Nat) (A0_0 : Option Addr) (c0_0 : Nat) (l0_0 : List Int) (A0_1 : Option Addr) (c0_1 : Nat) (l0_1 : List Int) (a1_0 : ByteArray) (a1_1 : ByteArray) (a1_2 : ByteArray) (a1_3 : ByteArray) (a1_4 : ByteArray) (a1_5 : ByteArray) (a1_6 : ByteArray) (a1_7 : ByteArray) (a1_8 : Int) (a1_9 : Int) (a1_10 : Int) (a1_11 : Int) (a1_12 : Int) (a1_13 : Int) (a1_14 : Int) (a1_15 : Bool) (a1_16 : Bool) (A1_17 : Option Addr) (c1_17 : Nat) (l1_17 : List Unit) (a2 : Int) (a3 : Int) (r : Int) (w : World) (hr0_0 : Kd.C (Kd.int .i64) w A0_0 l0_0.length l0_0) (hc0_0 : l0_0.length ≤ c0_0) (hr0_1 : Kd.C (Kd.int .i64) w A0_1 l0_1.length l0_1) (hc0_1 : l0_1.length ≤ c0_1) (hr1_17 : Kd.C kAny w A1_17 l1_17.length l1_17) (hc1_17 : l1_17.length ≤ c1_17) (h : notice_Late.f k l0_0 l0_1 a1_0 a1_1 a1_2 a1_3 a1_4 a1_5 a1_6 a1_7 a1_8 a1_9 a1_10 a1_11 a1_12 a1_13 a1_14 a1_15 a1_16 l1_17 a2 a3 = some r) :
    Calls Try.prog 21 #[.agg #[.slice A0_0 l0_0.length c0_0, .slice A0_1 l0_1.length c0_1], .agg #[.string a1_0, .string a1_1, .string a1_2, .string a1_3, .string a1_4, .string a1_5, .string a1_6, .string a1_7, .int .i64 a1_8, .int .i64 a1_9, .int .i64 a1_10, .int .i64 a1_11, .int .i64 a1_12, .int .i64 a1_13, .int .i64 a1_14, .bool a1_15, .bool a1_16, .slice A1_17 l1_17.length c1_17], .int .i64 a2, .int .i64 a3] w fun e w' => e = .returned (.int .i64 r) ∧ Below w.heap.size w w' := by
  unfold notice_Late.f at h
  have HR0 := Aside0.mk hr0_0
  have HR1 := Aside0.mk hr0_1
  have HC0 := Aside0.mk hc0_0
  have HC1 := Aside0.mk hc0_1
  have HH := Aside0.mk h
  clear hr0_0 hr0_1 hc0_0 hc0_1 hr1_17 hc1_17 h
  go_enter Try.func21, Try.ntmps21
  go_wp2_with fail
  have HC5 : Kd.C (Kd.int .i64) (((w.alloc (.cells #[.slice A0_0 l0_0.length c0_0, .slice A0_1 l0_1.length c0_1] 24)).alloc (.cells #[.string a1_0, .string a1_1, .string a1_2, .string a1_3, .string a1_4, .string a1_5, .string a1_6, .string a1_7, .int .i64 a1_8, .int .i64 a1_9, .int .i64 a1_10, .int .i64 a1_11, .int .i64 a1_12, .int .i64 a1_13, .int .i64 a1_14, .bool a1_15, .bool a1_16, .slice A1_17 l1_17.length c1_17] 42)).alloc (.cells #[.int .i64 a2, .int .i64 a3, .int .i64 a1_11, .int .i64 a1_12, .int .i64 a1_13] 3)) (some ⟨w.heap.size + 1 + 1, 0, none⟩) [a2, a3, a1_11, a1_12, a1_13].length [a2, a3, a1_11, a1_12, a1_13] := by
    refine Kd.C_of_reads (d := (0 : Int)) (h1 := fun _ => rfl) ⟨rfl, by simp, fun _ => ⟨_, rfl, ?_⟩⟩
    have hb := blk_new ((w.alloc (.cells #[.slice A0_0 l0_0.length c0_0, .slice A0_1 l0_1.length c0_1] 24)).alloc (.cells #[.string a1_0, .string a1_1, .string a1_2, .string a1_3, .string a1_4, .string a1_5, .string a1_6, .string a1_7, .int .i64 a1_8, .int .i64 a1_9, .int .i64 a1_10, .int .i64 a1_11, .int .i64 a1_12, .int .i64 a1_13, .int .i64 a1_14, .bool a1_15, .bool a1_16, .slice A1_17 l1_17.length c1_17] 42)) (.cells #[.int .i64 a2, .int .i64 a3, .int .i64 a1_11, .int .i64 a1_12, .int .i64 a1_13] 3 (0, 0))
    rw [show ((w.alloc (.cells #[.slice A0_0 l0_0.length c0_0, .slice A0_1 l0_1.length c0_1] 24)).alloc (.cells #[.string a1_0, .string a1_1, .string a1_2, .string a1_3, .string a1_4, .string a1_5, .string a1_6, .string a1_7, .int .i64 a1_8, .int .i64 a1_9, .int .i64 a1_10, .int .i64 a1_11, .int .i64 a1_12, .int .i64 a1_13, .int .i64 a1_14, .bool a1_15, .bool a1_16, .slice A1_17 l1_17.length c1_17] 42)).heap.size = w.heap.size + 1 + 1 by simp] at hb
    intro j hj
    have hj' : j < 5 := hj
    have : j = 0 ∨ j = 1 ∨ j = 2 ∨ j = 3 ∨ j = 4 := by omega
    rw [add_plain]
    rcases this with rfl | rfl | rfl | rfl | rfl <;> exact (blk_cell hb _).trans rfl
  refine (wrong_contains (some ⟨w.heap.size + 1 + 1, 0, none⟩) 5 [a2, a3, a1_11, a1_12, a1_13] (fun n => !rightB n) _ HC5 (by simp) ⟨fun W hb j hj => (wrong_one _ W).mono (fun e w' hh => ⟨hh.1, hh.2 ▸ Below.refl _ _⟩)⟩).mono ?_
  rintro e w1 ⟨rfl, hb⟩
  obtain ⟨hc, hf⟩ := bcell hb
  have HB := Aside0.mk (below_step (w := w) (by repeat (first | exact Below.refl _ _ | apply below_alloc)) hb)
  have hz : w.heap.size + 2 < w1.heap.size := by have := hb.size; simp at this; omega
  have HX := Aside0.mk hb
  clear hb HC5
  have HH2 := HH.out
  clear HH
  generalize [a2, a3, a1_11, a1_12, a1_13].any (fun n => !rightB n) = q at *
  cases q with
  | true =>
    rw [if_pos rfl] at HH2
    obtain rfl := Option.some.inj HH2
    clear HH2
    go_wp2
    go_ret
    exact ⟨rfl, HB.out⟩
  | false =>
    rw [if_neg (by decide)] at HH2
    obtain ⟨⟨x, p⟩, AE, HH2⟩ := Option.bind_eq_some_iff.mp HH2
    have HE := Aside0.mk AE
    have HH := Aside0.mk HH2
    clear AE HH2
    go_wp2_with fail
    refine (notice_Expiry.calls k _ _ l0_0 _ _ l0_1 a1_12 x p _ (Kd.C_below HR0.out HB.out) HC0.out (Kd.C_below HR1.out HB.out) HC1.out HE.out).mono ?_
    rintro e w2 ⟨rfl, hb⟩
    clear hc hf
    have hx := below_step HX.out hb
    obtain ⟨hc, hf⟩ := bcell hx
    have HX2 := Aside0.mk hx
    clear HX
    clear hx
    have HB2 := Aside0.mk (below_step HB.out hb)
    have hz2 : w.heap.size + 2 < w2.heap.size := by have := hb.size; omega
    clear hb
    have HH2 := HH.out
    clear HH
    cases p with
    | false =>
      rw [if_neg (by decide)] at HH2
      obtain rfl := Option.some.inj HH2
      clear HH2
      go_wp2
      go_ret
      exact ⟨rfl, HB2.out⟩
    | true =>
      rw [if_pos rfl] at HH2
      obtain ⟨⟨y, s⟩, AG, HH2⟩ := Option.bind_eq_some_iff.mp HH2
      have HG := Aside0.mk AG
      clear AG
      go_wp2_with fail
      refine (notice_Expiry.calls k _ _ l0_0 _ _ l0_1 (wrap64 (a2 + a1_13)) y s _ (Kd.C_below HR0.out HB2.out) HC0.out (Kd.C_below HR1.out HB2.out) HC1.out HG.out).mono ?_
      rintro e w3 ⟨rfl, hb⟩
      clear hc hf
      have hx := below_step HX2.out hb
      obtain ⟨hc, hf⟩ := bcell hx
      clear HX2 hx
      have HB3 := Aside0.mk (below_step HB2.out hb)
      have hz3 : w.heap.size + 2 < w3.heap.size := by have := hb.size; omega
      clear hb
      cases s with
      | false =>
        rw [if_neg (by decide)] at HH2
        by_cases h1 : a3 < a2
        · rw [if_pos h1] at HH2
          obtain rfl := Option.some.inj HH2
          have d1 : decide (a3 < a2) = true := decide_eq_true h1
          clear HH2 h1
          go_wp2
          go_ret
          exact ⟨rfl, HB3.out⟩
        · rw [if_neg h1] at HH2
          have d1 : decide (a3 < a2) = false := decide_eq_false h1
          clear h1
          by_cases h2 : a1_11 < a2
          · rw [if_pos h2] at HH2
            obtain rfl := Option.some.inj HH2
            have d2 : decide (a1_11 < a2) = true := decide_eq_true h2
            clear HH2 h2
            go_wp2
            go_ret
            exact ⟨rfl, HB3.out⟩
          · rw [if_neg h2] at HH2
            have d2 : decide (a1_11 < a2) = false := decide_eq_false h2
            clear h2
            by_cases h3 : x < a3
            · rw [if_pos h3] at HH2
              obtain rfl := Option.some.inj HH2
              have d3 : decide (x < a3) = true := decide_eq_true h3
              clear HH2 h3
              go_wp2
              go_ret
              exact ⟨rfl, HB3.out⟩
            · rw [if_neg h3] at HH2
              obtain rfl := Option.some.inj HH2
              have d3 : decide (x < a3) = false := decide_eq_false h3
              clear HH2 h3
              go_wp2
              go_ret
              exact ⟨rfl, HB3.out⟩
      | true =>
        rw [if_pos rfl] at HH2
        generalize hm : mn x y = m at *
        unfold mn at hm
        by_cases h1 : a3 < a2
        · rw [if_pos h1] at HH2
          obtain rfl := Option.some.inj HH2
          have d1 : decide (a3 < a2) = true := decide_eq_true h1
          clear HH2 h1
          go_wp2
          go_ret
          exact ⟨rfl, HB3.out⟩
        · rw [if_neg h1] at HH2
          have d1 : decide (a3 < a2) = false := decide_eq_false h1
          clear h1
          by_cases h2 : a1_11 < a2
          · rw [if_pos h2] at HH2
            obtain rfl := Option.some.inj HH2
            have d2 : decide (a1_11 < a2) = true := decide_eq_true h2
            clear HH2 h2
            go_wp2
            go_ret
            exact ⟨rfl, HB3.out⟩
          · rw [if_neg h2] at HH2
            have d2 : decide (a1_11 < a2) = false := decide_eq_false h2
            clear h2
            by_cases h3 : m < a3
            · rw [if_pos h3] at HH2
              obtain rfl := Option.some.inj HH2
              have d3 : decide (m < a3) = true := decide_eq_true h3
              clear HH2 h3
              go_wp2
              go_ret
              exact ⟨rfl, HB3.out⟩
            · rw [if_neg h3] at HH2
              obtain rfl := Option.some.inj HH2
              have d3 : decide (m < a3) = false := decide_eq_false h3
              clear HH2 h3
              go_wp2
              go_ret
              exact ⟨rfl, HB3.out⟩
end Go.Proofs.Ytjagffhmdafnmaa.X
