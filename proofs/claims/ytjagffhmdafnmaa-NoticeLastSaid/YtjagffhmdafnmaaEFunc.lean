/- Lemmas of this claim, proved by hand: searches by a closure. -/
import Derived.Test.YtjagffhmdafnmaaX2
import Derived.Test.YtjagffhmdafnmaaEOwn
import Derived.Deep.RegionHeld3
namespace Go.Proofs.Ytjagffhmdafnmaa.X
open Go.RowKit Go.Proofs.YtjagffhmdafnmaaW.PrintWords Go.Proofs.YtjagffhmdafnmaaW.PrintLast Go.Proofs.YtjagffhmdafnmaaW.PrintMore

/-- What a search answers: a place, if there is one. -/
def IdxPost (b : Bool) (w : World) (e : Ending) (w' : World) : Prop := ∃ z : Int, e = .returned (.int .i64 z) ∧ decide (0 ≤ z) = b ∧ Below w.heap.size w w'
set_option maxHeartbeats 4000000 in
set_option maxRecDepth 100000 in
theorem told_index (q0 : Addr) (A0 : Option Addr) (c0 : Nat) (l0 : List (S36)) (p : (S36) → Bool) (w : World) (hr0 : Kd.C k36 w A0 l0.length l0) (hc0 : l0.length ≤ c0) (hp : Aside0 (∀ (W : World), Below w.heap.size w W → ∀ (j : Nat), j < l0.length → Calls Try.prog 33 #[.agg #[.int .i64 (rd_T36 l0 (j : Int)).f0, .int .i64 (rd_T36 l0 (j : Int)).f1, .string (rd_T36 l0 (j : Int)).f2, .int .i64 (rd_T36 l0 (j : Int)).f3], .pointer (some q0)] W fun e W' => e = .returned (.bool (p (rd_T36 l0 (j : Int)))) ∧ Below W.heap.size W W')) :
    Calls Try.prog 47 #[.slice A0 l0.length c0, .func (.func 33) #[] #[.pointer (some q0)]] w (IdxPost (l0.any p) w) := by
  have HR0 := Aside0.mk hr0
  have HC0 := Aside0.mk hc0
  have HN := Aside0.mk hr0.2.1
  clear hr0 hc0
  go_enter Try.func47, Try.ntmps47
  go_wp2
  go_loopg [8] (l0.length + 1) (fun kq v w' => ∃ j : Nat, v = .int .i64 j ∧ Aside0 (j + kq = l0.length + 1) ∧ Aside0 (∀ q : Nat, q < j → p (rd_T36 l0 (q : Int)) = false) ∧ Aside0 (Below w.heap.size w w'))
  case atStart => exact ⟨0, rfl, ⟨by omega⟩, ⟨fun q hq => absurd hq (by omega)⟩, ⟨Below.refl _ _⟩⟩
  case round =>
    obtain ⟨j, rfl, HK, HQ, HB⟩ := hrel
    by_cases hj : j < l0.length
    · have c0b : decide ((j : Int) < (l0.length : Int)) = true := decide_eq_true (by omega)
      have p0 : (0 ≤ (j : Int)) = True := eq_true (by omega)
      have q0 : ((j : Int) < (l0.length : Int)) = True := eq_true (by omega)
      have hw1 : Aside0 (wrap64 ((j : Int) + 1) = ((j + 1 : Nat) : Int)) := ⟨by have := HN.out; unfold wrap64; omega⟩
      obtain ⟨ad, ee, hx0, hx1, hx2, hx3⟩ := at_T36 (Kd.C_below HR0.out HB.out) (j : Int) (by omega) (by omega)
      cases ee
      try simp only [Int.toNat_natCast] at hx0 hx1 hx2 hx3
      have hq := Aside0.mk (hp.out wr HB.out j hj)
      have HJ := Aside0.mk hj
      clear hj
      cases hb : p (rd_T36 l0 (j : Int)) with
      | true =>
        rw [hb] at hq
        have HBB := Aside0.mk hb
        clear hb
        go_wp2_with (go_at_call 33; refine hq.out.mono ?_; rintro e w2 ⟨rfl, hb2⟩)
        go_ret
        refine ⟨(j : Int), rfl, ?_, below_step HB.out hb2⟩
        have h1 : l0.any p = true := by
          rw [List.any_eq_true]
          refine ⟨rd_T36 l0 (j : Int), ?_, HBB.out⟩
          have := HJ.out
          simp only [rd_T36, Int.toNat_natCast, List.getD_eq_getElem?_getD, List.getElem?_eq_getElem this, Option.getD_some]
          exact List.getElem_mem this
        rw [h1, decide_eq_true_iff]
        omega
      | false =>
        rw [hb] at hq
        have HBB := Aside0.mk hb
        clear hb
        go_wp2_with (go_at_call 33; refine hq.out.mono ?_; rintro e w2 ⟨rfl, hb2⟩)
        go_roundg (gk - 1)
        case measure => have := HK.out; have := HJ.out; omega
        case rel =>
          refine ⟨j + 1, by first | rfl | (rw [hw1.out]), ⟨by have := HK.out; have := HJ.out; omega⟩, ⟨?_⟩, ⟨below_step HB.out hb2⟩⟩
          intro q hq2
          by_cases hqj : q = j
          · subst hqj; exact HBB.out
          · exact HQ.out q (by omega)
    · have c0b : decide ((j : Int) < (l0.length : Int)) = false := decide_eq_false (by omega)
      have c1b : decide (j < l0.length) = false := decide_eq_false hj
      have HJ := Aside0.mk hj
      clear hj
      go_wp2
      go_ret
      refine ⟨-1, rfl, ?_, HB.out⟩
      have h1 : l0.any p = false := by
        rw [List.any_eq_false]
        intro x hx
        obtain ⟨q, hq, rfl⟩ := List.getElem_of_mem hx
        have := HQ.out q (by have := HJ.out; omega)
        simp only [rd_T36, Int.toNat_natCast, List.getD_eq_getElem?_getD, List.getElem?_eq_getElem hq, Option.getD_some] at this
        rw [this]; decide
      rw [h1]
      rfl
set_option maxHeartbeats 4000000 in
set_option maxRecDepth 100000 in
theorem told_contains (q0 : Addr) (A0 : Option Addr) (c0 : Nat) (l0 : List (S36)) (p : (S36) → Bool) (w : World) (hr0 : Kd.C k36 w A0 l0.length l0) (hc0 : l0.length ≤ c0) (hp : Aside0 (∀ (W : World), Below w.heap.size w W → ∀ (j : Nat), j < l0.length → Calls Try.prog 33 #[.agg #[.int .i64 (rd_T36 l0 (j : Int)).f0, .int .i64 (rd_T36 l0 (j : Int)).f1, .string (rd_T36 l0 (j : Int)).f2, .int .i64 (rd_T36 l0 (j : Int)).f3], .pointer (some q0)] W fun e W' => e = .returned (.bool (p (rd_T36 l0 (j : Int)))) ∧ Below W.heap.size W W')) :
    Calls Try.prog 32 #[.slice A0 l0.length c0, .func (.func 33) #[] #[.pointer (some q0)]] w fun e w' => e = .returned (.bool (l0.any p)) ∧ Below w.heap.size w w' := by
  have HI := Aside0.mk (told_index q0 A0 c0 l0 p w hr0 hc0 hp)
  clear hr0 hc0 hp
  generalize hg : l0.any p = b at *
  have HG := Aside0.mk hg
  clear hg
  go_enter Try.func32, Try.ntmps32
  go_wp2_with fail
  refine HI.out.mono ?_
  rintro e w1 ⟨z, rfl, hz, hb⟩
  have HZ := Aside0.mk hz
  clear hz
  go_wp2
  go_ret
  exact ⟨by have := HZ.out; subst this; rfl, hb⟩
end Go.Proofs.Ytjagffhmdafnmaa.X
