/- A lemma of this claim, proved by hand: what 'Name' answers, as a plain function. -/
import Derived.Test.YtlhaaccdiienbaaX0
import Derived.Deep.RegionHeld3
namespace Go.Proofs.Ytlhaaccdiienbaa.X
open Go.RowKit Go.Proofs.YtlhaaccdiienbaaW.PrintWords Go.Proofs.YtlhaaccdiienbaaW.PrintLast Go.Proofs.YtlhaaccdiienbaaW.PrintMore

/-- Is a byte one of a name's? -/
def nameByte (c : Int) : Bool := ((decide (97 ≤ c) && decide (c ≤ 122)) || (decide (48 ≤ c) && decide (c ≤ 57))) || (c == 45)
theorem lower_one (c : Int) (w : World) : Calls Try.prog 79 #[.int .u8 c] w fun e w' => e = .returned (.bool (decide (97 ≤ c) && decide (c ≤ 122))) ∧ w = w' := by
  cases h : decide (97 ≤ c) with
  | true =>
    go_enter Try.func79, Try.ntmps79
    go_wp2
    go_ret
    exact ⟨by first | rfl | simp, rfl⟩
  | false =>
    go_enter Try.func79, Try.ntmps79
    go_wp2
    go_ret
    exact ⟨by first | rfl | simp, rfl⟩
theorem digit_one (c : Int) (w : World) : Calls Try.prog 80 #[.int .u8 c] w fun e w' => e = .returned (.bool (decide (48 ≤ c) && decide (c ≤ 57))) ∧ w = w' := by
  cases h : decide (48 ≤ c) with
  | true =>
    go_enter Try.func80, Try.ntmps80
    go_wp2
    go_ret
    exact ⟨by first | rfl | simp, rfl⟩
  | false =>
    go_enter Try.func80, Try.ntmps80
    go_wp2
    go_ret
    exact ⟨by first | rfl | simp, rfl⟩
theorem byte_one (c : Int) (w : World) : Calls Try.prog 78 #[.int .u8 c] w fun e w' => e = .returned (.bool (nameByte c)) ∧ w = w' := by
  have H1 := Aside0.mk (lower_one c w)
  have H2 := Aside0.mk (digit_one c w)
  unfold nameByte
  generalize (decide (97 ≤ c) && decide (c ≤ 122)) = a at *
  generalize (decide (48 ≤ c) && decide (c ≤ 57)) = b at *
  cases a with
  | true =>
    go_enter Try.func78, Try.ntmps78
    go_wp2_with (first | (go_at_call 79; refine H1.out.mono ?_; rintro e w1 ⟨rfl, rfl⟩))
    go_ret
    exact ⟨by first | rfl | simp, rfl⟩
  | false =>
    cases b with
    | true =>
      go_enter Try.func78, Try.ntmps78
      go_wp2_with (first | (go_at_call 79; refine H1.out.mono ?_; rintro e w1 ⟨rfl, rfl⟩) | (go_at_call 80; refine H2.out.mono ?_; rintro e w1 ⟨rfl, rfl⟩))
      go_ret
      exact ⟨by first | rfl | simp, rfl⟩
    | false =>
      go_enter Try.func78, Try.ntmps78
      go_wp2_with (first | (go_at_call 79; refine H1.out.mono ?_; rintro e w1 ⟨rfl, rfl⟩) | (go_at_call 80; refine H2.out.mono ?_; rintro e w1 ⟨rfl, rfl⟩))
      go_ret
      exact ⟨by first | rfl | simp, rfl⟩
def allNames (s : ByteArray) : Bool := s.data.toList.all fun c => nameByte (c.toNat : Int)
set_option maxHeartbeats 4000000 in
set_option maxRecDepth 100000 in
theorem all_names (s : ByteArray) (w : World) (hs : s.size ≤ 16) : Calls Try.prog 77 #[.string s, .func (.func 78) #[] #[]] w fun e w' => e = .returned (.bool (allNames s)) ∧ w = w' := by
  go_enter Try.func77, Try.ntmps77
  go_wp2
  go_loopg [8] (s.size + 1) (fun kq v w' => ∃ j : Nat, v = .int .i64 j ∧ Aside0 (j + kq = s.size + 1) ∧ Aside0 (∀ q (h : q < s.size), q < j → nameByte ((s[q]'h).toNat : Int) = true) ∧ w = w')
  case atStart => exact ⟨0, rfl, ⟨by omega⟩, ⟨fun q _ hq => absurd hq (by omega)⟩, rfl⟩
  case round =>
    obtain ⟨j, rfl, HK, HQ, rfl⟩ := hrel
    by_cases hj : j < s.size
    · cases hb : nameByte ((s[j]'hj).toNat : Int) with
      | true =>
        have HB := Aside0.mk hb
        have HC := Aside0.mk (byte_one ((s[j]'hj).toNat : Int) w)
        rw [hb] at HC
        clear hb
        go_wp2_with (go_at_call 78; refine HC.out.mono ?_; rintro e w1 ⟨rfl, rfl⟩)
        go_roundg (gk - 1)
        case measure => have := HK.out; omega
        case rel =>
          refine ⟨j + 1, by first | rfl | go_num, ⟨by have := HK.out; omega⟩, ⟨?_⟩, rfl⟩
          intro q hq hq2
          by_cases e : q = j
          · subst e; exact HB.out
          · exact HQ.out q hq (by omega)
      | false =>
        have HB := Aside0.mk hb
        have HC := Aside0.mk (byte_one ((s[j]'hj).toNat : Int) w)
        rw [hb] at HC
        clear hb
        have e : Aside0 (allNames s = false) := ⟨by
          unfold allNames
          rw [List.all_eq_false]
          refine ⟨s[j]'hj, Array.mem_toList_iff.mpr (Array.getElem_mem _), ?_⟩
          rw [HB.out]; decide⟩
        go_wp2_with (go_at_call 78; refine HC.out.mono ?_; rintro e w1 ⟨rfl, rfl⟩)
        go_ret
        exact ⟨by rw [e.out]; rfl, rfl⟩
    · have e : Aside0 (allNames s = true) := ⟨by
        unfold allNames
        rw [List.all_eq_true]
        intro c hc
        obtain ⟨q, hq, rfl⟩ := List.getElem_of_mem hc
        have hq' : q < s.size := by simpa using hq
        exact HQ.out q hq' (by omega)⟩
      go_wp2
      go_ret
      exact ⟨by rw [e.out]; rfl, rfl⟩
def nameB (s : ByteArray) : Bool := decide (1 ≤ s.size) && (decide (s.size ≤ 16) && allNames s)
def mark_Name.f (a0 : ByteArray) : Option (Bool) := some (nameB a0)
set_option maxHeartbeats 4000000 in
set_option maxRecDepth 100000 in
theorem mark_Name.calls (a0 : ByteArray) (r : Bool) (w : World) (h : mark_Name.f a0 = some r) :
    Calls Try.prog 36 #[.string a0] w fun e w' => e = .returned (.bool r) ∧ Below w.heap.size w w' := by
 obtain rfl := Option.some.inj h
 clear h
 unfold nameB
 by_cases h1 : 1 ≤ a0.size
 ·(
by_cases h2 : a0.size ≤ 16
·(
have H := Aside0.mk (all_names a0 w h2)
rw [decide_eq_true h1, decide_eq_true h2, Bool.true_and, Bool.true_and]
have d1 : decide ((1 : Int) ≤ (a0.size : Int)) = true := decide_eq_true (by omega)
have d2 : decide ((a0.size : Int) ≤ 16) = true := decide_eq_true (by omega)
generalize allNames a0 = b at *
clear h1 h2
go_enter Try.func36, Try.ntmps36
go_wp2_with (go_at_call 77; refine H.out.mono ?_; rintro e w1 ⟨rfl, rfl⟩)
go_ret
exact ⟨rfl, Below.refl _ _⟩
)
·(
rw [decide_eq_true h1, decide_eq_false h2, Bool.true_and, Bool.false_and]
have d1 : decide ((1 : Int) ≤ (a0.size : Int)) = true := decide_eq_true (by omega)
have d2 : decide ((a0.size : Int) ≤ 16) = false := decide_eq_false (by omega)
clear h1 h2
go_enter Try.func36, Try.ntmps36
go_wp2
go_ret
exact ⟨rfl, Below.refl _ _⟩
)
)
 ·(
rw [decide_eq_false h1, Bool.false_and]
have d1 : decide ((1 : Int) ≤ (a0.size : Int)) = false := decide_eq_false (by omega)
clear h1
go_enter Try.func36, Try.ntmps36
go_wp2
go_ret
exact ⟨rfl, Below.refl _ _⟩
)
end Go.Proofs.Ytlhaaccdiienbaa.X
