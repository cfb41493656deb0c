/- A lemma of this claim, proved by hand: what 'currency' answers, as a plain function: three bytes, each of A .. Z. -/
import Derived.Test.YtlhaaccdiienbaaX0
import Derived.Test.YtlhaaccdiienbaaShelf
import Derived.Laws.RangeString
import Derived.Laws.RangeAny
namespace Go.Proofs.Ytlhaaccdiienbaa.X
open Go.RowKit Go.Proofs.YtlhaaccdiienbaaW.PrintWords Go.Proofs.YtlhaaccdiienbaaW.PrintLast Go.Proofs.YtlhaaccdiienbaaW.PrintMore

def notCap (r : Nat) : Bool := decide ((r : Int) < 65) || decide (90 < (r : Int))
theorem notCap_calls (x : Nat) (w : World) : Calls Try.prog 135 #[.int .i32 (x : Int)] w fun e w' => e = .returned (.bool (notCap x)) ∧ w = w' := by
  unfold notCap
  by_cases h : (x : Int) < 65
  · rw [decide_eq_true h, Bool.true_or]
    have d1 : decide ((x : Int) < 65) = true := decide_eq_true h
    clear h
    go_enter Try.func135, Try.ntmps135
    go_wp2
    go_ret
    exact ⟨by first | rfl | simp, rfl⟩
  · rw [decide_eq_false h, Bool.false_or]
    have d1 : decide ((x : Int) < 65) = false := decide_eq_false h
    clear h
    go_enter Try.func135, Try.ntmps135
    go_wp2
    go_ret
    exact ⟨by first | rfl | simp, rfl⟩
def curB (s : ByteArray) : Bool := decide (s.size = 3) && !(decide (0 ≤ Lib.idxFunc notCap true s))
def money_currency.f (a0 : ByteArray) : Option (Bool) := some (curB a0)
set_option maxHeartbeats 4000000 in
set_option maxRecDepth 100000 in
theorem money_currency.calls (a0 : ByteArray) (r : Bool) (w : World) (h : money_currency.f a0 = some r) :
    Calls Try.prog 81 #[.string a0] w fun e w' => e = .returned (.bool r) ∧ Below w.heap.size w w' := by
 obtain rfl := Option.some.inj h
 clear h
 unfold curB
 by_cases h1 : a0.size = 3
 ·(
have H := Aside0.mk (Try.strings_ContainsFunc_runes 135 #[] (enters_of Try.func135 (by kernel_rfl) rfl) notCap a0 w (fun W x _ _ => (notCap_calls x W).mono (fun e w' he => ⟨he.1, 0, by rw [← he.2]; rfl⟩)))
rw [decide_eq_true h1, Bool.true_and]
have d1 : ((a0.size : Int) == 3) = true := by rw [beq_iff_eq]; omega
generalize (decide (0 ≤ Lib.idxFunc notCap true a0)) = b at *
clear h1
go_enter Try.func81, Try.ntmps81
go_wp2_with (go_at_call 134; refine H.out.mono ?_; rintro e w1 ⟨rfl, hb⟩)
go_ret
exact ⟨rfl, hb⟩
)
 ·(
rw [decide_eq_false h1, Bool.false_and]
have d1 : ((a0.size : Int) == 3) = false := by rw [beq_eq_false_iff_ne]; omega
clear h1
go_enter Try.func81, Try.ntmps81
go_wp2
go_ret
exact ⟨rfl, Below.refl _ _⟩
)
theorem idx_byte (s : ByteArray) (pos : Nat) (h : pos < s.size) : (notCap (Utf8.decode s pos).1 = true ↔ notCap (s[pos]'h).toNat = true) ∧ (notCap (s[pos]'h).toNat = false → (Utf8.decode s pos).2 = 1) := by
  by_cases ha : (s[pos]'h).toNat < 128
  · rw [Go.decode_ascii s pos h ha]; exact ⟨Iff.rfl, fun _ => rfl⟩
  · obtain ⟨h1, h2⟩ := Go.decode_high s pos h (by omega)
    have a : notCap (Utf8.decode s pos).1 = true := by unfold notCap; rw [Bool.or_eq_true]; right; exact decide_eq_true (by omega)
    have b : notCap (s[pos]'h).toNat = true := by unfold notCap; rw [Bool.or_eq_true]; right; exact decide_eq_true (by omega)
    exact ⟨⟨fun _ => b, fun _ => a⟩, fun hf => by rw [b] at hf; cases hf⟩
theorem idx_from (s : ByteArray) : ∀ (f pos : Nat), s.size ≤ pos + f → (0 ≤ Lib.idxFuncFrom notCap true s f pos ↔ ∃ q, ∃ h : q < s.size, pos ≤ q ∧ notCap (s[q]'h).toNat = true)
  | 0, pos, hf => by
    simp only [Lib.idxFuncFrom]
    exact ⟨fun h => by omega, fun ⟨q, h, hq, _⟩ => by omega⟩
  | f + 1, pos, hf => by
    unfold Lib.idxFuncFrom
    by_cases h : pos < s.size
    · rw [if_pos h]
      obtain ⟨h1, h2⟩ := idx_byte s pos h
      by_cases hc : notCap (Utf8.decode s pos).1 = true
      · rw [if_pos hc]; exact ⟨fun _ => ⟨pos, h, Nat.le_refl _, h1.mp hc⟩, fun _ => by omega⟩
      · rw [if_neg hc]
        have hn : notCap (s[pos]'h).toNat = false := by
          cases e : notCap (s[pos]'h).toNat with
          | true => exact absurd (h1.mpr e) hc
          | false => rfl
        rw [h2 hn, idx_from s f (pos + 1) (by omega)]
        constructor
        · rintro ⟨q, hq, hp, hv⟩; exact ⟨q, hq, by omega, hv⟩
        · rintro ⟨q, hq, hp, hv⟩
          by_cases e : q = pos
          · subst e; rw [hn] at hv; cases hv
          · exact ⟨q, hq, by omega, hv⟩
    · rw [if_neg h]
      exact ⟨fun h => by omega, fun ⟨q, h, hq, _⟩ => by omega⟩
/-- A currency: three bytes, each of A .. Z. -/
theorem curB_iff (s : ByteArray) : curB s = true ↔ s.size = 3 ∧ ∀ q (h : q < s.size), 65 ≤ ((s[q]'h).toNat : Int) ∧ ((s[q]'h).toNat : Int) ≤ 90 := by
  unfold curB Lib.idxFunc
  have e := idx_from s s.size 0 (by omega)
  rw [Bool.and_eq_true, decide_eq_true_eq, Bool.not_eq_true', decide_eq_false_iff_not, e]
  constructor
  · rintro ⟨h3, hn⟩
    refine ⟨h3, fun q hq => ?_⟩
    have e2 : notCap (s[q]'hq).toNat = false := by
      cases e3 : notCap (s[q]'hq).toNat with
      | true => exact absurd ⟨q, hq, Nat.zero_le _, e3⟩ hn
      | false => rfl
    unfold notCap at e2
    rw [Bool.or_eq_false_iff, decide_eq_false_iff_not, decide_eq_false_iff_not] at e2
    omega
  · rintro ⟨h3, hn⟩
    refine ⟨h3, ?_⟩
    rintro ⟨q, hq, _, hv⟩
    have := hn q hq
    unfold notCap at hv
    simp only [Bool.or_eq_true, decide_eq_true_eq] at hv
    omega
end Go.Proofs.Ytlhaaccdiienbaa.X
