-- Written for this claim by a program of this session (wip/tools/xprint.py) out of the translation.
import Derived.Test.YtlhaaccdiienbaaX0
import Derived.Test.YtlhaaccdiienbaaX6
namespace Go.Proofs.Ytlhaaccdiienbaa.X
open Go.RowKit Go.Proofs.YtlhaaccdiienbaaW.PrintWords Go.Proofs.YtlhaaccdiienbaaW.PrintLast Go.Proofs.YtlhaaccdiienbaaW.PrintMore
attribute [local go_sem] max2_int min2_int max_two min_two max_three min_three max_four min_four   -- for this text's walks alone
set_option linter.unusedVariables false
set_option linter.unusedSimpArgs false

def sr03_Name.l0 : Nat → ByteArray → Int → Option (Bool)
 | 0, _, _ => none
 | k + 1, x0, x3 => if x3 < (x0.size : Int) then (if 0 ≤ x3 then ((sr03_letter.f (bt x0 x3)).bind fun t139 => (if t139 = true then (sr03_Name.l0 k x0 (wrap64 (x3 + 1))) else ((sr03_digit.f (bt x0 x3)).bind fun t140 => (if t140 = true then (sr03_Name.l0 k x0 (wrap64 (x3 + 1))) else (if (bt x0 x3) = 45 then (sr03_Name.l0 k x0 (wrap64 (x3 + 1))) else (some false)))))) else (none)) else (if (x0.size : Int) ≥ 1 then (some (decide ((x0.size : Int) ≤ 16))) else (some false))
def sr03_Name.f (k : Nat) (a0 : ByteArray) : Option (Bool) := sr03_Name.l0 k a0 0
theorem sr03_Name.mono_l : ∀ k, (∀ y0 y1, LeO (sr03_Name.l0 k y0 y1) (sr03_Name.l0 (k + 1) y0 y1))
 | 0 => fun _ _ r h => by simp [sr03_Name.l0] at h
 | k + 1 => by
  have ih0 := sr03_Name.mono_l k
  ·intro y0 y1
   unfold sr03_Name.l0
   repeat' first
   | (with_reducible exact ih0 _ _)
   | (with_reducible exact LeO.refl _)
   | (with_reducible exact LeO.none _)
   | (with_reducible refine LeO.ite ?_ ?_)
   | (with_reducible refine LeO.bind ?_ (fun _ => ?_))
   | exact ih0 _ _
   | exact LeO.none _
   | refine LeO.ite ?_ ?_
   | refine LeO.bind ?_ (fun _ => ?_)
theorem sr03_Name.mono : ∀ a0 k, LeO (sr03_Name.f k a0) (sr03_Name.f (k + 1) a0) := by
 intro a0 k
 have ih0 := sr03_Name.mono_l k
 unfold sr03_Name.f
 repeat' first
   | (with_reducible exact ih0 _ _)
   | (with_reducible exact LeO.refl _)
   | (with_reducible exact LeO.none _)
   | (with_reducible refine LeO.ite ?_ ?_)
   | (with_reducible refine LeO.bind ?_ (fun _ => ?_))
   | exact ih0 _ _
   | exact LeO.none _
   | refine LeO.ite ?_ ?_
   | refine LeO.bind ?_ (fun _ => ?_)
set_option maxHeartbeats 8000000 in
set_option maxRecDepth 100000 in
theorem sr03_Name.calls (k : Nat) (a0 : ByteArray) (r : Bool) (w : World) (h : sr03_Name.f k a0 = some r) :
  Calls Try.prog 39 #[.string a0] w fun e w' => e = .returned (.bool r) ∧ Drawn0 w w' := by
 have H : (sr03_Name.l0 k a0 0) = some r := h
 clear h
 have H' := Aside0.mk H
 clear H
 go_enter Try.func39, Try.ntmps39
 go_wp2
 go_loopg [3] k (fun kq v3 w' => ∃ (x3_1 : Int), v3 = .int .i64 x3_1 ∧ Aside0 (sr03_Name.l0 kq a0 x3_1 = some r) ∧ Aside0 (kq ≤ k) ∧ Drawn0 w w')
 case atStart => exact ⟨(0), (by first | rfl | (simp; done) | (simp [*]; done)), H', ⟨Nat.le_refl _⟩, by repeat (first | exact Drawn0.refl _ | apply Drawn0.step)⟩
 case round => (
clear H'
obtain ⟨x3_1, rfl, HA, HK1, ⟨m1, rfl⟩⟩ := hrel
cases gk with
| zero => exact absurd HA.out (by simp [sr03_Name.l0])
| succ k1 => (
have H := HA.out
clear HA
simp only [sr03_Name.l0] at H
by_cases c2 : x3_1 < (a0.size : Int)
·(
rw [if_pos c2] at H
have c2b0 : decide (x3_1 < (a0.size : Int)) = true := decide_eq_true c2
clear c2
by_cases c3 : 0 ≤ x3_1
·(
rw [if_pos c3] at H
have c3b0 : decide (0 ≤ x3_1) = true := decide_eq_true c3
clear c3
replace H := Option.bind_eq_some_iff.mp H
obtain ⟨t139, A50, H⟩ := H
replace H : (if t139 = true then (sr03_Name.l0 k1 a0 (wrap64 (x3_1 + 1))) else ((sr03_digit.f (bt a0 x3_1)).bind fun t140 => (if t140 = true then (sr03_Name.l0 k1 a0 (wrap64 (x3_1 + 1))) else (if (bt a0 x3_1) = 45 then (sr03_Name.l0 k1 a0 (wrap64 (x3_1 + 1))) else (some false))))) = some r := H
have A5 := Aside0.mk A50
clear A50
by_cases c6 : t139 = true
·(
subst c6
have H1 : (sr03_Name.l0 k1 a0 (wrap64 (x3_1 + 1))) = some r := by rw [if_pos rfl] at H; exact H
clear H
have H := H1
clear H1
have H' := Aside0.mk H
clear H
have p4 : 0 ≤ (x3_1 : Int) := of_decide_eq_true (by first | (with_reducible assumption) | assumption)
have q4 : x3_1 < (a0.size : Int) := of_decide_eq_true (by first | (with_reducible assumption) | assumption)
have hx4 := bt_at a0 x3_1
replace p4 := eq_true p4
replace q4 := eq_true q4
go_wp2_with (first | ((with_reducible refine gate_callee (f := 84) rfl ?_); refine goesL_ (some 13) rfl rfl Try.func84 (by kernel_rfl) rfl #[.int .u8 (bt a0 x3_1)] rfl (by (try simp only [List.map_toArray, List.map_cons, List.map_nil]); first | done | rfl | (simp only [List.length_drop, List.length_take]; rfl)) ?_; (with_reducible refine (sr03_letter.calls (bt a0 x3_1) true _ A5.out).mono ?_); rintro e w' ⟨rfl, ⟨nd, rfl⟩⟩; refine ⟨_, rfl, ?_⟩))
go_roundg k1
case measure => have := HK1.out; omega
case rel => exact ⟨(wrap64 (x3_1 + 1)), (by first | rfl | (simp; done) | (simp [*]; done)), H', ⟨by have := HK1.out; omega⟩, by repeat (first | exact Drawn0.refl _ | apply Drawn0.step)⟩
)
·(
replace c6 := Bool.eq_false_iff.mpr c6
subst c6
have H1 : ((sr03_digit.f (bt a0 x3_1)).bind fun t140 => (if t140 = true then (sr03_Name.l0 k1 a0 (wrap64 (x3_1 + 1))) else (if (bt a0 x3_1) = 45 then (sr03_Name.l0 k1 a0 (wrap64 (x3_1 + 1))) else (some false)))) = some r := by rw [if_neg (show ¬ (false = true) by decide)] at H; exact H
clear H
have H := H1
clear H1
replace H := Option.bind_eq_some_iff.mp H
obtain ⟨t140, A80, H⟩ := H
replace H : (if t140 = true then (sr03_Name.l0 k1 a0 (wrap64 (x3_1 + 1))) else (if (bt a0 x3_1) = 45 then (sr03_Name.l0 k1 a0 (wrap64 (x3_1 + 1))) else (some false))) = some r := H
have A8 := Aside0.mk A80
clear A80
by_cases c9 : t140 = true
·(
subst c9
have H1 : (sr03_Name.l0 k1 a0 (wrap64 (x3_1 + 1))) = some r := by rw [if_pos rfl] at H; exact H
clear H
have H := H1
clear H1
have H' := Aside0.mk H
clear H
have p4 : 0 ≤ (x3_1 : Int) := of_decide_eq_true (by first | (with_reducible assumption) | assumption)
have q4 : x3_1 < (a0.size : Int) := of_decide_eq_true (by first | (with_reducible assumption) | assumption)
have hx4 := bt_at a0 x3_1
replace p4 := eq_true p4
replace q4 := eq_true q4
go_wp2_with (first | ((with_reducible refine gate_callee (f := 84) rfl ?_); refine goesL_ (some 13) rfl rfl Try.func84 (by kernel_rfl) rfl #[.int .u8 (bt a0 x3_1)] rfl (by (try simp only [List.map_toArray, List.map_cons, List.map_nil]); first | done | rfl | (simp only [List.length_drop, List.length_take]; rfl)) ?_; (with_reducible refine (sr03_letter.calls (bt a0 x3_1) false _ A5.out).mono ?_); rintro e w' ⟨rfl, ⟨nd, rfl⟩⟩; refine ⟨_, rfl, ?_⟩; have p7 : 0 ≤ (x3_1 : Int) := of_decide_eq_true (by first | (with_reducible assumption) | assumption); have q7 : x3_1 < (a0.size : Int) := of_decide_eq_true (by first | (with_reducible assumption) | assumption); have hx7 := bt_at a0 x3_1; replace p7 := eq_true p7; replace q7 := eq_true q7) | (go_at_call 85; (with_reducible refine (sr03_digit.calls (bt a0 x3_1) true _ A8.out).mono ?_); rintro e w' ⟨rfl, ⟨nd, rfl⟩⟩))
go_roundg k1
case measure => have := HK1.out; omega
case rel => exact ⟨(wrap64 (x3_1 + 1)), (by first | rfl | (simp; done) | (simp [*]; done)), H', ⟨by have := HK1.out; omega⟩, by repeat (first | exact Drawn0.refl _ | apply Drawn0.step)⟩
)
·(
replace c9 := Bool.eq_false_iff.mpr c9
subst c9
have H1 : (if (bt a0 x3_1) = 45 then (sr03_Name.l0 k1 a0 (wrap64 (x3_1 + 1))) else (some false)) = some r := by rw [if_neg (show ¬ (false = true) by decide)] at H; exact H
clear H
have H := H1
clear H1
by_cases c11 : (bt a0 x3_1) = 45
·(
rw [if_pos c11] at H
have c11b0 : ((bt a0 x3_1) == 45) = true := beq_iff_eq.mpr c11
have c11b1 : ((bt a0 x3_1) != 45) = false := bne_eq_false_iff_eq.mpr c11
clear c11
have H' := Aside0.mk H
clear H
have p4 : 0 ≤ (x3_1 : Int) := of_decide_eq_true (by first | (with_reducible assumption) | assumption)
have q4 : x3_1 < (a0.size : Int) := of_decide_eq_true (by first | (with_reducible assumption) | assumption)
have hx4 := bt_at a0 x3_1
replace p4 := eq_true p4
replace q4 := eq_true q4
go_wp2_with (first | ((with_reducible refine gate_callee (f := 84) rfl ?_); refine goesL_ (some 13) rfl rfl Try.func84 (by kernel_rfl) rfl #[.int .u8 (bt a0 x3_1)] rfl (by (try simp only [List.map_toArray, List.map_cons, List.map_nil]); first | done | rfl | (simp only [List.length_drop, List.length_take]; rfl)) ?_; (with_reducible refine (sr03_letter.calls (bt a0 x3_1) false _ A5.out).mono ?_); rintro e w' ⟨rfl, ⟨nd, rfl⟩⟩; refine ⟨_, rfl, ?_⟩; have p7 : 0 ≤ (x3_1 : Int) := of_decide_eq_true (by first | (with_reducible assumption) | assumption); have q7 : x3_1 < (a0.size : Int) := of_decide_eq_true (by first | (with_reducible assumption) | assumption); have hx7 := bt_at a0 x3_1; replace p7 := eq_true p7; replace q7 := eq_true q7) | (go_at_call 85; (with_reducible refine (sr03_digit.calls (bt a0 x3_1) false _ A8.out).mono ?_); rintro e w' ⟨rfl, ⟨nd, rfl⟩⟩; have p10 : 0 ≤ (x3_1 : Int) := of_decide_eq_true (by first | (with_reducible assumption) | assumption); have q10 : x3_1 < (a0.size : Int) := of_decide_eq_true (by first | (with_reducible assumption) | assumption); have hx10 := bt_at a0 x3_1; replace p10 := eq_true p10; replace q10 := eq_true q10))
go_roundg k1
case measure => have := HK1.out; omega
case rel => exact ⟨(wrap64 (x3_1 + 1)), (by first | rfl | (simp; done) | (simp [*]; done)), H', ⟨by have := HK1.out; omega⟩, by repeat (first | exact Drawn0.refl _ | apply Drawn0.step)⟩
)
·(
rw [if_neg c11] at H
have c11b0 : ((bt a0 x3_1) == 45) = false := beq_eq_false_iff_ne.mpr c11
have c11b1 : ((bt a0 x3_1) != 45) = true := bne_iff_ne.mpr c11
obtain rfl := Option.some.inj H
have p4 : 0 ≤ (x3_1 : Int) := of_decide_eq_true (by first | (with_reducible assumption) | assumption)
have q4 : x3_1 < (a0.size : Int) := of_decide_eq_true (by first | (with_reducible assumption) | assumption)
have hx4 := bt_at a0 x3_1
replace p4 := eq_true p4
replace q4 := eq_true q4
go_wp2_with (first | ((with_reducible refine gate_callee (f := 84) rfl ?_); refine goesL_ (some 13) rfl rfl Try.func84 (by kernel_rfl) rfl #[.int .u8 (bt a0 x3_1)] rfl (by (try simp only [List.map_toArray, List.map_cons, List.map_nil]); first | done | rfl | (simp only [List.length_drop, List.length_take]; rfl)) ?_; (with_reducible refine (sr03_letter.calls (bt a0 x3_1) false _ A5.out).mono ?_); rintro e w' ⟨rfl, ⟨nd, rfl⟩⟩; refine ⟨_, rfl, ?_⟩; have p7 : 0 ≤ (x3_1 : Int) := of_decide_eq_true (by first | (with_reducible assumption) | assumption); have q7 : x3_1 < (a0.size : Int) := of_decide_eq_true (by first | (with_reducible assumption) | assumption); have hx7 := bt_at a0 x3_1; replace p7 := eq_true p7; replace q7 := eq_true q7) | (go_at_call 85; (with_reducible refine (sr03_digit.calls (bt a0 x3_1) false _ A8.out).mono ?_); rintro e w' ⟨rfl, ⟨nd, rfl⟩⟩; have p10 : 0 ≤ (x3_1 : Int) := of_decide_eq_true (by first | (with_reducible assumption) | assumption); have q10 : x3_1 < (a0.size : Int) := of_decide_eq_true (by first | (with_reducible assumption) | assumption); have hx10 := bt_at a0 x3_1; replace p10 := eq_true p10; replace q10 := eq_true q10))
go_ret
exact ⟨by first | rfl | (simp; done) | (simp [*]; done), by repeat (first | exact Drawn0.refl _ | apply Drawn0.step)⟩
)
)
)
)
·(
rw [if_neg c3] at H
exact absurd H (by simp)
)
)
·(
rw [if_neg c2] at H
have c2b0 : decide (x3_1 < (a0.size : Int)) = false := decide_eq_false c2
clear c2
by_cases c12 : (a0.size : Int) ≥ 1
·(
rw [if_pos c12] at H
have c12b0 : decide (1 ≤ (a0.size : Int)) = true := decide_eq_true c12
have c12b1 : decide (1 ≤ a0.size) = true := decide_eq_true (by omega)
clear c12
obtain rfl := Option.some.inj H
go_wp2
go_ret
exact ⟨by first | rfl | (simp; done) | (simp [*]; done), by repeat (first | exact Drawn0.refl _ | apply Drawn0.step)⟩
)
·(
rw [if_neg c12] at H
have c12b0 : decide (1 ≤ (a0.size : Int)) = false := decide_eq_false c12
have c12b1 : decide (1 ≤ a0.size) = false := decide_eq_false (by omega)
clear c12
obtain rfl := Option.some.inj H
go_wp2
go_ret
exact ⟨by first | rfl | (simp; done) | (simp [*]; done), by repeat (first | exact Drawn0.refl _ | apply Drawn0.step)⟩
)
)
)
)

def sr01_Currency.l0 : Nat → ByteArray → Int → Option (Bool)
 | 0, _, _ => none
 | k + 1, x0, x3 => if x3 < 3 then (if 0 ≤ x3 then (if x3 < (x0.size : Int) then (if (bt x0 x3) < 65 then (some false) else (if (bt x0 x3) > 90 then (some false) else (sr01_Currency.l0 k x0 (wrap64 (x3 + 1))))) else (none)) else (none)) else (some true)
def sr01_Currency.f (k : Nat) (a0 : ByteArray) : Option (Bool) := if (a0.size : Int) = 3 then (sr01_Currency.l0 k a0 0) else (some false)
theorem sr01_Currency.mono_l : ∀ k, (∀ y0 y1, LeO (sr01_Currency.l0 k y0 y1) (sr01_Currency.l0 (k + 1) y0 y1))
 | 0 => fun _ _ r h => by simp [sr01_Currency.l0] at h
 | k + 1 => by
  have ih0 := sr01_Currency.mono_l k
  ·intro y0 y1
   unfold sr01_Currency.l0
   repeat' first
   | (with_reducible exact ih0 _ _)
   | (with_reducible exact LeO.refl _)
   | (with_reducible exact LeO.none _)
   | (with_reducible refine LeO.ite ?_ ?_)
   | (with_reducible refine LeO.bind ?_ (fun _ => ?_))
   | exact ih0 _ _
   | exact LeO.none _
   | refine LeO.ite ?_ ?_
   | refine LeO.bind ?_ (fun _ => ?_)
theorem sr01_Currency.mono : ∀ a0 k, LeO (sr01_Currency.f k a0) (sr01_Currency.f (k + 1) a0) := by
 intro a0 k
 have ih0 := sr01_Currency.mono_l k
 unfold sr01_Currency.f
 repeat' first
   | (with_reducible exact ih0 _ _)
   | (with_reducible exact LeO.refl _)
   | (with_reducible exact LeO.none _)
   | (with_reducible refine LeO.ite ?_ ?_)
   | (with_reducible refine LeO.bind ?_ (fun _ => ?_))
   | exact ih0 _ _
   | exact LeO.none _
   | refine LeO.ite ?_ ?_
   | refine LeO.bind ?_ (fun _ => ?_)
set_option maxHeartbeats 8000000 in
set_option maxRecDepth 100000 in
theorem sr01_Currency.calls (k : Nat) (a0 : ByteArray) (r : Bool) (w : World) (h : sr01_Currency.f k a0 = some r) :
  Calls Try.prog 40 #[.string a0] w fun e w' => e = .returned (.bool r) ∧ Drawn0 w w' := by
 have H : (if (a0.size : Int) = 3 then (sr01_Currency.l0 k a0 0) else (some false)) = some r := h
 clear h
 by_cases c2 : (a0.size : Int) = 3
 ·(
rw [if_pos c2] at H
have c2b0 : ((a0.size : Int) == 3) = true := beq_iff_eq.mpr c2
have c2b1 : ((a0.size : Int) != 3) = false := bne_eq_false_iff_eq.mpr c2
clear c2
have H' := Aside0.mk H
clear H
go_enter Try.func40, Try.ntmps40
go_wp2
go_loopg [3] k (fun kq v3 w' => ∃ (x3_1 : Int), v3 = .int .i64 x3_1 ∧ Aside0 (sr01_Currency.l0 kq a0 x3_1 = some r) ∧ Aside0 (kq ≤ k) ∧ Drawn0 w w')
case atStart => exact ⟨(0), (by first | rfl | (simp; done) | (simp [*]; done)), H', ⟨Nat.le_refl _⟩, by repeat (first | exact Drawn0.refl _ | apply Drawn0.step)⟩
case round => (
clear H'
try clear c2
try clear c2b0
try clear c2b1
try clear p2
obtain ⟨x3_1, rfl, HA, HK1, ⟨m1, rfl⟩⟩ := hrel
cases gk with
| zero => exact absurd HA.out (by simp [sr01_Currency.l0])
| succ k1 => (
have H := HA.out
clear HA
simp only [sr01_Currency.l0] at H
by_cases c3 : x3_1 < 3
·(
rw [if_pos c3] at H
have c3b0 : decide (x3_1 < 3) = true := decide_eq_true c3
clear c3
by_cases c4 : 0 ≤ x3_1
·(
rw [if_pos c4] at H
have c4b0 : decide (0 ≤ x3_1) = true := decide_eq_true c4
clear c4
by_cases c5 : x3_1 < (a0.size : Int)
·(
rw [if_pos c5] at H
have c5b0 : decide (x3_1 < (a0.size : Int)) = true := decide_eq_true c5
clear c5
by_cases c7 : (bt a0 x3_1) < 65
·(
rw [if_pos c7] at H
have c7b0 : decide ((bt a0 x3_1) < 65) = true := decide_eq_true c7
clear c7
obtain rfl := Option.some.inj H
have p6 : 0 ≤ (x3_1 : Int) := of_decide_eq_true (by first | (with_reducible assumption) | assumption)
have q6 : x3_1 < (a0.size : Int) := of_decide_eq_true (by first | (with_reducible assumption) | assumption)
have hx6 := bt_at a0 x3_1
replace p6 := eq_true p6
replace q6 := eq_true q6
go_wp2
go_ret
exact ⟨by first | rfl | (simp; done) | (simp [*]; done), by repeat (first | exact Drawn0.refl _ | apply Drawn0.step)⟩
)
·(
rw [if_neg c7] at H
have c7b0 : decide ((bt a0 x3_1) < 65) = false := decide_eq_false c7
clear c7
by_cases c9 : (bt a0 x3_1) > 90
·(
rw [if_pos c9] at H
have c9b0 : decide (90 < (bt a0 x3_1)) = true := decide_eq_true c9
clear c9
obtain rfl := Option.some.inj H
have p6 : 0 ≤ (x3_1 : Int) := of_decide_eq_true (by first | (with_reducible assumption) | assumption)
have q6 : x3_1 < (a0.size : Int) := of_decide_eq_true (by first | (with_reducible assumption) | assumption)
have hx6 := bt_at a0 x3_1
replace p6 := eq_true p6
replace q6 := eq_true q6
have p8 : 0 ≤ (x3_1 : Int) := of_decide_eq_true (by first | (with_reducible assumption) | assumption)
have q8 : x3_1 < (a0.size : Int) := of_decide_eq_true (by first | (with_reducible assumption) | assumption)
have hx8 := bt_at a0 x3_1
replace p8 := eq_true p8
replace q8 := eq_true q8
go_wp2
go_ret
exact ⟨by first | rfl | (simp; done) | (simp [*]; done), by repeat (first | exact Drawn0.refl _ | apply Drawn0.step)⟩
)
·(
rw [if_neg c9] at H
have c9b0 : decide (90 < (bt a0 x3_1)) = false := decide_eq_false c9
clear c9
have H' := Aside0.mk H
clear H
have p6 : 0 ≤ (x3_1 : Int) := of_decide_eq_true (by first | (with_reducible assumption) | assumption)
have q6 : x3_1 < (a0.size : Int) := of_decide_eq_true (by first | (with_reducible assumption) | assumption)
have hx6 := bt_at a0 x3_1
replace p6 := eq_true p6
replace q6 := eq_true q6
have p8 : 0 ≤ (x3_1 : Int) := of_decide_eq_true (by first | (with_reducible assumption) | assumption)
have q8 : x3_1 < (a0.size : Int) := of_decide_eq_true (by first | (with_reducible assumption) | assumption)
have hx8 := bt_at a0 x3_1
replace p8 := eq_true p8
replace q8 := eq_true q8
go_wp2
go_roundg k1
case measure => have := HK1.out; omega
case rel => exact ⟨(wrap64 (x3_1 + 1)), (by first | rfl | (simp; done) | (simp [*]; done)), H', ⟨by have := HK1.out; omega⟩, by repeat (first | exact Drawn0.refl _ | apply Drawn0.step)⟩
)
)
)
·(
rw [if_neg c5] at H
exact absurd H (by simp)
)
)
·(
rw [if_neg c4] at H
exact absurd H (by simp)
)
)
·(
rw [if_neg c3] at H
have c3b0 : decide (x3_1 < 3) = false := decide_eq_false c3
clear c3
obtain rfl := Option.some.inj H
go_wp2
go_ret
exact ⟨by first | rfl | (simp; done) | (simp [*]; done), by repeat (first | exact Drawn0.refl _ | apply Drawn0.step)⟩
)
)
)
)
 ·(
rw [if_neg c2] at H
have c2b0 : ((a0.size : Int) == 3) = false := beq_eq_false_iff_ne.mpr c2
have c2b1 : ((a0.size : Int) != 3) = true := bne_iff_ne.mpr c2
obtain rfl := Option.some.inj H
go_enter Try.func40, Try.ntmps40
go_wp2
go_ret
exact ⟨by first | rfl | (simp; done) | (simp [*]; done), by repeat (first | exact Drawn0.refl _ | apply Drawn0.step)⟩
)

def sr19_Find.l0 : Nat → List (S65) → ByteArray → Int → Option (Int)
 | 0, _, _, _ => none
 | k + 1, x0, x1, x5 => if x5 < (x0.length : Int) then (if 0 ≤ x5 then (if ((rd_T65 x0 x5).f0).toList = x1.toList then (some x5) else (sr19_Find.l0 k x0 x1 (wrap64 (x5 + 1)))) else (none)) else (some (-1))
def sr19_Find.f (k : Nat) (l0 : List (S65)) (a1 : ByteArray) : Option (Int) := sr19_Find.l0 k l0 a1 0
theorem sr19_Find.mono_l : ∀ k, (∀ y0 y1 y2, LeO (sr19_Find.l0 k y0 y1 y2) (sr19_Find.l0 (k + 1) y0 y1 y2))
 | 0 => fun _ _ _ r h => by simp [sr19_Find.l0] at h
 | k + 1 => by
  have ih0 := sr19_Find.mono_l k
  ·intro y0 y1 y2
   unfold sr19_Find.l0
   repeat' first
   | (with_reducible exact ih0 _ _ _)
   | (with_reducible exact LeO.refl _)
   | (with_reducible exact LeO.none _)
   | (with_reducible refine LeO.ite ?_ ?_)
   | (with_reducible refine LeO.bind ?_ (fun _ => ?_))
   | exact ih0 _ _ _
   | exact LeO.none _
   | refine LeO.ite ?_ ?_
   | refine LeO.bind ?_ (fun _ => ?_)
theorem sr19_Find.mono : ∀ a0 a1 k, LeO (sr19_Find.f k a0 a1) (sr19_Find.f (k + 1) a0 a1) := by
 intro a0 a1 k
 have ih0 := sr19_Find.mono_l k
 unfold sr19_Find.f
 repeat' first
   | (with_reducible exact ih0 _ _ _)
   | (with_reducible exact LeO.refl _)
   | (with_reducible exact LeO.none _)
   | (with_reducible refine LeO.ite ?_ ?_)
   | (with_reducible refine LeO.bind ?_ (fun _ => ?_))
   | exact ih0 _ _ _
   | exact LeO.none _
   | refine LeO.ite ?_ ?_
   | refine LeO.bind ?_ (fun _ => ?_)
set_option maxHeartbeats 8000000 in
set_option maxRecDepth 100000 in
theorem sr19_Find.calls (k : Nat) (A0 : Option Addr) (c0 : Nat) (l0 : List (S65)) (a1 : ByteArray) (r : Int) (w : World) (hr0 : Kd.C k65 w A0 l0.length l0) (hc0 : l0.length ≤ c0) (h : sr19_Find.f k l0 a1 = some r) :
  Calls Try.prog 41 #[.slice A0 l0.length c0, .string a1] w fun e w' => e = .returned (.int .i64 r) ∧ Drawn0 w w' := by
 have HR0 := Aside0.mk hr0
 have HC0 := Aside0.mk hc0
 clear hr0 hc0
 have H : (sr19_Find.l0 k l0 a1 0) = some r := h
 clear h
 have H' := Aside0.mk H
 clear H
 go_enter Try.func41, Try.ntmps41
 go_wp2
 go_loopg [5] k (fun kq v5 w' => ∃ (x5_1 : Int), v5 = .int .i64 x5_1 ∧ Aside0 (sr19_Find.l0 kq l0 a1 x5_1 = some r) ∧ Aside0 (kq ≤ k) ∧ Drawn0 w w')
 case atStart => exact ⟨(0), (by first | rfl | (simp; done) | (simp [*]; done)), H', ⟨Nat.le_refl _⟩, by repeat (first | exact Drawn0.refl _ | apply Drawn0.step)⟩
 case round => (
clear H'
try clear p2
obtain ⟨x5_1, rfl, HA, HK1, ⟨m1, rfl⟩⟩ := hrel
cases gk with
| zero => exact absurd HA.out (by simp [sr19_Find.l0])
| succ k1 => (
have H := HA.out
clear HA
simp only [sr19_Find.l0] at H
by_cases c3 : x5_1 < (l0.length : Int)
·(
rw [if_pos c3] at H
have c3b0 : decide (x5_1 < (l0.length : Int)) = true := decide_eq_true c3
clear c3
by_cases c4 : 0 ≤ x5_1
·(
rw [if_pos c4] at H
have c4b0 : decide (0 ≤ x5_1) = true := decide_eq_true c4
clear c4
by_cases c5 : ((rd_T65 l0 x5_1).f0).toList = a1.toList
·(
rw [if_pos c5] at H
have c5b0 : (((rd_T65 l0 x5_1).f0).toList == a1.toList) = true := beq_iff_eq.mpr c5
have c5b1 : (((rd_T65 l0 x5_1).f0).toList != a1.toList) = false := bne_eq_false_iff_eq.mpr c5
clear c5
obtain rfl := Option.some.inj H
have p141 : 0 ≤ (x5_1 : Int) := of_decide_eq_true (by first | (with_reducible assumption) | assumption)
have q141 : x5_1 < (l0.length : Int) := of_decide_eq_true (by first | (with_reducible assumption) | assumption)
obtain ⟨ad141, e141, hx141_0, hx141_1, hx141_2⟩ := at_T65 HR0.out x5_1 p141 q141
cases e141
replace p141 := eq_true p141
replace q141 := eq_true q141
go_wp2
go_ret
exact ⟨by first | rfl | (simp; done) | (simp [*]; done), by repeat (first | exact Drawn0.refl _ | apply Drawn0.step)⟩
)
·(
rw [if_neg c5] at H
have c5b0 : (((rd_T65 l0 x5_1).f0).toList == a1.toList) = false := beq_eq_false_iff_ne.mpr c5
have c5b1 : (((rd_T65 l0 x5_1).f0).toList != a1.toList) = true := bne_iff_ne.mpr c5
have H' := Aside0.mk H
clear H
have p141 : 0 ≤ (x5_1 : Int) := of_decide_eq_true (by first | (with_reducible assumption) | assumption)
have q141 : x5_1 < (l0.length : Int) := of_decide_eq_true (by first | (with_reducible assumption) | assumption)
obtain ⟨ad141, e141, hx141_0, hx141_1, hx141_2⟩ := at_T65 HR0.out x5_1 p141 q141
cases e141
replace p141 := eq_true p141
replace q141 := eq_true q141
go_wp2
go_roundg k1
case measure => have := HK1.out; omega
case rel => exact ⟨(wrap64 (x5_1 + 1)), (by first | rfl | (simp; done) | (simp [*]; done)), H', ⟨by have := HK1.out; omega⟩, by repeat (first | exact Drawn0.refl _ | apply Drawn0.step)⟩
)
)
·(
rw [if_neg c4] at H
exact absurd H (by simp)
)
)
·(
rw [if_neg c3] at H
have c3b0 : decide (x5_1 < (l0.length : Int)) = false := decide_eq_false c3
clear c3
obtain rfl := Option.some.inj H
go_wp2
go_ret
exact ⟨by first | rfl | (simp; done) | (simp [*]; done), by repeat (first | exact Drawn0.refl _ | apply Drawn0.step)⟩
)
)
)

end Go.Proofs.Ytlhaaccdiienbaa.X
