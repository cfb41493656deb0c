-- Written for this claim by a program of this session (wip/tools/xprint.py) out of the translation.
import Derived.Test.YtlhaaccdiienbaaX0
namespace Go.Proofs.Ytlhaaccdiienbaa.X
open Go.RowKit Go.Proofs.YtlhaaccdiienbaaW.PrintWords Go.Proofs.YtlhaaccdiienbaaW.PrintLast Go.Proofs.YtlhaaccdiienbaaW.PrintMore
attribute [local go_sem] max2_int min2_int max_two min_two max_three min_three max_four min_four   -- for this text's walks alone
set_option linter.unusedVariables false
set_option linter.unusedSimpArgs false

def sr11_Few.l0 : Nat → List (S67) → Int → Option (Bool)
 | 0, _, _ => none
 | k + 1, x0, x3 => if x3 < (x0.length : Int) then (if x3 > 40 then (some false) else (if 0 ≤ x3 then (if (((rd_T67 x0 x3).f0).size : Int) > 60 then (some false) else (if ((rd_T67 x0 x3).f1) > 1099511627776 then (some false) else (sr11_Few.l0 k x0 (wrap64 (x3 + 1))))) else (none))) else (some true)
def sr11_Few.f (k : Nat) (l0 : List (S67)) : Option (Bool) := sr11_Few.l0 k l0 0
theorem sr11_Few.mono_l : ∀ k, (∀ y0 y1, LeO (sr11_Few.l0 k y0 y1) (sr11_Few.l0 (k + 1) y0 y1))
 | 0 => fun _ _ r h => by simp [sr11_Few.l0] at h
 | k + 1 => by
  have ih0 := sr11_Few.mono_l k
  ·intro y0 y1
   unfold sr11_Few.l0
   repeat' first
   | (with_reducible exact ih0 _ _)
   | (with_reducible exact LeO.refl _)
   | (with_reducible exact LeO.none _)
   | (with_reducible refine LeO.ite ?_ ?_)
   | (with_reducible refine LeO.bind ?_ (fun _ => ?_))
   | exact ih0 _ _
   | exact LeO.none _
   | refine LeO.ite ?_ ?_
   | refine LeO.bind ?_ (fun _ => ?_)
theorem sr11_Few.mono : ∀ a0 k, LeO (sr11_Few.f k a0) (sr11_Few.f (k + 1) a0) := by
 intro a0 k
 have ih0 := sr11_Few.mono_l k
 unfold sr11_Few.f
 repeat' first
   | (with_reducible exact ih0 _ _)
   | (with_reducible exact LeO.refl _)
   | (with_reducible exact LeO.none _)
   | (with_reducible refine LeO.ite ?_ ?_)
   | (with_reducible refine LeO.bind ?_ (fun _ => ?_))
   | exact ih0 _ _
   | exact LeO.none _
   | refine LeO.ite ?_ ?_
   | refine LeO.bind ?_ (fun _ => ?_)
set_option maxHeartbeats 8000000 in
set_option maxRecDepth 100000 in
theorem sr11_Few.calls (k : Nat) (A0 : Option Addr) (c0 : Nat) (l0 : List (S67)) (r : Bool) (w : World) (hr0 : Kd.C k67 w A0 l0.length l0) (hc0 : l0.length ≤ c0) (h : sr11_Few.f k l0 = some r) :
  Calls Try.prog 34 #[.slice A0 l0.length c0] w fun e w' => e = .returned (.bool r) ∧ Drawn0 w w' := by
 have HR0 := Aside0.mk hr0
 have HC0 := Aside0.mk hc0
 clear hr0 hc0
 have H : (sr11_Few.l0 k l0 0) = some r := h
 clear h
 have H' := Aside0.mk H
 clear H
 go_enter Try.func34, Try.ntmps34
 go_wp2
 go_loopg [3] k (fun kq v3 w' => ∃ (x3_1 : Int), v3 = .int .i64 x3_1 ∧ Aside0 (sr11_Few.l0 kq l0 x3_1 = some r) ∧ Aside0 (kq ≤ k) ∧ Drawn0 w w')
 case atStart => exact ⟨(0), (by first | rfl | (simp; done) | (simp [*]; done)), H', ⟨Nat.le_refl _⟩, by repeat (first | exact Drawn0.refl _ | apply Drawn0.step)⟩
 case round => (
clear H'
obtain ⟨x3_1, rfl, HA, HK1, ⟨m1, rfl⟩⟩ := hrel
cases gk with
| zero => exact absurd HA.out (by simp [sr11_Few.l0])
| succ k1 => (
have H := HA.out
clear HA
simp only [sr11_Few.l0] at H
by_cases c2 : x3_1 < (l0.length : Int)
·(
rw [if_pos c2] at H
have c2b0 : decide (x3_1 < (l0.length : Int)) = true := decide_eq_true c2
clear c2
by_cases c3 : x3_1 > 40
·(
rw [if_pos c3] at H
have c3b0 : decide (40 < x3_1) = true := decide_eq_true c3
clear c3
obtain rfl := Option.some.inj H
go_wp2
go_ret
exact ⟨by first | rfl | (simp; done) | (simp [*]; done), by repeat (first | exact Drawn0.refl _ | apply Drawn0.step)⟩
)
·(
rw [if_neg c3] at H
have c3b0 : decide (40 < x3_1) = false := decide_eq_false c3
clear c3
by_cases c4 : 0 ≤ x3_1
·(
rw [if_pos c4] at H
have c4b0 : decide (0 ≤ x3_1) = true := decide_eq_true c4
clear c4
by_cases c5 : (((rd_T67 l0 x3_1).f0).size : Int) > 60
·(
rw [if_pos c5] at H
have c5b0 : decide (60 < (((rd_T67 l0 x3_1).f0).size : Int)) = true := decide_eq_true c5
have c5b1 : decide (60 < ((rd_T67 l0 x3_1).f0).size) = true := decide_eq_true (by omega)
clear c5
obtain rfl := Option.some.inj H
have p132 : 0 ≤ (x3_1 : Int) := of_decide_eq_true (by first | (with_reducible assumption) | assumption)
have q132 : x3_1 < (l0.length : Int) := of_decide_eq_true (by first | (with_reducible assumption) | assumption)
obtain ⟨ad132, e132, hx132_0, hx132_1⟩ := at_T67 HR0.out x3_1 p132 q132
cases e132
replace p132 := eq_true p132
replace q132 := eq_true q132
go_wp2
go_ret
exact ⟨by first | rfl | (simp; done) | (simp [*]; done), by repeat (first | exact Drawn0.refl _ | apply Drawn0.step)⟩
)
·(
rw [if_neg c5] at H
have c5b0 : decide (60 < (((rd_T67 l0 x3_1).f0).size : Int)) = false := decide_eq_false c5
have c5b1 : decide (60 < ((rd_T67 l0 x3_1).f0).size) = false := decide_eq_false (by omega)
clear c5
by_cases c6 : ((rd_T67 l0 x3_1).f1) > 1099511627776
·(
rw [if_pos c6] at H
have c6b0 : decide (1099511627776 < ((rd_T67 l0 x3_1).f1)) = true := decide_eq_true c6
clear c6
obtain rfl := Option.some.inj H
have p132 : 0 ≤ (x3_1 : Int) := of_decide_eq_true (by first | (with_reducible assumption) | assumption)
have q132 : x3_1 < (l0.length : Int) := of_decide_eq_true (by first | (with_reducible assumption) | assumption)
obtain ⟨ad132, e132, hx132_0, hx132_1⟩ := at_T67 HR0.out x3_1 p132 q132
cases e132
replace p132 := eq_true p132
replace q132 := eq_true q132
have p133 : 0 ≤ (x3_1 : Int) := of_decide_eq_true (by first | (with_reducible assumption) | assumption)
have q133 : x3_1 < (l0.length : Int) := of_decide_eq_true (by first | (with_reducible assumption) | assumption)
obtain ⟨ad133, e133, hx133_0, hx133_1⟩ := at_T67 HR0.out x3_1 p133 q133
obtain rfl : ad132 = ad133 := (by injection e133)
replace p133 := eq_true p133
replace q133 := eq_true q133
go_wp2
go_ret
exact ⟨by first | rfl | (simp; done) | (simp [*]; done), by repeat (first | exact Drawn0.refl _ | apply Drawn0.step)⟩
)
·(
rw [if_neg c6] at H
have c6b0 : decide (1099511627776 < ((rd_T67 l0 x3_1).f1)) = false := decide_eq_false c6
clear c6
have H' := Aside0.mk H
clear H
have p132 : 0 ≤ (x3_1 : Int) := of_decide_eq_true (by first | (with_reducible assumption) | assumption)
have q132 : x3_1 < (l0.length : Int) := of_decide_eq_true (by first | (with_reducible assumption) | assumption)
obtain ⟨ad132, e132, hx132_0, hx132_1⟩ := at_T67 HR0.out x3_1 p132 q132
cases e132
replace p132 := eq_true p132
replace q132 := eq_true q132
have p133 : 0 ≤ (x3_1 : Int) := of_decide_eq_true (by first | (with_reducible assumption) | assumption)
have q133 : x3_1 < (l0.length : Int) := of_decide_eq_true (by first | (with_reducible assumption) | assumption)
obtain ⟨ad133, e133, hx133_0, hx133_1⟩ := at_T67 HR0.out x3_1 p133 q133
obtain rfl : ad132 = ad133 := (by injection e133)
replace p133 := eq_true p133
replace q133 := eq_true q133
go_wp2
go_roundg k1
case measure => have := HK1.out; omega
case rel => exact ⟨(wrap64 (x3_1 + 1)), (by first | rfl | (simp; done) | (simp [*]; done)), H', ⟨by have := HK1.out; omega⟩, by repeat (first | exact Drawn0.refl _ | apply Drawn0.step)⟩
)
)
)
·(
rw [if_neg c4] at H
exact absurd H (by simp)
)
)
)
·(
rw [if_neg c2] at H
have c2b0 : decide (x3_1 < (l0.length : Int)) = false := decide_eq_false c2
clear c2
obtain rfl := Option.some.inj H
go_wp2
go_ret
exact ⟨by first | rfl | (simp; done) | (simp [*]; done), by repeat (first | exact Drawn0.refl _ | apply Drawn0.step)⟩
)
)
)

mutual
def sr19_Few.j0 : Nat → List (S42) → Bool → ByteArray → ByteArray → ByteArray → ByteArray → ByteArray → ByteArray → Int → List (S65) → Option (Bool)
 | 0, _, _, _, _, _, _, _, _, _, _ => none
 | k + 1, x1, x36, x135000, x135001, x135002, x135003, x135004, x135005, x135006, x135007 => if x36 = true then (some false) else (sr19_Few.l0 k x1 0 x135000 x135001 x135002 x135003 x135004 x135005 x135006 x135007)
def sr19_Few.l0 : Nat → List (S42) → Int → ByteArray → ByteArray → ByteArray → ByteArray → ByteArray → ByteArray → Int → List (S65) → Option (Bool)
 | 0, _, _, _, _, _, _, _, _, _, _ => none
 | k + 1, x1, x5, x135000, x135001, x135002, x135003, x135004, x135005, x135006, x135007 => if x5 < (x135007.length : Int) then (if 0 ≤ x5 then (if (((rd_T65 x135007 x5).f0).size : Int) > 60 then (some false) else (sr19_Few.l0 k x1 (wrap64 (x5 + 1)) x135000 x135001 x135002 x135003 x135004 x135005 x135006 x135007)) else (none)) else (sr19_Few.l1 k x1 0)
def sr19_Few.l1 : Nat → List (S42) → Int → Option (Bool)
 | 0, _, _ => none
 | k + 1, x1, x6 => if x6 < (x1.length : Int) then (if x6 > 20 then (some false) else (if 0 ≤ x6 then (if (((rd_T42 x1 x6).f0).size : Int) > 60 then (some false) else ((sr11_Few.f k ((rd_T42 x1 x6).f3)).bind fun t138 => (if t138 = true then (sr19_Few.l1 k x1 (wrap64 (x6 + 1))) else (some false)))) else (none))) else (some true)
end
def sr19_Few.f (k : Nat) (a0_0 : ByteArray) (a0_1 : ByteArray) (a0_2 : ByteArray) (a0_3 : ByteArray) (a0_4 : ByteArray) (a0_5 : ByteArray) (a0_6 : Int) (l0_7 : List (S65)) (l1 : List (S42)) : Option (Bool) := if (wrap64 ((wrap64 ((wrap64 ((wrap64 ((wrap64 ((a0_0.size : Int) + (a0_1.size : Int))) + (a0_2.size : Int))) + (a0_3.size : Int))) + (a0_4.size : Int))) + (a0_5.size : Int))) > 300 then (sr19_Few.j0 k l1 true a0_0 a0_1 a0_2 a0_3 a0_4 a0_5 a0_6 l0_7) else (sr19_Few.j0 k l1 (decide ((l0_7.length : Int) > 70)) a0_0 a0_1 a0_2 a0_3 a0_4 a0_5 a0_6 l0_7)
theorem sr19_Few.mono_l : ∀ k, (∀ y0 y1 y2 y3 y4 y5 y6 y7 y8 y9, LeO (sr19_Few.j0 k y0 y1 y2 y3 y4 y5 y6 y7 y8 y9) (sr19_Few.j0 (k + 1) y0 y1 y2 y3 y4 y5 y6 y7 y8 y9)) ∧ (∀ y0 y1 y2 y3 y4 y5 y6 y7 y8 y9, LeO (sr19_Few.l0 k y0 y1 y2 y3 y4 y5 y6 y7 y8 y9) (sr19_Few.l0 (k + 1) y0 y1 y2 y3 y4 y5 y6 y7 y8 y9)) ∧ (∀ y0 y1, LeO (sr19_Few.l1 k y0 y1) (sr19_Few.l1 (k + 1) y0 y1))
 | 0 => ⟨fun _ _ _ _ _ _ _ _ _ _ r h => by simp [sr19_Few.j0] at h, fun _ _ _ _ _ _ _ _ _ _ r h => by simp [sr19_Few.l0] at h, fun _ _ r h => by simp [sr19_Few.l1] at h⟩
 | k + 1 => by
  obtain ⟨ih0, ih1, ih2⟩ := sr19_Few.mono_l k
  refine ⟨?_, ?_, ?_⟩
  ·intro y0 y1 y2 y3 y4 y5 y6 y7 y8 y9
   unfold sr19_Few.j0
   repeat' first
   | (with_reducible exact ih0 _ _ _ _ _ _ _ _ _ _)
   | (with_reducible exact ih1 _ _ _ _ _ _ _ _ _ _)
   | (with_reducible exact ih2 _ _)
   | (with_reducible exact sr11_Few.mono _ _)
   | (with_reducible exact LeO.refl _)
   | (with_reducible exact LeO.none _)
   | (with_reducible refine LeO.ite ?_ ?_)
   | (with_reducible refine LeO.bind ?_ (fun _ => ?_))
   | exact ih0 _ _ _ _ _ _ _ _ _ _
   | exact ih1 _ _ _ _ _ _ _ _ _ _
   | exact ih2 _ _
   | exact sr11_Few.mono _ _
   | exact LeO.none _
   | refine LeO.ite ?_ ?_
   | refine LeO.bind ?_ (fun _ => ?_)
  ·intro y0 y1 y2 y3 y4 y5 y6 y7 y8 y9
   unfold sr19_Few.l0
   repeat' first
   | (with_reducible exact ih0 _ _ _ _ _ _ _ _ _ _)
   | (with_reducible exact ih1 _ _ _ _ _ _ _ _ _ _)
   | (with_reducible exact ih2 _ _)
   | (with_reducible exact sr11_Few.mono _ _)
   | (with_reducible exact LeO.refl _)
   | (with_reducible exact LeO.none _)
   | (with_reducible refine LeO.ite ?_ ?_)
   | (with_reducible refine LeO.bind ?_ (fun _ => ?_))
   | exact ih0 _ _ _ _ _ _ _ _ _ _
   | exact ih1 _ _ _ _ _ _ _ _ _ _
   | exact ih2 _ _
   | exact sr11_Few.mono _ _
   | exact LeO.none _
   | refine LeO.ite ?_ ?_
   | refine LeO.bind ?_ (fun _ => ?_)
  ·intro y0 y1
   unfold sr19_Few.l1
   repeat' first
   | (with_reducible exact ih0 _ _ _ _ _ _ _ _ _ _)
   | (with_reducible exact ih1 _ _ _ _ _ _ _ _ _ _)
   | (with_reducible exact ih2 _ _)
   | (with_reducible exact sr11_Few.mono _ _)
   | (with_reducible exact LeO.refl _)
   | (with_reducible exact LeO.none _)
   | (with_reducible refine LeO.ite ?_ ?_)
   | (with_reducible refine LeO.bind ?_ (fun _ => ?_))
   | exact ih0 _ _ _ _ _ _ _ _ _ _
   | exact ih1 _ _ _ _ _ _ _ _ _ _
   | exact ih2 _ _
   | exact sr11_Few.mono _ _
   | exact LeO.none _
   | refine LeO.ite ?_ ?_
   | refine LeO.bind ?_ (fun _ => ?_)
theorem sr19_Few.mono : ∀ a0 a1 a2 a3 a4 a5 a6 a7 a8 k, LeO (sr19_Few.f k a0 a1 a2 a3 a4 a5 a6 a7 a8) (sr19_Few.f (k + 1) a0 a1 a2 a3 a4 a5 a6 a7 a8) := by
 intro a0 a1 a2 a3 a4 a5 a6 a7 a8 k
 obtain ⟨ih0, ih1, ih2⟩ := sr19_Few.mono_l k
 unfold sr19_Few.f
 repeat' first
   | (with_reducible exact ih0 _ _ _ _ _ _ _ _ _ _)
   | (with_reducible exact ih1 _ _ _ _ _ _ _ _ _ _)
   | (with_reducible exact ih2 _ _)
   | (with_reducible exact sr11_Few.mono _ _)
   | (with_reducible exact LeO.refl _)
   | (with_reducible exact LeO.none _)
   | (with_reducible refine LeO.ite ?_ ?_)
   | (with_reducible refine LeO.bind ?_ (fun _ => ?_))
   | exact ih0 _ _ _ _ _ _ _ _ _ _
   | exact ih1 _ _ _ _ _ _ _ _ _ _
   | exact ih2 _ _
   | exact sr11_Few.mono _ _
   | exact LeO.none _
   | refine LeO.ite ?_ ?_
   | refine LeO.bind ?_ (fun _ => ?_)
set_option maxHeartbeats 8000000 in
set_option maxRecDepth 100000 in
theorem sr19_Few.calls (k : Nat) (a0_0 : ByteArray) (a0_1 : ByteArray) (a0_2 : ByteArray) (a0_3 : ByteArray) (a0_4 : ByteArray) (a0_5 : ByteArray) (a0_6 : Int) (A0_7 : Option Addr) (c0_7 : Nat) (l0_7 : List (S65)) (A1 : Option Addr) (c1 : Nat) (l1 : List (S42)) (r : Bool) (w : World) (hr0_7 : Kd.C k65 w A0_7 l0_7.length l0_7) (hc0_7 : l0_7.length ≤ c0_7) (hr1 : Kd.C k42 w A1 l1.length l1) (hc1 : l1.length ≤ c1) (h : sr19_Few.f k a0_0 a0_1 a0_2 a0_3 a0_4 a0_5 a0_6 l0_7 l1 = some r) :
  Calls Try.prog 12 #[.agg #[.string a0_0, .string a0_1, .string a0_2, .string a0_3, .string a0_4, .string a0_5, .int .i64 a0_6, .slice A0_7 l0_7.length c0_7], .slice A1 l1.length c1] w fun e w' => e = .returned (.bool r) ∧ Below w.heap.size w w' := by
 have hu24 := Try.underlying24
 have HR0_7 := Aside0.mk hr0_7
 have HC0_7 := Aside0.mk hc0_7
 clear hr0_7 hc0_7
 have HR1 := Aside0.mk hr1
 have HC1 := Aside0.mk hc1
 clear hr1 hc1
 have HB := Aside0.mk (Below.refl w.heap.size w)
 have H : (if (wrap64 ((wrap64 ((wrap64 ((wrap64 ((wrap64 ((a0_0.size : Int) + (a0_1.size : Int))) + (a0_2.size : Int))) + (a0_3.size : Int))) + (a0_4.size : Int))) + (a0_5.size : Int))) > 300 then (sr19_Few.j0 k l1 true a0_0 a0_1 a0_2 a0_3 a0_4 a0_5 a0_6 l0_7) else (sr19_Few.j0 k l1 (decide ((l0_7.length : Int) > 70)) a0_0 a0_1 a0_2 a0_3 a0_4 a0_5 a0_6 l0_7)) = some r := h
 clear h
 have HC3 := Aside0.mk H
 clear H
 go_enter Try.func12, Try.ntmps12
 go_upto_region 1 with (first | ((with_reducible refine gate_dst (N := 2) rfl ?_); (try (refine gate_guard (by rfl) ?_; dsimp only)); refine box_event ?hg (N := 2) ?hd (cs := #[.string a0_0, .string a0_1, .string a0_2, .string a0_3, .string a0_4, .string a0_5, .int .i64 a0_6, .slice A0_7 l0_7.length c0_7]) (t := 24) ?hr ?_; (case hd => rfl); (case hg => rfl); (case hr => first | (go_simp; done) | (go_simp; rfl)); intro gb134 hg w4 hbox hb; have n0_ := Aside0.mk (below_step (by repeat (first | (with_reducible first | exact HB.out | apply below_alloc | apply pw_below_drewN | apply below_drew1) | exact HB.out)) hb); have n1_ := Aside0.mk (hbox); have n2_ := Aside0.mk ((by rw [hg]; exact (below_size (by repeat (first | (with_reducible first | exact HB.out | apply below_alloc | apply pw_below_drewN | apply below_drew1) | exact HB.out))) : w.heap.size ≤ gb134)); have n3_ := Aside0.mk ((by rw [hg]; exact (below_size (by repeat (first | (with_reducible first | exact HB.out | apply below_alloc | apply pw_below_drewN | apply below_drew1) | exact HB.out))) : w.heap.size ≤ gb134)); clear HB; have HB := n0_; have BK134 := n1_; have GW134 := n2_; have GE134 := n3_; clear n0_ n1_ n2_ n3_; clear hb hbox hg))
 (try simp only [Act.put, List.setIfInBounds_toArray, List.set_cons_zero, List.set_cons_succ])
 go_cut [36] (fun v36 wc => ∃ (kq : Nat) (x36_2 : Bool), v36 = .bool x36_2 ∧ Aside0 (sr19_Few.j0 kq l1 x36_2 a0_0 a0_1 a0_2 a0_3 a0_4 a0_5 a0_6 l0_7 = some r) ∧ Aside0 (kq ≤ k) ∧ Aside0 (wc.heap[gb134]? = some (.cells #[.string a0_0, .string a0_1, .string a0_2, .string a0_3, .string a0_4, .string a0_5, .int .i64 a0_6, (.slice A0_7 l0_7.length c0_7)] 24 (0, 0))) ∧ Aside0 (Below w.heap.size w wc))
 case first => (
have H := HC3.out
clear HC3
by_cases c5 : (wrap64 ((wrap64 ((wrap64 ((wrap64 ((wrap64 ((a0_0.size : Int) + (a0_1.size : Int))) + (a0_2.size : Int))) + (a0_3.size : Int))) + (a0_4.size : Int))) + (a0_5.size : Int))) > 300
·(
rw [if_pos c5] at H
have c5b0 : decide (300 < (wrap64 ((wrap64 ((wrap64 ((wrap64 ((wrap64 ((a0_0.size : Int) + (a0_1.size : Int))) + (a0_2.size : Int))) + (a0_3.size : Int))) + (a0_4.size : Int))) + (a0_5.size : Int)))) = true := decide_eq_true c5
clear c5
(first | rw [c5b0] | (simp only [i64_w, i32_w]; rw [c5b0]) | skip)
have H' := Aside0.mk H
clear H
have hcz6_0 : w4.cell? ⟨gb134, 0, none⟩ = some (.string a0_0) := (blk_cell BK134.out 0).trans rfl
have hcz6_1 : w4.cell? ⟨gb134, 1, none⟩ = some (.string a0_1) := (blk_cell BK134.out 1).trans rfl
have hcz6_2 : w4.cell? ⟨gb134, 2, none⟩ = some (.string a0_2) := (blk_cell BK134.out 2).trans rfl
have hcz6_3 : w4.cell? ⟨gb134, 3, none⟩ = some (.string a0_3) := (blk_cell BK134.out 3).trans rfl
have hcz6_4 : w4.cell? ⟨gb134, 4, none⟩ = some (.string a0_4) := (blk_cell BK134.out 4).trans rfl
have hcz6_5 : w4.cell? ⟨gb134, 5, none⟩ = some (.string a0_5) := (blk_cell BK134.out 5).trans rfl
have hcz6_6 : w4.cell? ⟨gb134, 6, none⟩ = some (.int .i64 a0_6) := (blk_cell BK134.out 6).trans rfl
have hcz6_7 : w4.cell? ⟨gb134, 7, none⟩ = some (.slice A0_7 l0_7.length c0_7) := (blk_cell BK134.out 7).trans rfl
have hfz6_0 := blk_frozen BK134.out 0
have hfz6_1 := blk_frozen BK134.out 1
have hfz6_2 := blk_frozen BK134.out 2
have hfz6_3 := blk_frozen BK134.out 3
have hfz6_4 := blk_frozen BK134.out 4
have hfz6_5 := blk_frozen BK134.out 5
have hfz6_6 := blk_frozen BK134.out 6
have hfz6_7 := blk_frozen BK134.out 7
go_wp2
go_meet
case rel => exact ⟨_, (true), (by first | rfl | (simp; done) | (simp [*]; done)), H', ⟨by first | omega | exact Nat.le_refl _⟩, ⟨by (with_reducible repeat (first | refine blk_drewN ?_ _ | refine blk_drew ?_ | refine blk_alloc ?_ _)); exact BK134.out⟩, ⟨by repeat (first | (with_reducible first | exact HB.out | apply below_alloc | apply pw_below_drewN | apply below_drew1 | refine below_set ?_ GE134.out) | exact HB.out)⟩⟩
)
·(
rw [if_neg c5] at H
have c5b0 : decide (300 < (wrap64 ((wrap64 ((wrap64 ((wrap64 ((wrap64 ((a0_0.size : Int) + (a0_1.size : Int))) + (a0_2.size : Int))) + (a0_3.size : Int))) + (a0_4.size : Int))) + (a0_5.size : Int)))) = false := decide_eq_false c5
clear c5
(first | rw [c5b0] | (simp only [i64_w, i32_w]; rw [c5b0]) | skip)
have H' := Aside0.mk H
clear H
have hcz7_0 : w4.cell? ⟨gb134, 0, none⟩ = some (.string a0_0) := (blk_cell BK134.out 0).trans rfl
have hcz7_1 : w4.cell? ⟨gb134, 1, none⟩ = some (.string a0_1) := (blk_cell BK134.out 1).trans rfl
have hcz7_2 : w4.cell? ⟨gb134, 2, none⟩ = some (.string a0_2) := (blk_cell BK134.out 2).trans rfl
have hcz7_3 : w4.cell? ⟨gb134, 3, none⟩ = some (.string a0_3) := (blk_cell BK134.out 3).trans rfl
have hcz7_4 : w4.cell? ⟨gb134, 4, none⟩ = some (.string a0_4) := (blk_cell BK134.out 4).trans rfl
have hcz7_5 : w4.cell? ⟨gb134, 5, none⟩ = some (.string a0_5) := (blk_cell BK134.out 5).trans rfl
have hcz7_6 : w4.cell? ⟨gb134, 6, none⟩ = some (.int .i64 a0_6) := (blk_cell BK134.out 6).trans rfl
have hcz7_7 : w4.cell? ⟨gb134, 7, none⟩ = some (.slice A0_7 l0_7.length c0_7) := (blk_cell BK134.out 7).trans rfl
have hfz7_0 := blk_frozen BK134.out 0
have hfz7_1 := blk_frozen BK134.out 1
have hfz7_2 := blk_frozen BK134.out 2
have hfz7_3 := blk_frozen BK134.out 3
have hfz7_4 := blk_frozen BK134.out 4
have hfz7_5 := blk_frozen BK134.out 5
have hfz7_6 := blk_frozen BK134.out 6
have hfz7_7 := blk_frozen BK134.out 7
go_wp2
go_meet
case rel => exact ⟨_, (decide ((l0_7.length : Int) > 70)), (by first | rfl | (simp; done) | (simp [*]; done)), H', ⟨by first | omega | exact Nat.le_refl _⟩, ⟨by (with_reducible repeat (first | refine blk_drewN ?_ _ | refine blk_drew ?_ | refine blk_alloc ?_ _)); exact BK134.out⟩, ⟨by repeat (first | (with_reducible first | exact HB.out | apply below_alloc | apply pw_below_drewN | apply below_drew1 | refine below_set ?_ GE134.out) | exact HB.out)⟩⟩
)
)
 case rest => (
clear HC3
try clear c1
try clear p2
try clear c5
try clear c5b0
try clear p6
try clear hcz6_0
try clear hcz6_1
try clear hcz6_2
try clear hcz6_3
try clear hcz6_4
try clear hcz6_5
try clear hcz6_6
try clear hcz6_7
try clear hcz7_0
try clear hcz7_1
try clear hcz7_2
try clear hcz7_3
try clear hcz7_4
try clear hcz7_5
try clear hcz7_6
try clear hcz7_7
try clear hfz6_0
try clear hfz6_1
try clear hfz6_2
try clear hfz6_3
try clear hfz6_4
try clear hfz6_5
try clear hfz6_6
try clear hfz6_7
try clear hfz7_0
try clear hfz7_1
try clear hfz7_2
try clear hfz7_3
try clear hfz7_4
try clear hfz7_5
try clear hfz7_6
try clear hfz7_7
obtain ⟨kq, x36_2, rfl, HA, HJ2, BK134, HB⟩ := hcut
cases kq with
| zero => exact absurd HA.out (by simp [sr19_Few.j0])
| succ kj2 => (
have H := HA.out
clear HA
simp only [sr19_Few.j0] at H
by_cases c8 : x36_2 = true
·(
subst c8
have H1 : (some false) = some r := by rw [if_pos rfl] at H; exact H
clear H
have H := H1
clear H1
obtain rfl := Option.some.inj H
go_wp2
go_ret
exact ⟨by first | rfl | (simp [errW_none, errW_some] <;> rfl) | (simp [*, errW_none, errW_some] <;> rfl), by repeat (first | (with_reducible first | exact HB.out | apply below_alloc | apply pw_below_drewN | apply below_drew1 | refine below_set ?_ GE134.out) | exact HB.out)⟩
)
·(
replace c8 := Bool.eq_false_iff.mpr c8
subst c8
have H1 : (sr19_Few.l0 kj2 l1 0 a0_0 a0_1 a0_2 a0_3 a0_4 a0_5 a0_6 l0_7) = some r := by rw [if_neg (show ¬ (false = true) by decide)] at H; exact H
clear H
have H := H1
clear H1
have H' := Aside0.mk H
clear H
go_wp2
go_loopg [5] kj2 (fun kq v5 w' => ∃ (x5_2 : Int), v5 = .int .i64 x5_2 ∧ Aside0 (sr19_Few.l0 kq l1 x5_2 a0_0 a0_1 a0_2 a0_3 a0_4 a0_5 a0_6 l0_7 = some r) ∧ Aside0 (kq ≤ kj2) ∧ Aside0 (w'.heap[gb134]? = some (.cells #[.string a0_0, .string a0_1, .string a0_2, .string a0_3, .string a0_4, .string a0_5, .int .i64 a0_6, (.slice A0_7 l0_7.length c0_7)] 24 (0, 0))) ∧ Aside0 (Below w.heap.size w w'))
case atStart => exact ⟨(0), (by first | rfl | (simp; done) | (simp [*]; done)), H', ⟨Nat.le_refl _⟩, ⟨by (with_reducible repeat (first | refine blk_drewN ?_ _ | refine blk_drew ?_ | refine blk_alloc ?_ _)); exact BK134.out⟩, ⟨by repeat (first | (with_reducible first | exact HB.out | apply below_alloc | apply pw_below_drewN | apply below_drew1 | refine below_set ?_ GE134.out) | exact HB.out)⟩⟩
case round => (
clear H'
try clear c1
try clear p2
try clear c5
try clear c5b0
try clear p6
try clear c8
try clear hcz6_0
try clear hcz6_1
try clear hcz6_2
try clear hcz6_3
try clear hcz6_4
try clear hcz6_5
try clear hcz6_6
try clear hcz6_7
try clear hcz7_0
try clear hcz7_1
try clear hcz7_2
try clear hcz7_3
try clear hcz7_4
try clear hcz7_5
try clear hcz7_6
try clear hcz7_7
try clear hfz6_0
try clear hfz6_1
try clear hfz6_2
try clear hfz6_3
try clear hfz6_4
try clear hfz6_5
try clear hfz6_6
try clear hfz6_7
try clear hfz7_0
try clear hfz7_1
try clear hfz7_2
try clear hfz7_3
try clear hfz7_4
try clear hfz7_5
try clear hfz7_6
try clear hfz7_7
try clear p2
try clear p6
obtain ⟨x5_2, rfl, HA, HK2, BK134, HB⟩ := hrel
cases gk with
| zero => exact absurd HA.out (by simp [sr19_Few.l0])
| succ k2 => (
have H := HA.out
clear HA
simp only [sr19_Few.l0] at H
by_cases c9 : x5_2 < (l0_7.length : Int)
·(
rw [if_pos c9] at H
have c9b0 : decide (x5_2 < (l0_7.length : Int)) = true := decide_eq_true c9
clear c9
by_cases c10 : 0 ≤ x5_2
·(
rw [if_pos c10] at H
have c10b0 : decide (0 ≤ x5_2) = true := decide_eq_true c10
clear c10
by_cases c11 : (((rd_T65 l0_7 x5_2).f0).size : Int) > 60
·(
rw [if_pos c11] at H
have c11b0 : decide (60 < (((rd_T65 l0_7 x5_2).f0).size : Int)) = true := decide_eq_true c11
have c11b1 : decide (60 < ((rd_T65 l0_7 x5_2).f0).size) = true := decide_eq_true (by omega)
clear c11
obtain rfl := Option.some.inj H
have hcz12_0 : wr.cell? ⟨gb134, 0, none⟩ = some (.string a0_0) := (blk_cell BK134.out 0).trans rfl
have hcz12_1 : wr.cell? ⟨gb134, 1, none⟩ = some (.string a0_1) := (blk_cell BK134.out 1).trans rfl
have hcz12_2 : wr.cell? ⟨gb134, 2, none⟩ = some (.string a0_2) := (blk_cell BK134.out 2).trans rfl
have hcz12_3 : wr.cell? ⟨gb134, 3, none⟩ = some (.string a0_3) := (blk_cell BK134.out 3).trans rfl
have hcz12_4 : wr.cell? ⟨gb134, 4, none⟩ = some (.string a0_4) := (blk_cell BK134.out 4).trans rfl
have hcz12_5 : wr.cell? ⟨gb134, 5, none⟩ = some (.string a0_5) := (blk_cell BK134.out 5).trans rfl
have hcz12_6 : wr.cell? ⟨gb134, 6, none⟩ = some (.int .i64 a0_6) := (blk_cell BK134.out 6).trans rfl
have hcz12_7 : wr.cell? ⟨gb134, 7, none⟩ = some (.slice A0_7 l0_7.length c0_7) := (blk_cell BK134.out 7).trans rfl
have hfz12_0 := blk_frozen BK134.out 0
have hfz12_1 := blk_frozen BK134.out 1
have hfz12_2 := blk_frozen BK134.out 2
have hfz12_3 := blk_frozen BK134.out 3
have hfz12_4 := blk_frozen BK134.out 4
have hfz12_5 := blk_frozen BK134.out 5
have hfz12_6 := blk_frozen BK134.out 6
have hfz12_7 := blk_frozen BK134.out 7
have p135 : 0 ≤ (x5_2 : Int) := of_decide_eq_true (by first | (with_reducible assumption) | assumption)
have q135 : x5_2 < (l0_7.length : Int) := of_decide_eq_true (by first | (with_reducible assumption) | assumption)
obtain ⟨ad135, e135, hx135_0, hx135_1, hx135_2⟩ := at_T65 HR0_7.out x5_2 p135 q135
cases e135
replace hx135_0 := (HB.out.cell (World.block_lt_of_cell? w _ hx135_0)).trans hx135_0
replace hx135_1 := (HB.out.cell (World.block_lt_of_cell? w _ hx135_1)).trans hx135_1
replace hx135_2 := (HB.out.cell (World.block_lt_of_cell? w _ hx135_2)).trans hx135_2
replace p135 := eq_true p135
replace q135 := eq_true q135
go_wp2
go_ret
exact ⟨by first | rfl | (simp [errW_none, errW_some] <;> rfl) | (simp [*, errW_none, errW_some] <;> rfl), by repeat (first | (with_reducible first | exact HB.out | apply below_alloc | apply pw_below_drewN | apply below_drew1 | refine below_set ?_ GE134.out) | exact HB.out)⟩
)
·(
rw [if_neg c11] at H
have c11b0 : decide (60 < (((rd_T65 l0_7 x5_2).f0).size : Int)) = false := decide_eq_false c11
have c11b1 : decide (60 < ((rd_T65 l0_7 x5_2).f0).size) = false := decide_eq_false (by omega)
clear c11
have H' := Aside0.mk H
clear H
have hcz13_0 : wr.cell? ⟨gb134, 0, none⟩ = some (.string a0_0) := (blk_cell BK134.out 0).trans rfl
have hcz13_1 : wr.cell? ⟨gb134, 1, none⟩ = some (.string a0_1) := (blk_cell BK134.out 1).trans rfl
have hcz13_2 : wr.cell? ⟨gb134, 2, none⟩ = some (.string a0_2) := (blk_cell BK134.out 2).trans rfl
have hcz13_3 : wr.cell? ⟨gb134, 3, none⟩ = some (.string a0_3) := (blk_cell BK134.out 3).trans rfl
have hcz13_4 : wr.cell? ⟨gb134, 4, none⟩ = some (.string a0_4) := (blk_cell BK134.out 4).trans rfl
have hcz13_5 : wr.cell? ⟨gb134, 5, none⟩ = some (.string a0_5) := (blk_cell BK134.out 5).trans rfl
have hcz13_6 : wr.cell? ⟨gb134, 6, none⟩ = some (.int .i64 a0_6) := (blk_cell BK134.out 6).trans rfl
have hcz13_7 : wr.cell? ⟨gb134, 7, none⟩ = some (.slice A0_7 l0_7.length c0_7) := (blk_cell BK134.out 7).trans rfl
have hfz13_0 := blk_frozen BK134.out 0
have hfz13_1 := blk_frozen BK134.out 1
have hfz13_2 := blk_frozen BK134.out 2
have hfz13_3 := blk_frozen BK134.out 3
have hfz13_4 := blk_frozen BK134.out 4
have hfz13_5 := blk_frozen BK134.out 5
have hfz13_6 := blk_frozen BK134.out 6
have hfz13_7 := blk_frozen BK134.out 7
have p135 : 0 ≤ (x5_2 : Int) := of_decide_eq_true (by first | (with_reducible assumption) | assumption)
have q135 : x5_2 < (l0_7.length : Int) := of_decide_eq_true (by first | (with_reducible assumption) | assumption)
obtain ⟨ad135, e135, hx135_0, hx135_1, hx135_2⟩ := at_T65 HR0_7.out x5_2 p135 q135
cases e135
replace hx135_0 := (HB.out.cell (World.block_lt_of_cell? w _ hx135_0)).trans hx135_0
replace hx135_1 := (HB.out.cell (World.block_lt_of_cell? w _ hx135_1)).trans hx135_1
replace hx135_2 := (HB.out.cell (World.block_lt_of_cell? w _ hx135_2)).trans hx135_2
replace p135 := eq_true p135
replace q135 := eq_true q135
go_wp2
go_roundg k2
case measure => have := HJ2.out; have := HK2.out; omega
case rel => exact ⟨(wrap64 (x5_2 + 1)), (by first | rfl | (simp; done) | (simp [*]; done)), H', ⟨by have := HJ2.out; have := HK2.out; omega⟩, ⟨by (with_reducible repeat (first | refine blk_drewN ?_ _ | refine blk_drew ?_ | refine blk_alloc ?_ _)); exact BK134.out⟩, ⟨by repeat (first | (with_reducible first | exact HB.out | apply below_alloc | apply pw_below_drewN | apply below_drew1 | refine below_set ?_ GE134.out) | exact HB.out)⟩⟩
)
)
·(
rw [if_neg c10] at H
exact absurd H (by simp)
)
)
·(
rw [if_neg c9] at H
have c9b0 : decide (x5_2 < (l0_7.length : Int)) = false := decide_eq_false c9
clear c9
have H' := Aside0.mk H
clear H
have hcz14_0 : wr.cell? ⟨gb134, 0, none⟩ = some (.string a0_0) := (blk_cell BK134.out 0).trans rfl
have hcz14_1 : wr.cell? ⟨gb134, 1, none⟩ = some (.string a0_1) := (blk_cell BK134.out 1).trans rfl
have hcz14_2 : wr.cell? ⟨gb134, 2, none⟩ = some (.string a0_2) := (blk_cell BK134.out 2).trans rfl
have hcz14_3 : wr.cell? ⟨gb134, 3, none⟩ = some (.string a0_3) := (blk_cell BK134.out 3).trans rfl
have hcz14_4 : wr.cell? ⟨gb134, 4, none⟩ = some (.string a0_4) := (blk_cell BK134.out 4).trans rfl
have hcz14_5 : wr.cell? ⟨gb134, 5, none⟩ = some (.string a0_5) := (blk_cell BK134.out 5).trans rfl
have hcz14_6 : wr.cell? ⟨gb134, 6, none⟩ = some (.int .i64 a0_6) := (blk_cell BK134.out 6).trans rfl
have hcz14_7 : wr.cell? ⟨gb134, 7, none⟩ = some (.slice A0_7 l0_7.length c0_7) := (blk_cell BK134.out 7).trans rfl
have hfz14_0 := blk_frozen BK134.out 0
have hfz14_1 := blk_frozen BK134.out 1
have hfz14_2 := blk_frozen BK134.out 2
have hfz14_3 := blk_frozen BK134.out 3
have hfz14_4 := blk_frozen BK134.out 4
have hfz14_5 := blk_frozen BK134.out 5
have hfz14_6 := blk_frozen BK134.out 6
have hfz14_7 := blk_frozen BK134.out 7
go_wp2
go_loopg [6] k2 (fun kq v6 w' => ∃ (x6_3 : Int), v6 = .int .i64 x6_3 ∧ Aside0 (sr19_Few.l1 kq l1 x6_3 = some r) ∧ Aside0 (kq ≤ k2) ∧ Aside0 (w'.heap[gb134]? = some (.cells #[.string a0_0, .string a0_1, .string a0_2, .string a0_3, .string a0_4, .string a0_5, .int .i64 a0_6, (.slice A0_7 l0_7.length c0_7)] 24 (0, 0))) ∧ Aside0 (Below w.heap.size w w'))
case atStart => exact ⟨(0), (by first | rfl | (simp; done) | (simp [*]; done)), H', ⟨Nat.le_refl _⟩, ⟨by (with_reducible repeat (first | refine blk_drewN ?_ _ | refine blk_drew ?_ | refine blk_alloc ?_ _)); exact BK134.out⟩, ⟨by repeat (first | (with_reducible first | exact HB.out | apply below_alloc | apply pw_below_drewN | apply below_drew1 | refine below_set ?_ GE134.out) | exact HB.out)⟩⟩
case round => (
clear H'
try clear c1
try clear p1
try clear q1
try clear hx1
try clear p2
try clear c5
try clear c5b0
try clear p6
try clear c8
try clear c9
try clear c9b0
try clear c10
try clear c10b0
try clear c11
try clear c11b0
try clear c11b1
try clear c12
try clear p13
try clear q13
try clear hx13
try clear hcz12_0
try clear hcz12_1
try clear hcz12_2
try clear hcz12_3
try clear hcz12_4
try clear hcz12_5
try clear hcz12_6
try clear hcz12_7
try clear hcz13_0
try clear hcz13_1
try clear hcz13_2
try clear hcz13_3
try clear hcz13_4
try clear hcz13_5
try clear hcz13_6
try clear hcz13_7
try clear hcz14_0
try clear hcz14_1
try clear hcz14_2
try clear hcz14_3
try clear hcz14_4
try clear hcz14_5
try clear hcz14_6
try clear hcz14_7
try clear hcz6_0
try clear hcz6_1
try clear hcz6_2
try clear hcz6_3
try clear hcz6_4
try clear hcz6_5
try clear hcz6_6
try clear hcz6_7
try clear hcz7_0
try clear hcz7_1
try clear hcz7_2
try clear hcz7_3
try clear hcz7_4
try clear hcz7_5
try clear hcz7_6
try clear hcz7_7
try clear hfz12_0
try clear hfz12_1
try clear hfz12_2
try clear hfz12_3
try clear hfz12_4
try clear hfz12_5
try clear hfz12_6
try clear hfz12_7
try clear hfz13_0
try clear hfz13_1
try clear hfz13_2
try clear hfz13_3
try clear hfz13_4
try clear hfz13_5
try clear hfz13_6
try clear hfz13_7
try clear hfz14_0
try clear hfz14_1
try clear hfz14_2
try clear hfz14_3
try clear hfz14_4
try clear hfz14_5
try clear hfz14_6
try clear hfz14_7
try clear hfz6_0
try clear hfz6_1
try clear hfz6_2
try clear hfz6_3
try clear hfz6_4
try clear hfz6_5
try clear hfz6_6
try clear hfz6_7
try clear hfz7_0
try clear hfz7_1
try clear hfz7_2
try clear hfz7_3
try clear hfz7_4
try clear hfz7_5
try clear hfz7_6
try clear hfz7_7
try clear hx135_0
try clear hx135_1
try clear hx135_2
try clear p135
try clear p2
try clear p6
try clear q135
obtain ⟨x6_3, rfl, HA, HK3, BK134, HB⟩ := hrel
cases gk with
| zero => exact absurd HA.out (by simp [sr19_Few.l1])
| succ k3 => (
have H := HA.out
clear HA
simp only [sr19_Few.l1] at H
by_cases c15 : x6_3 < (l1.length : Int)
·(
rw [if_pos c15] at H
have c15b0 : decide (x6_3 < (l1.length : Int)) = true := decide_eq_true c15
clear c15
by_cases c16 : x6_3 > 20
·(
rw [if_pos c16] at H
have c16b0 : decide (20 < x6_3) = true := decide_eq_true c16
clear c16
obtain rfl := Option.some.inj H
go_wp2
go_ret
exact ⟨by first | rfl | (simp [errW_none, errW_some] <;> rfl) | (simp [*, errW_none, errW_some] <;> rfl), by repeat (first | (with_reducible first | exact HB.out | apply below_alloc | apply pw_below_drewN | apply below_drew1 | refine below_set ?_ GE134.out) | exact HB.out)⟩
)
·(
rw [if_neg c16] at H
have c16b0 : decide (20 < x6_3) = false := decide_eq_false c16
clear c16
by_cases c17 : 0 ≤ x6_3
·(
rw [if_pos c17] at H
have c17b0 : decide (0 ≤ x6_3) = true := decide_eq_true c17
clear c17
by_cases c18 : (((rd_T42 l1 x6_3).f0).size : Int) > 60
·(
rw [if_pos c18] at H
have c18b0 : decide (60 < (((rd_T42 l1 x6_3).f0).size : Int)) = true := decide_eq_true c18
have c18b1 : decide (60 < ((rd_T42 l1 x6_3).f0).size) = true := decide_eq_true (by omega)
clear c18
obtain rfl := Option.some.inj H
have p136 : 0 ≤ (x6_3 : Int) := of_decide_eq_true (by first | (with_reducible assumption) | assumption)
have q136 : x6_3 < (l1.length : Int) := of_decide_eq_true (by first | (with_reducible assumption) | assumption)
obtain ⟨ad136, A136_3, c136_3, e136, hx136_0, hx136_1, hx136_2, hx136_3, hl136_3, hi136_3⟩ := at_T42 HR1.out x6_3 p136 q136
cases e136
replace hx136_0 := (HB.out.cell (World.block_lt_of_cell? w _ hx136_0)).trans hx136_0
replace hx136_1 := (HB.out.cell (World.block_lt_of_cell? w _ hx136_1)).trans hx136_1
replace hx136_2 := (HB.out.cell (World.block_lt_of_cell? w _ hx136_2)).trans hx136_2
replace hx136_3 := (HB.out.cell (World.block_lt_of_cell? w _ hx136_3)).trans hx136_3
have HR136_3 := Aside0.mk hi136_3
have HC136_3 := Aside0.mk hl136_3
clear hi136_3 hl136_3
replace p136 := eq_true p136
replace q136 := eq_true q136
go_wp2
go_ret
exact ⟨by first | rfl | (simp [errW_none, errW_some] <;> rfl) | (simp [*, errW_none, errW_some] <;> rfl), by repeat (first | (with_reducible first | exact HB.out | apply below_alloc | apply pw_below_drewN | apply below_drew1 | refine below_set ?_ GE134.out) | exact HB.out)⟩
)
·(
rw [if_neg c18] at H
have c18b0 : decide (60 < (((rd_T42 l1 x6_3).f0).size : Int)) = false := decide_eq_false c18
have c18b1 : decide (60 < ((rd_T42 l1 x6_3).f0).size) = false := decide_eq_false (by omega)
clear c18
replace H := Option.bind_eq_some_iff.mp H
obtain ⟨t138, A190, H⟩ := H
replace H : (if t138 = true then (sr19_Few.l1 k3 l1 (wrap64 (x6_3 + 1))) else (some false)) = some r := H
have A19 := Aside0.mk A190
clear A190
by_cases c20 : t138 = true
·(
subst c20
have H1 : (sr19_Few.l1 k3 l1 (wrap64 (x6_3 + 1))) = some r := by rw [if_pos rfl] at H; exact H
clear H
have H := H1
clear H1
have H' := Aside0.mk H
clear H
have p136 : 0 ≤ (x6_3 : Int) := of_decide_eq_true (by first | (with_reducible assumption) | assumption)
have q136 : x6_3 < (l1.length : Int) := of_decide_eq_true (by first | (with_reducible assumption) | assumption)
obtain ⟨ad136, A136_3, c136_3, e136, hx136_0, hx136_1, hx136_2, hx136_3, hl136_3, hi136_3⟩ := at_T42 HR1.out x6_3 p136 q136
cases e136
replace hx136_0 := (HB.out.cell (World.block_lt_of_cell? w _ hx136_0)).trans hx136_0
replace hx136_1 := (HB.out.cell (World.block_lt_of_cell? w _ hx136_1)).trans hx136_1
replace hx136_2 := (HB.out.cell (World.block_lt_of_cell? w _ hx136_2)).trans hx136_2
replace hx136_3 := (HB.out.cell (World.block_lt_of_cell? w _ hx136_3)).trans hx136_3
have HR136_3 := Aside0.mk hi136_3
have HC136_3 := Aside0.mk hl136_3
clear hi136_3 hl136_3
replace p136 := eq_true p136
replace q136 := eq_true q136
have p137 : 0 ≤ (x6_3 : Int) := of_decide_eq_true (by first | (with_reducible assumption) | assumption)
have q137 : x6_3 < (l1.length : Int) := of_decide_eq_true (by first | (with_reducible assumption) | assumption)
obtain ⟨ad137, A137_3, c137_3, e137, hx137_0, hx137_1, hx137_2, hx137_3, hl137_3, hi137_3⟩ := at_T42 HR1.out x6_3 p137 q137
obtain rfl : ad136 = ad137 := (by injection e137)
replace hx137_0 := (HB.out.cell (World.block_lt_of_cell? w _ hx137_0)).trans hx137_0
replace hx137_1 := (HB.out.cell (World.block_lt_of_cell? w _ hx137_1)).trans hx137_1
replace hx137_2 := (HB.out.cell (World.block_lt_of_cell? w _ hx137_2)).trans hx137_2
replace hx137_3 := (HB.out.cell (World.block_lt_of_cell? w _ hx137_3)).trans hx137_3
have HR137_3 := Aside0.mk hi137_3
have HC137_3 := Aside0.mk hl137_3
clear hi137_3 hl137_3
replace p137 := eq_true p137
replace q137 := eq_true q137
have ea_ := Option.some.inj (hx136_3.symm.trans hx137_3)
injection ea_ with ea_ en_ ec_
subst ea_
subst ec_
clear en_
go_wp2_with (first | (go_at_call 34; (with_reducible refine (sr11_Few.calls k3 _ _ ((rd_T42 l1 x6_3).f3) true _ ?side1 ?side2 A19.out).mono ?_); (case side1 => repeat (first | exact (Kd.C_below HR137_3.out HB.out) | (with_reducible refine Kd.C_alloc ?_ _) | (with_reducible refine Kd.C_drewN ?_ _) | (with_reducible refine Kd.C_drew ?_))); (case side2 => exact HC137_3.out); rintro e w' ⟨rfl, ⟨nd, rfl⟩⟩))
go_roundg k3
case measure => have := HJ2.out; have := HK2.out; have := HK3.out; omega
case rel => exact ⟨(wrap64 (x6_3 + 1)), (by first | rfl | (simp; done) | (simp [*]; done)), H', ⟨by have := HJ2.out; have := HK2.out; have := HK3.out; omega⟩, ⟨by (with_reducible repeat (first | refine blk_drewN ?_ _ | refine blk_drew ?_ | refine blk_alloc ?_ _)); exact BK134.out⟩, ⟨by repeat (first | (with_reducible first | exact HB.out | apply below_alloc | apply pw_below_drewN | apply below_drew1 | refine below_set ?_ GE134.out) | exact HB.out)⟩⟩
)
·(
replace c20 := Bool.eq_false_iff.mpr c20
subst c20
have H1 : (some false) = some r := by rw [if_neg (show ¬ (false = true) by decide)] at H; exact H
clear H
have H := H1
clear H1
obtain rfl := Option.some.inj H
have p136 : 0 ≤ (x6_3 : Int) := of_decide_eq_true (by first | (with_reducible assumption) | assumption)
have q136 : x6_3 < (l1.length : Int) := of_decide_eq_true (by first | (with_reducible assumption) | assumption)
obtain ⟨ad136, A136_3, c136_3, e136, hx136_0, hx136_1, hx136_2, hx136_3, hl136_3, hi136_3⟩ := at_T42 HR1.out x6_3 p136 q136
cases e136
replace hx136_0 := (HB.out.cell (World.block_lt_of_cell? w _ hx136_0)).trans hx136_0
replace hx136_1 := (HB.out.cell (World.block_lt_of_cell? w _ hx136_1)).trans hx136_1
replace hx136_2 := (HB.out.cell (World.block_lt_of_cell? w _ hx136_2)).trans hx136_2
replace hx136_3 := (HB.out.cell (World.block_lt_of_cell? w _ hx136_3)).trans hx136_3
have HR136_3 := Aside0.mk hi136_3
have HC136_3 := Aside0.mk hl136_3
clear hi136_3 hl136_3
replace p136 := eq_true p136
replace q136 := eq_true q136
have p137 : 0 ≤ (x6_3 : Int) := of_decide_eq_true (by first | (with_reducible assumption) | assumption)
have q137 : x6_3 < (l1.length : Int) := of_decide_eq_true (by first | (with_reducible assumption) | assumption)
obtain ⟨ad137, A137_3, c137_3, e137, hx137_0, hx137_1, hx137_2, hx137_3, hl137_3, hi137_3⟩ := at_T42 HR1.out x6_3 p137 q137
obtain rfl : ad136 = ad137 := (by injection e137)
replace hx137_0 := (HB.out.cell (World.block_lt_of_cell? w _ hx137_0)).trans hx137_0
replace hx137_1 := (HB.out.cell (World.block_lt_of_cell? w _ hx137_1)).trans hx137_1
replace hx137_2 := (HB.out.cell (World.block_lt_of_cell? w _ hx137_2)).trans hx137_2
replace hx137_3 := (HB.out.cell (World.block_lt_of_cell? w _ hx137_3)).trans hx137_3
have HR137_3 := Aside0.mk hi137_3
have HC137_3 := Aside0.mk hl137_3
clear hi137_3 hl137_3
replace p137 := eq_true p137
replace q137 := eq_true q137
have ea_ := Option.some.inj (hx136_3.symm.trans hx137_3)
injection ea_ with ea_ en_ ec_
subst ea_
subst ec_
clear en_
go_wp2_with (first | (go_at_call 34; (with_reducible refine (sr11_Few.calls k3 _ _ ((rd_T42 l1 x6_3).f3) false _ ?side1 ?side2 A19.out).mono ?_); (case side1 => repeat (first | exact (Kd.C_below HR137_3.out HB.out) | (with_reducible refine Kd.C_alloc ?_ _) | (with_reducible refine Kd.C_drewN ?_ _) | (with_reducible refine Kd.C_drew ?_))); (case side2 => exact HC137_3.out); rintro e w' ⟨rfl, ⟨nd, rfl⟩⟩))
go_ret
exact ⟨by first | rfl | (simp [errW_none, errW_some] <;> rfl) | (simp [*, errW_none, errW_some] <;> rfl), by repeat (first | (with_reducible first | exact HB.out | apply below_alloc | apply pw_below_drewN | apply below_drew1 | refine below_set ?_ GE134.out) | exact HB.out)⟩
)
)
)
·(
rw [if_neg c17] at H
exact absurd H (by simp)
)
)
)
·(
rw [if_neg c15] at H
have c15b0 : decide (x6_3 < (l1.length : Int)) = false := decide_eq_false c15
clear c15
obtain rfl := Option.some.inj H
go_wp2
go_ret
exact ⟨by first | rfl | (simp [errW_none, errW_some] <;> rfl) | (simp [*, errW_none, errW_some] <;> rfl), by repeat (first | (with_reducible first | exact HB.out | apply below_alloc | apply pw_below_drewN | apply below_drew1 | refine below_set ?_ GE134.out) | exact HB.out)⟩
)
)
)
)
)
)
)
)
)

def sr03_letter.f (a0 : Int) : Option (Bool) := if a0 ≥ 97 then (some (decide (a0 ≤ 122))) else (some false)
set_option maxHeartbeats 8000000 in
set_option maxRecDepth 100000 in
theorem sr03_letter.calls (a0 : Int) (r : Bool) (w : World) (h : sr03_letter.f a0 = some r) :
  Calls Try.prog 84 #[.int .u8 a0] w fun e w' => e = .returned (.bool r) ∧ Drawn0 w w' := by
 have H : (if a0 ≥ 97 then (some (decide (a0 ≤ 122))) else (some false)) = some r := h
 clear h
 by_cases c2 : a0 ≥ 97
 ·(
rw [if_pos c2] at H
have c2b0 : decide (97 ≤ a0) = true := decide_eq_true c2
clear c2
obtain rfl := Option.some.inj H
go_enter Try.func84, Try.ntmps84
go_wp2
go_ret
exact ⟨by first | rfl | (simp; done) | (simp [*]; done), by repeat (first | exact Drawn0.refl _ | apply Drawn0.step)⟩
)
 ·(
rw [if_neg c2] at H
have c2b0 : decide (97 ≤ a0) = false := decide_eq_false c2
clear c2
obtain rfl := Option.some.inj H
go_enter Try.func84, Try.ntmps84
go_wp2
go_ret
exact ⟨by first | rfl | (simp; done) | (simp [*]; done), by repeat (first | exact Drawn0.refl _ | apply Drawn0.step)⟩
)

def sr03_digit.f (a0 : Int) : Option (Bool) := if a0 ≥ 48 then (some (decide (a0 ≤ 57))) else (some false)
set_option maxHeartbeats 8000000 in
set_option maxRecDepth 100000 in
theorem sr03_digit.calls (a0 : Int) (r : Bool) (w : World) (h : sr03_digit.f a0 = some r) :
  Calls Try.prog 85 #[.int .u8 a0] w fun e w' => e = .returned (.bool r) ∧ Drawn0 w w' := by
 have H : (if a0 ≥ 48 then (some (decide (a0 ≤ 57))) else (some false)) = some r := h
 clear h
 by_cases c2 : a0 ≥ 48
 ·(
rw [if_pos c2] at H
have c2b0 : decide (48 ≤ a0) = true := decide_eq_true c2
clear c2
obtain rfl := Option.some.inj H
go_enter Try.func85, Try.ntmps85
go_wp2
go_ret
exact ⟨by first | rfl | (simp; done) | (simp [*]; done), by repeat (first | exact Drawn0.refl _ | apply Drawn0.step)⟩
)
 ·(
rw [if_neg c2] at H
have c2b0 : decide (48 ≤ a0) = false := decide_eq_false c2
clear c2
obtain rfl := Option.some.inj H
go_enter Try.func85, Try.ntmps85
go_wp2
go_ret
exact ⟨by first | rfl | (simp; done) | (simp [*]; done), by repeat (first | exact Drawn0.refl _ | apply Drawn0.step)⟩
)

end Go.Proofs.Ytlhaaccdiienbaa.X
