-- Written for this claim by a program of this session (wip/tools/xprint.py) out of the translation.
import Derived.Test.YtlhaaccdiienbaaX0
import Derived.Test.YtlhaaccdiienbaaX4
namespace Go.Proofs.Ytlhaaccdiienbaa.X
open Go.RowKit Go.Proofs.YtlhaaccdiienbaaW.PrintWords Go.Proofs.YtlhaaccdiienbaaW.PrintLast Go.Proofs.YtlhaaccdiienbaaW.PrintMore
attribute [local go_sem] max2_int min2_int max_two min_two max_three min_three max_four min_four   -- for this text's walks alone
set_option linter.unusedVariables false
set_option linter.unusedSimpArgs false

def slices_IsSorted_int_int.l0 : Nat → List Int → Int → Option (Bool)
 | 0, _, _ => none
 | k + 1, x0, x3 => if x3 > 0 then (if 0 ≤ x3 then (if x3 < (x0.length : Int) then (if 0 ≤ (wrap64 (x3 - 1)) then (if (wrap64 (x3 - 1)) < (x0.length : Int) then ((cmp_Less_int.f (rd x0 x3) (rd x0 (wrap64 (x3 - 1)))).bind fun t125 => (if t125 = true then (some false) else (slices_IsSorted_int_int.l0 k x0 (wrap64 (x3 - 1))))) else (none)) else (none)) else (none)) else (none)) else (some true)
def slices_IsSorted_int_int.f (k : Nat) (l0 : List Int) : Option (Bool) := slices_IsSorted_int_int.l0 k l0 (wrap64 ((l0.length : Int) - 1))
theorem slices_IsSorted_int_int.mono_l : ∀ k, (∀ y0 y1, LeO (slices_IsSorted_int_int.l0 k y0 y1) (slices_IsSorted_int_int.l0 (k + 1) y0 y1))
 | 0 => fun _ _ r h => by simp [slices_IsSorted_int_int.l0] at h
 | k + 1 => by
  have ih0 := slices_IsSorted_int_int.mono_l k
  ·intro y0 y1
   unfold slices_IsSorted_int_int.l0
   repeat' first
   | (with_reducible exact ih0 _ _)
   | (with_reducible exact LeO.refl _)
   | (with_reducible exact LeO.none _)
   | (with_reducible refine LeO.ite ?_ ?_)
   | (with_reducible refine LeO.bind ?_ (fun _ => ?_))
   | exact ih0 _ _
   | exact LeO.none _
   | refine LeO.ite ?_ ?_
   | refine LeO.bind ?_ (fun _ => ?_)
theorem slices_IsSorted_int_int.mono : ∀ a0 k, LeO (slices_IsSorted_int_int.f k a0) (slices_IsSorted_int_int.f (k + 1) a0) := by
 intro a0 k
 have ih0 := slices_IsSorted_int_int.mono_l k
 unfold slices_IsSorted_int_int.f
 repeat' first
   | (with_reducible exact ih0 _ _)
   | (with_reducible exact LeO.refl _)
   | (with_reducible exact LeO.none _)
   | (with_reducible refine LeO.ite ?_ ?_)
   | (with_reducible refine LeO.bind ?_ (fun _ => ?_))
   | exact ih0 _ _
   | exact LeO.none _
   | refine LeO.ite ?_ ?_
   | refine LeO.bind ?_ (fun _ => ?_)
set_option maxHeartbeats 8000000 in
set_option maxRecDepth 100000 in
theorem slices_IsSorted_int_int.calls (k : Nat) (A0 : Option Addr) (c0 : Nat) (l0 : List Int) (r : Bool) (w : World) (hr0 : Kd.C (Kd.int .i64) w A0 l0.length l0) (hc0 : l0.length ≤ c0) (h : slices_IsSorted_int_int.f k l0 = some r) :
  Calls Try.prog 53 #[.slice A0 l0.length c0] w fun e w' => e = .returned (.bool r) ∧ Drawn0 w w' := by
 have HR0 := Aside0.mk hr0
 have HC0 := Aside0.mk hc0
 clear hr0 hc0
 have H : (slices_IsSorted_int_int.l0 k l0 (wrap64 ((l0.length : Int) - 1))) = some r := h
 clear h
 have H' := Aside0.mk H
 clear H
 go_enter Try.func53, Try.ntmps53
 go_wp2
 repeat (go_quiet (fail); try go_wp2)
 go_loopg [3] k (fun kq v3 w' => ∃ (x3_1 : Int), v3 = .int .i64 x3_1 ∧ Aside0 (slices_IsSorted_int_int.l0 kq l0 x3_1 = some r) ∧ Aside0 (kq ≤ k) ∧ Drawn0 w w')
 case atStart => exact ⟨(wrap64 ((l0.length : Int) - 1)), (by first | rfl | (simp; done) | (simp [*]; done)), H', ⟨Nat.le_refl _⟩, by repeat (first | exact Drawn0.refl _ | apply Drawn0.step)⟩
 case round => (
clear H'
obtain ⟨x3_1, rfl, HA, HK1, ⟨m1, rfl⟩⟩ := hrel
cases gk with
| zero => exact absurd HA.out (by simp [slices_IsSorted_int_int.l0])
| succ k1 => (
have H := HA.out
clear HA
simp only [slices_IsSorted_int_int.l0] at H
by_cases c2 : x3_1 > 0
·(
rw [if_pos c2] at H
have c2b0 : decide (0 < x3_1) = true := decide_eq_true c2
clear c2
by_cases c3 : 0 ≤ x3_1
·(
rw [if_pos c3] at H
have c3b0 : decide (0 ≤ x3_1) = true := decide_eq_true c3
clear c3
by_cases c4 : x3_1 < (l0.length : Int)
·(
rw [if_pos c4] at H
have c4b0 : decide (x3_1 < (l0.length : Int)) = true := decide_eq_true c4
clear c4
obtain ⟨ji5, hji5⟩ : ∃ j_ : Int, (wrap64 (x3_1 - 1)) = j_ := ⟨_, rfl⟩
replace H : (if 0 ≤ (ji5) then (if (ji5) < (l0.length : Int) then ((cmp_Less_int.f (rd l0 x3_1) (rd l0 (ji5))).bind fun t125 => (if t125 = true then (some false) else (slices_IsSorted_int_int.l0 k1 l0 ji5))) else (none)) else (none)) = some r := by first | (rw [hji5] at H; exact H) | (simp only [hji5] at H ⊢; exact H)
have hji5w : (IntKind.i64.wrap (x3_1 - 1)) = ji5 := (i64_w _).trans hji5
by_cases c6 : 0 ≤ (ji5)
·(
rw [if_pos c6] at H
have c6b0 : decide (0 ≤ (ji5)) = true := decide_eq_true c6
clear c6
by_cases c7 : (ji5) < (l0.length : Int)
·(
rw [if_pos c7] at H
have c7b0 : decide ((ji5) < (l0.length : Int)) = true := decide_eq_true c7
clear c7
replace H := Option.bind_eq_some_iff.mp H
obtain ⟨t125, A80, H⟩ := H
replace H : (if t125 = true then (some false) else (slices_IsSorted_int_int.l0 k1 l0 ji5)) = some r := H
have A8 := Aside0.mk A80
clear A80
by_cases c9 : t125 = true
·(
subst c9
have H1 : (some false) = some r := by rw [if_pos rfl] at H; exact H
clear H
have H := H1
clear H1
obtain rfl := Option.some.inj H
have p123 : 0 ≤ (x3_1 : Int) := of_decide_eq_true (by first | (with_reducible assumption) | assumption)
have q123 : x3_1 < (l0.length : Int) := of_decide_eq_true (by first | (with_reducible assumption) | assumption)
obtain ⟨ad123, e123, hx123_0⟩ := Kd.at_int HR0.out x3_1 p123 q123
cases e123
replace p123 := eq_true p123
replace q123 := eq_true q123
have p124 : 0 ≤ ((ji5) : Int) := of_decide_eq_true (by first | (with_reducible assumption) | assumption)
have q124 : (ji5) < (l0.length : Int) := of_decide_eq_true (by first | (with_reducible assumption) | assumption)
obtain ⟨ad124, e124, hx124_0⟩ := Kd.at_int HR0.out (ji5) p124 q124
obtain rfl : ad123 = ad124 := (by injection e124)
replace p124 := eq_true p124
replace q124 := eq_true q124
go_wp2_with (first | (go_at_call 88; (with_reducible refine (cmp_Less_int.calls (rd l0 x3_1) (rd l0 (ji5)) true _ A8.out).mono ?_); rintro e w' ⟨rfl, ⟨nd, rfl⟩⟩; (try first | exact ⟨rfl, _, World.drewN_drewN _ _ _⟩ | exact ⟨rfl, _, Eq.trans (World.drewN_drewN _ _ _) (congrArg (World.drewN _) (Nat.add_assoc _ _ _))⟩)))
repeat (go_quiet (first | (go_at_call 88; (with_reducible refine (cmp_Less_int.calls (rd l0 x3_1) (rd l0 (ji5)) true _ A8.out).mono ?_); rintro e w' ⟨rfl, ⟨nd, rfl⟩⟩; (try first | exact ⟨rfl, _, World.drewN_drewN _ _ _⟩ | exact ⟨rfl, _, Eq.trans (World.drewN_drewN _ _ _) (congrArg (World.drewN _) (Nat.add_assoc _ _ _))⟩))); try go_wp2_with (first | (go_at_call 88; (with_reducible refine (cmp_Less_int.calls (rd l0 x3_1) (rd l0 (ji5)) true _ A8.out).mono ?_); rintro e w' ⟨rfl, ⟨nd, rfl⟩⟩; (try first | exact ⟨rfl, _, World.drewN_drewN _ _ _⟩ | exact ⟨rfl, _, Eq.trans (World.drewN_drewN _ _ _) (congrArg (World.drewN _) (Nat.add_assoc _ _ _))⟩))))
go_ret
exact ⟨by first | rfl | (simp; done) | (simp only [← hji5] <;> (first | rfl | simp)) | (simp [*]; done), by repeat (first | exact Drawn0.refl _ | apply Drawn0.step)⟩
)
·(
replace c9 := Bool.eq_false_iff.mpr c9
subst c9
have H1 : (slices_IsSorted_int_int.l0 k1 l0 ji5) = some r := by rw [if_neg (show ¬ (false = true) by decide)] at H; exact H
clear H
have H := H1
clear H1
have H' := Aside0.mk H
clear H
have p123 : 0 ≤ (x3_1 : Int) := of_decide_eq_true (by first | (with_reducible assumption) | assumption)
have q123 : x3_1 < (l0.length : Int) := of_decide_eq_true (by first | (with_reducible assumption) | assumption)
obtain ⟨ad123, e123, hx123_0⟩ := Kd.at_int HR0.out x3_1 p123 q123
cases e123
replace p123 := eq_true p123
replace q123 := eq_true q123
have p124 : 0 ≤ ((ji5) : Int) := of_decide_eq_true (by first | (with_reducible assumption) | assumption)
have q124 : (ji5) < (l0.length : Int) := of_decide_eq_true (by first | (with_reducible assumption) | assumption)
obtain ⟨ad124, e124, hx124_0⟩ := Kd.at_int HR0.out (ji5) p124 q124
obtain rfl : ad123 = ad124 := (by injection e124)
replace p124 := eq_true p124
replace q124 := eq_true q124
go_wp2_with (first | (go_at_call 88; (with_reducible refine (cmp_Less_int.calls (rd l0 x3_1) (rd l0 (ji5)) false _ A8.out).mono ?_); rintro e w' ⟨rfl, ⟨nd, rfl⟩⟩; (try first | exact ⟨rfl, _, World.drewN_drewN _ _ _⟩ | exact ⟨rfl, _, Eq.trans (World.drewN_drewN _ _ _) (congrArg (World.drewN _) (Nat.add_assoc _ _ _))⟩)))
repeat (go_quiet (first | (go_at_call 88; (with_reducible refine (cmp_Less_int.calls (rd l0 x3_1) (rd l0 (ji5)) false _ A8.out).mono ?_); rintro e w' ⟨rfl, ⟨nd, rfl⟩⟩; (try first | exact ⟨rfl, _, World.drewN_drewN _ _ _⟩ | exact ⟨rfl, _, Eq.trans (World.drewN_drewN _ _ _) (congrArg (World.drewN _) (Nat.add_assoc _ _ _))⟩))); try go_wp2_with (first | (go_at_call 88; (with_reducible refine (cmp_Less_int.calls (rd l0 x3_1) (rd l0 (ji5)) false _ A8.out).mono ?_); rintro e w' ⟨rfl, ⟨nd, rfl⟩⟩; (try first | exact ⟨rfl, _, World.drewN_drewN _ _ _⟩ | exact ⟨rfl, _, Eq.trans (World.drewN_drewN _ _ _) (congrArg (World.drewN _) (Nat.add_assoc _ _ _))⟩))))
go_roundg k1
case measure => have := HK1.out; omega
case rel => exact ⟨(ji5), (by first | rfl | (simp; done) | (simp only [← hji5] <;> (first | rfl | simp)) | (simp [*]; done)), H', ⟨by have := HK1.out; omega⟩, by repeat (first | exact Drawn0.refl _ | apply Drawn0.step)⟩
)
)
·(
rw [if_neg c7] at H
exact absurd H (by simp)
)
)
·(
rw [if_neg c6] at H
exact absurd H (by simp)
)
)
·(
rw [if_neg c4] at H
exact absurd H (by simp)
)
)
·(
rw [if_neg c3] at H
exact absurd H (by simp)
)
)
·(
rw [if_neg c2] at H
have c2b0 : decide (0 < x3_1) = false := decide_eq_false c2
clear c2
obtain rfl := Option.some.inj H
go_wp2
repeat (go_quiet (fail); try go_wp2)
go_ret
exact ⟨by first | rfl | (simp; done) | (simp [*]; done), by repeat (first | exact Drawn0.refl _ | apply Drawn0.step)⟩
)
)
)

-- NOT PRINTED: function 56 (slices_Max_int_int)

mutual
def order_whole.l0 : Nat → List (List Int) → List (S65) → Int → Int → Option (Bool)
 | 0, _, _, _, _ => none
 | k + 1, x1, x11, x12, x13 => if x13 < x12 then (if 0 ≤ x13 then (if x13 < (x11.length : Int) then (order_whole.l1 k x1 x13 ((rd_T65 x11 x13).f1) x11 x12 x13 x1 (x1.length : Int) 0) else (none)) else (none)) else (some true)
def order_whole.l1 : Nat → List (List Int) → Int → Int → List (S65) → Int → Int → List (List Int) → Int → Int → Option (Bool)
 | 0, _, _, _, _, _, _, _, _, _ => none
 | k + 1, x1, x5, x7, x11, x12, x13, x20, x21, x22 => if x22 < x21 then (if 0 ≤ x22 then (if x22 < (x20.length : Int) then (if 0 ≤ x5 then (if x5 < ((rd_L5 x20 x22).length : Int) then (if (rd (rd_L5 x20 x22) x5) > x7 then (some false) else (order_whole.l1 k x1 x5 (wrap64 (x7 - (rd (rd_L5 x20 x22) x5))) x11 x12 x13 x20 x21 (wrap64 (x22 + 1)))) else (none)) else (none)) else (none)) else (none)) else (if x7 = 0 then (order_whole.l0 k x1 x11 x12 (wrap64 (x13 + 1))) else (some false))
end
def order_whole.f (k : Nat) (a0_0 : ByteArray) (a0_1 : ByteArray) (a0_2 : ByteArray) (a0_3 : ByteArray) (a0_4 : ByteArray) (a0_5 : ByteArray) (a0_6 : Int) (l0_7 : List (S65)) (l1 : List (List Int)) : Option (Bool) := order_whole.l0 k l1 l0_7 (l0_7.length : Int) 0
theorem order_whole.mono_l : ∀ k, (∀ y0 y1 y2 y3, LeO (order_whole.l0 k y0 y1 y2 y3) (order_whole.l0 (k + 1) y0 y1 y2 y3)) ∧ (∀ y0 y1 y2 y3 y4 y5 y6 y7 y8, LeO (order_whole.l1 k y0 y1 y2 y3 y4 y5 y6 y7 y8) (order_whole.l1 (k + 1) y0 y1 y2 y3 y4 y5 y6 y7 y8))
 | 0 => ⟨fun _ _ _ _ r h => by simp [order_whole.l0] at h, fun _ _ _ _ _ _ _ _ _ r h => by simp [order_whole.l1] at h⟩
 | k + 1 => by
  obtain ⟨ih0, ih1⟩ := order_whole.mono_l k
  refine ⟨?_, ?_⟩
  ·intro y0 y1 y2 y3
   unfold order_whole.l0
   repeat' first
   | (with_reducible exact ih0 _ _ _ _)
   | (with_reducible exact ih1 _ _ _ _ _ _ _ _ _)
   | (with_reducible exact LeO.refl _)
   | (with_reducible exact LeO.none _)
   | (with_reducible refine LeO.ite ?_ ?_)
   | (with_reducible refine LeO.bind ?_ (fun _ => ?_))
   | exact ih0 _ _ _ _
   | exact ih1 _ _ _ _ _ _ _ _ _
   | exact LeO.none _
   | refine LeO.ite ?_ ?_
   | refine LeO.bind ?_ (fun _ => ?_)
  ·intro y0 y1 y2 y3 y4 y5 y6 y7 y8
   unfold order_whole.l1
   repeat' first
   | (with_reducible exact ih0 _ _ _ _)
   | (with_reducible exact ih1 _ _ _ _ _ _ _ _ _)
   | (with_reducible exact LeO.refl _)
   | (with_reducible exact LeO.none _)
   | (with_reducible refine LeO.ite ?_ ?_)
   | (with_reducible refine LeO.bind ?_ (fun _ => ?_))
   | exact ih0 _ _ _ _
   | exact ih1 _ _ _ _ _ _ _ _ _
   | exact LeO.none _
   | refine LeO.ite ?_ ?_
   | refine LeO.bind ?_ (fun _ => ?_)
theorem order_whole.mono : ∀ a0 a1 a2 a3 a4 a5 a6 a7 a8 k, LeO (order_whole.f k a0 a1 a2 a3 a4 a5 a6 a7 a8) (order_whole.f (k + 1) a0 a1 a2 a3 a4 a5 a6 a7 a8) := by
 intro a0 a1 a2 a3 a4 a5 a6 a7 a8 k
 obtain ⟨ih0, ih1⟩ := order_whole.mono_l k
 unfold order_whole.f
 repeat' first
   | (with_reducible exact ih0 _ _ _ _)
   | (with_reducible exact ih1 _ _ _ _ _ _ _ _ _)
   | (with_reducible exact LeO.refl _)
   | (with_reducible exact LeO.none _)
   | (with_reducible refine LeO.ite ?_ ?_)
   | (with_reducible refine LeO.bind ?_ (fun _ => ?_))
   | exact ih0 _ _ _ _
   | exact ih1 _ _ _ _ _ _ _ _ _
   | exact LeO.none _
   | refine LeO.ite ?_ ?_
   | refine LeO.bind ?_ (fun _ => ?_)
set_option maxHeartbeats 8000000 in
set_option maxRecDepth 100000 in
theorem order_whole.calls (k : Nat) (a0_0 : ByteArray) (a0_1 : ByteArray) (a0_2 : ByteArray) (a0_3 : ByteArray) (a0_4 : ByteArray) (a0_5 : ByteArray) (a0_6 : Int) (A0_7 : Option Addr) (c0_7 : Nat) (l0_7 : List (S65)) (A1 : Option Addr) (c1 : Nat) (l1 : List (List Int)) (r : Bool) (w : World) (hr0_7 : Kd.C k65 w A0_7 l0_7.length l0_7) (hc0_7 : l0_7.length ≤ c0_7) (hr1 : Kd.C (Kd.slice 3 (Kd.int .i64)) w A1 l1.length l1) (hc1 : l1.length ≤ c1) (h : order_whole.f k a0_0 a0_1 a0_2 a0_3 a0_4 a0_5 a0_6 l0_7 l1 = some r) :
  Calls Try.prog 58 #[.agg #[.string a0_0, .string a0_1, .string a0_2, .string a0_3, .string a0_4, .string a0_5, .int .i64 a0_6, .slice A0_7 l0_7.length c0_7], .slice A1 l1.length c1] w fun e w' => e = .returned (.bool r) ∧ Below w.heap.size w w' := by
 have hu24 := Try.underlying24
 have hu65 := Try.underlying65
 have HR0_7 := Aside0.mk hr0_7
 have HC0_7 := Aside0.mk hc0_7
 clear hr0_7 hc0_7
 have HR1 := Aside0.mk hr1
 have HC1 := Aside0.mk hc1
 clear hr1 hc1
 have HB := Aside0.mk (Below.refl w.heap.size w)
 have H : (order_whole.l0 k l1 l0_7 (l0_7.length : Int) 0) = some r := h
 clear h
 have H' := Aside0.mk H
 clear H
 go_enter Try.func58, Try.ntmps58
 go_wp2_with (first | ((with_reducible refine gate_dst (N := 2) rfl ?_); refine box_event ?hg (N := 2) ?hd (cs := #[.string a0_0, .string a0_1, .string a0_2, .string a0_3, .string a0_4, .string a0_5, .int .i64 a0_6, .slice A0_7 l0_7.length c0_7]) (t := 24) ?hr ?_; (case hd => rfl); (case hg => rfl); (case hr => first | (go_simp; done) | (go_simp; rfl)); intro gb126 hg w3 hbox hb; have n0_ := Aside0.mk (below_step (by repeat (first | (with_reducible first | exact HB.out | apply below_alloc | apply pw_below_drewN | apply below_drew1) | exact HB.out)) hb); have n1_ := Aside0.mk (hbox); have n2_ := Aside0.mk ((by rw [hg]; exact (below_size (by repeat (first | (with_reducible first | exact HB.out | apply below_alloc | apply pw_below_drewN | apply below_drew1) | exact HB.out))) : w.heap.size ≤ gb126)); have n3_ := Aside0.mk ((by rw [hg]; exact (below_size (by repeat (first | (with_reducible first | exact HB.out | apply below_alloc | apply pw_below_drewN | apply below_drew1) | exact HB.out))) : w.heap.size ≤ gb126)); clear HB; have HB := n0_; have BK126 := n1_; have GW126 := n2_; have GE126 := n3_; clear n0_ n1_ n2_ n3_; clear hb hbox hg; have hcz4_0 : w3.cell? ⟨gb126, 0, none⟩ = some (.string a0_0) := (blk_cell BK126.out 0).trans rfl; have hcz4_1 : w3.cell? ⟨gb126, 1, none⟩ = some (.string a0_1) := (blk_cell BK126.out 1).trans rfl; have hcz4_2 : w3.cell? ⟨gb126, 2, none⟩ = some (.string a0_2) := (blk_cell BK126.out 2).trans rfl; have hcz4_3 : w3.cell? ⟨gb126, 3, none⟩ = some (.string a0_3) := (blk_cell BK126.out 3).trans rfl; have hcz4_4 : w3.cell? ⟨gb126, 4, none⟩ = some (.string a0_4) := (blk_cell BK126.out 4).trans rfl; have hcz4_5 : w3.cell? ⟨gb126, 5, none⟩ = some (.string a0_5) := (blk_cell BK126.out 5).trans rfl; have hcz4_6 : w3.cell? ⟨gb126, 6, none⟩ = some (.int .i64 a0_6) := (blk_cell BK126.out 6).trans rfl; have hcz4_7 : w3.cell? ⟨gb126, 7, none⟩ = some (.slice A0_7 l0_7.length c0_7) := (blk_cell BK126.out 7).trans rfl; have hfz4_0 := blk_frozen BK126.out 0; have hfz4_1 := blk_frozen BK126.out 1; have hfz4_2 := blk_frozen BK126.out 2; have hfz4_3 := blk_frozen BK126.out 3; have hfz4_4 := blk_frozen BK126.out 4; have hfz4_5 := blk_frozen BK126.out 5; have hfz4_6 := blk_frozen BK126.out 6; have hfz4_7 := blk_frozen BK126.out 7))
 go_loopg [13] k (fun kq v13 w' => ∃ (x13_1 : Int), v13 = .int .i64 x13_1 ∧ Aside0 (order_whole.l0 kq l1 l0_7 (l0_7.length : Int) x13_1 = some r) ∧ Aside0 (kq ≤ k) ∧ Aside0 (w'.heap[gb126]? = some (.cells #[.string a0_0, .string a0_1, .string a0_2, .string a0_3, .string a0_4, .string a0_5, .int .i64 a0_6, (.slice A0_7 l0_7.length c0_7)] 24 (0, 0))) ∧ Aside0 (Below w.heap.size w w'))
 case atStart => exact ⟨(0), (by first | rfl | (simp; done) | (simp [*]; done)), H', ⟨Nat.le_refl _⟩, ⟨by (with_reducible repeat (first | refine blk_drewN ?_ _ | refine blk_drew ?_ | refine blk_alloc ?_ _)); exact BK126.out⟩, ⟨by repeat (first | (with_reducible first | exact HB.out | apply below_alloc | apply pw_below_drewN | apply below_drew1 | refine below_set ?_ GE126.out) | exact HB.out)⟩⟩
 case round => (
clear H'
try clear c1
try clear p2
try clear hcz4_0
try clear hcz4_1
try clear hcz4_2
try clear hcz4_3
try clear hcz4_4
try clear hcz4_5
try clear hcz4_6
try clear hcz4_7
try clear hfz4_0
try clear hfz4_1
try clear hfz4_2
try clear hfz4_3
try clear hfz4_4
try clear hfz4_5
try clear hfz4_6
try clear hfz4_7
obtain ⟨x13_1, rfl, HA, HK1, BK126, HB⟩ := hrel
cases gk with
| zero => exact absurd HA.out (by simp [order_whole.l0])
| succ k1 => (
have H := HA.out
clear HA
simp only [order_whole.l0] at H
by_cases c5 : x13_1 < (l0_7.length : Int)
·(
rw [if_pos c5] at H
have c5b0 : decide (x13_1 < (l0_7.length : Int)) = true := decide_eq_true c5
clear c5
by_cases c6 : 0 ≤ x13_1
·(
rw [if_pos c6] at H
have c6b0 : decide (0 ≤ x13_1) = true := decide_eq_true c6
clear c6
by_cases c7 : x13_1 < (l0_7.length : Int)
·(
rw [if_pos c7] at H
have c7b0 : decide (x13_1 < (l0_7.length : Int)) = true := decide_eq_true c7
clear c7
have H' := Aside0.mk H
clear H
have p127 : 0 ≤ (x13_1 : Int) := of_decide_eq_true (by first | (with_reducible assumption) | assumption)
have q127 : x13_1 < (l0_7.length : Int) := of_decide_eq_true (by first | (with_reducible assumption) | assumption)
obtain ⟨ad127, e127, hx127_0, hx127_1, hx127_2⟩ := at_T65 HR0_7.out x13_1 p127 q127
cases e127
replace hx127_0 := (HB.out.cell (World.block_lt_of_cell? w _ hx127_0)).trans hx127_0
replace hx127_1 := (HB.out.cell (World.block_lt_of_cell? w _ hx127_1)).trans hx127_1
replace hx127_2 := (HB.out.cell (World.block_lt_of_cell? w _ hx127_2)).trans hx127_2
replace p127 := eq_true p127
replace q127 := eq_true q127
go_wp2_with (first | ((with_reducible refine gate_dst (N := 6) rfl ?_); refine box_event ?hg (N := 6) ?hd (cs := #[.string (⟨#[]⟩ : ByteArray), .int .i64 0, .int .i64 0]) (t := 65) ?hr ?_; (case hd => rfl); (case hg => rfl); (case hr => first | (go_simp; done) | (go_simp; rfl)); intro gb128 hg w8 hbox hb; have n0_ := Aside0.mk (blk_below (g := gb126) (o := .cells #[.string a0_0, .string a0_1, .string a0_2, .string a0_3, .string a0_4, .string a0_5, .int .i64 a0_6, .slice (some ad127) l0_7.length c0_7] 24 (0, 0)) (by (with_reducible repeat (first | refine blk_drewN ?_ _ | refine blk_drew ?_ | refine blk_alloc ?_ _)); exact BK126.out) hb); have n1_ := Aside0.mk (below_step (by repeat (first | (with_reducible first | exact HB.out | apply below_alloc | apply pw_below_drewN | apply below_drew1 | refine below_set ?_ GE126.out) | exact HB.out)) hb); have n2_ := Aside0.mk (hbox); have n3_ := Aside0.mk ((by rw [hg]; exact (below_size (by repeat (first | (with_reducible first | exact HB.out | apply below_alloc | apply pw_below_drewN | apply below_drew1 | refine below_set ?_ GE126.out) | exact HB.out))) : w.heap.size ≤ gb128)); have n4_ := Aside0.mk ((by rw [hg]; exact (below_size (by repeat (first | (with_reducible first | exact HB.out | apply below_alloc | apply pw_below_drewN | apply below_drew1 | refine below_set ?_ GE126.out) | exact HB.out))) : w.heap.size ≤ gb128)); have n5_ := Aside0.mk ((by rw [hg]; exact Nat.ne_of_lt (blk_lt (g := gb126) (o := .cells #[.string a0_0, .string a0_1, .string a0_2, .string a0_3, .string a0_4, .string a0_5, .int .i64 a0_6, .slice (some ad127) l0_7.length c0_7] 24 (0, 0)) (by (with_reducible repeat (first | refine blk_drewN ?_ _ | refine blk_drew ?_ | refine blk_alloc ?_ _)); exact BK126.out)) : gb126 ≠ gb128)); have n6_ := Aside0.mk ((by rw [hg]; exact Nat.ne_of_gt (blk_lt (g := gb126) (o := .cells #[.string a0_0, .string a0_1, .string a0_2, .string a0_3, .string a0_4, .string a0_5, .int .i64 a0_6, .slice (some ad127) l0_7.length c0_7] 24 (0, 0)) (by (with_reducible repeat (first | refine blk_drewN ?_ _ | refine blk_drew ?_ | refine blk_alloc ?_ _)); exact BK126.out)) : gb128 ≠ gb126)); clear BK126; clear HB; have BK126 := n0_; have HB := n1_; have BK128 := n2_; have GW128 := n3_; have GE128 := n4_; have NB126_128 := n5_; have NB128_126 := n6_; clear n0_ n1_ n2_ n3_ n4_ n5_ n6_; clear hb hbox hg; have hnb9 := NB128_126.out; have hnc9 := NB126_128.out; have hcz10_0 : w8.cell? ⟨gb128, 0, none⟩ = some (.string (⟨#[]⟩ : ByteArray)) := (blk_cell BK128.out 0).trans rfl; have hcz10_1 : w8.cell? ⟨gb128, 1, none⟩ = some (.int .i64 0) := (blk_cell BK128.out 1).trans rfl; have hcz10_2 : w8.cell? ⟨gb128, 2, none⟩ = some (.int .i64 0) := (blk_cell BK128.out 2).trans rfl; have hfz10_0 := blk_frozen BK128.out 0; have hfz10_1 := blk_frozen BK128.out 1; have hfz10_2 := blk_frozen BK128.out 2))
go_loopg [7, 22] k1 (fun kq v7 v22 w' => ∃ (x7_2 : Int) (x22_2 : Int), v7 = .int .i64 x7_2 ∧ v22 = .int .i64 x22_2 ∧ Aside0 (order_whole.l1 kq l1 x13_1 x7_2 l0_7 (l0_7.length : Int) x13_1 l1 (l1.length : Int) x22_2 = some r) ∧ Aside0 (kq ≤ k1) ∧ Aside0 (w'.heap[gb126]? = some (.cells #[.string a0_0, .string a0_1, .string a0_2, .string a0_3, .string a0_4, .string a0_5, .int .i64 a0_6, (.slice (some ad127) l0_7.length c0_7)] 24 (0, 0))) ∧ Aside0 (w'.heap[gb128]? = some (.cells #[.string ((rd_T65 l0_7 x13_1).f0), .int .i64 ((rd_T65 l0_7 x13_1).f1), .int .i64 ((rd_T65 l0_7 x13_1).f2)] 65 (0, 0))) ∧ Aside0 (Below w.heap.size w w'))
case atStart => exact ⟨((rd_T65 l0_7 x13_1).f1), (0), (by first | rfl | (simp; done) | (simp [*]; done)), (by first | rfl | (simp; done) | (simp [*]; done)), H', ⟨Nat.le_refl _⟩, ⟨by (with_reducible repeat (first | refine blk_drewN ?_ _ | refine blk_drew ?_ | refine blk_alloc ?_ _)); refine blk_far ?_ NB126_128.out _; (with_reducible repeat (first | refine blk_drewN ?_ _ | refine blk_drew ?_ | refine blk_alloc ?_ _)); refine blk_far ?_ NB126_128.out _; (with_reducible repeat (first | refine blk_drewN ?_ _ | refine blk_drew ?_ | refine blk_alloc ?_ _)); refine blk_far ?_ NB126_128.out _; (with_reducible repeat (first | refine blk_drewN ?_ _ | refine blk_drew ?_ | refine blk_alloc ?_ _)); exact BK126.out⟩, ⟨by (with_reducible repeat (first | refine blk_drewN ?_ _ | refine blk_drew ?_ | refine blk_alloc ?_ _)); refine blk_put (cs := #[.string ((rd_T65 l0_7 x13_1).f0), .int .i64 ((rd_T65 l0_7 x13_1).f1), .int .i64 0]) ?_ 2 _ rfl; (with_reducible repeat (first | refine blk_drewN ?_ _ | refine blk_drew ?_ | refine blk_alloc ?_ _)); refine blk_put (cs := #[.string ((rd_T65 l0_7 x13_1).f0), .int .i64 0, .int .i64 0]) ?_ 1 _ rfl; (with_reducible repeat (first | refine blk_drewN ?_ _ | refine blk_drew ?_ | refine blk_alloc ?_ _)); refine blk_put (cs := #[.string (⟨#[]⟩ : ByteArray), .int .i64 0, .int .i64 0]) ?_ 0 _ rfl; (with_reducible repeat (first | refine blk_drewN ?_ _ | refine blk_drew ?_ | refine blk_alloc ?_ _)); exact BK128.out⟩, ⟨by repeat (first | (with_reducible first | exact HB.out | apply below_alloc | apply pw_below_drewN | apply below_drew1 | refine below_set ?_ GE126.out | refine below_set ?_ GE128.out) | exact HB.out)⟩⟩
case round => (
clear H'
try clear c1
try clear p1
try clear q1
try clear hx1
try clear p2
try clear c5
try clear c5b0
try clear c6
try clear c6b0
try clear c7
try clear c7b0
try clear c9
try clear hcz10_0
try clear hcz10_1
try clear hcz10_2
try clear hcz4_0
try clear hcz4_1
try clear hcz4_2
try clear hcz4_3
try clear hcz4_4
try clear hcz4_5
try clear hcz4_6
try clear hcz4_7
try clear hfz10_0
try clear hfz10_1
try clear hfz10_2
try clear hfz4_0
try clear hfz4_1
try clear hfz4_2
try clear hfz4_3
try clear hfz4_4
try clear hfz4_5
try clear hfz4_6
try clear hfz4_7
try clear hx127_0
try clear hx127_1
try clear hx127_2
try clear p127
try clear p2
try clear q127
obtain ⟨x7_2, x22_2, rfl, rfl, HA, HK2, BK126, BK128, HB⟩ := hrel
cases gk with
| zero => exact absurd HA.out (by simp [order_whole.l1])
| succ k2 => (
have H := HA.out
clear HA
simp only [order_whole.l1] at H
by_cases c11 : x22_2 < (l1.length : Int)
·(
rw [if_pos c11] at H
have c11b0 : decide (x22_2 < (l1.length : Int)) = true := decide_eq_true c11
clear c11
by_cases c12 : 0 ≤ x22_2
·(
rw [if_pos c12] at H
have c12b0 : decide (0 ≤ x22_2) = true := decide_eq_true c12
clear c12
by_cases c13 : x22_2 < (l1.length : Int)
·(
rw [if_pos c13] at H
have c13b0 : decide (x22_2 < (l1.length : Int)) = true := decide_eq_true c13
clear c13
by_cases c14 : 0 ≤ x13_1
·(
rw [if_pos c14] at H
have c14b0 : decide (0 ≤ x13_1) = true := decide_eq_true c14
clear c14
by_cases c15 : x13_1 < ((rd_L5 l1 x22_2).length : Int)
·(
rw [if_pos c15] at H
have c15b0 : decide (x13_1 < ((rd_L5 l1 x22_2).length : Int)) = true := decide_eq_true c15
clear c15
by_cases c16 : (rd (rd_L5 l1 x22_2) x13_1) > x7_2
·(
rw [if_pos c16] at H
have c16b0 : decide (x7_2 < (rd (rd_L5 l1 x22_2) x13_1)) = true := decide_eq_true c16
clear c16
obtain rfl := Option.some.inj H
have p129 : 0 ≤ (x22_2 : Int) := of_decide_eq_true (by first | (with_reducible assumption) | assumption)
have q129 : x22_2 < (l1.length : Int) := of_decide_eq_true (by first | (with_reducible assumption) | assumption)
obtain ⟨ad129, A129_0, c129_0, e129, hx129_0, hl129_0, hi129_0⟩ := at_L5 HR1.out x22_2 p129 q129
cases e129
replace hx129_0 := (HB.out.cell (World.block_lt_of_cell? w _ hx129_0)).trans hx129_0
have HR129_0 := Aside0.mk hi129_0
have HC129_0 := Aside0.mk hl129_0
clear hi129_0 hl129_0
replace p129 := eq_true p129
replace q129 := eq_true q129
have p130 : 0 ≤ (x13_1 : Int) := of_decide_eq_true (by first | (with_reducible assumption) | assumption)
have q130 : x13_1 < ((rd_L5 l1 x22_2).length : Int) := of_decide_eq_true (by first | (with_reducible assumption) | assumption)
obtain ⟨ad130, e130, hx130_0⟩ := Kd.at_int HR129_0.out x13_1 p130 q130
cases e130
replace hx130_0 := (HB.out.cell (World.block_lt_of_cell? w _ hx130_0)).trans hx130_0
replace p130 := eq_true p130
replace q130 := eq_true q130
go_wp2
go_ret
exact ⟨by first | rfl | (simp [errW_none, errW_some] <;> rfl) | (simp [*, errW_none, errW_some] <;> rfl), by repeat (first | (with_reducible first | exact HB.out | apply below_alloc | apply pw_below_drewN | apply below_drew1 | refine below_set ?_ GE126.out | refine below_set ?_ GE128.out) | exact HB.out)⟩
)
·(
rw [if_neg c16] at H
have c16b0 : decide (x7_2 < (rd (rd_L5 l1 x22_2) x13_1)) = false := decide_eq_false c16
clear c16
have H' := Aside0.mk H
clear H
have p129 : 0 ≤ (x22_2 : Int) := of_decide_eq_true (by first | (with_reducible assumption) | assumption)
have q129 : x22_2 < (l1.length : Int) := of_decide_eq_true (by first | (with_reducible assumption) | assumption)
obtain ⟨ad129, A129_0, c129_0, e129, hx129_0, hl129_0, hi129_0⟩ := at_L5 HR1.out x22_2 p129 q129
cases e129
replace hx129_0 := (HB.out.cell (World.block_lt_of_cell? w _ hx129_0)).trans hx129_0
have HR129_0 := Aside0.mk hi129_0
have HC129_0 := Aside0.mk hl129_0
clear hi129_0 hl129_0
replace p129 := eq_true p129
replace q129 := eq_true q129
have p130 : 0 ≤ (x13_1 : Int) := of_decide_eq_true (by first | (with_reducible assumption) | assumption)
have q130 : x13_1 < ((rd_L5 l1 x22_2).length : Int) := of_decide_eq_true (by first | (with_reducible assumption) | assumption)
obtain ⟨ad130, e130, hx130_0⟩ := Kd.at_int HR129_0.out x13_1 p130 q130
cases e130
replace hx130_0 := (HB.out.cell (World.block_lt_of_cell? w _ hx130_0)).trans hx130_0
replace p130 := eq_true p130
replace q130 := eq_true q130
have p131 : 0 ≤ (x13_1 : Int) := of_decide_eq_true (by first | (with_reducible assumption) | assumption)
have q131 : x13_1 < ((rd_L5 l1 x22_2).length : Int) := of_decide_eq_true (by first | (with_reducible assumption) | assumption)
obtain ⟨ad131, e131, hx131_0⟩ := Kd.at_int HR129_0.out x13_1 p131 q131
obtain rfl : ad130 = ad131 := (by injection e131)
replace hx131_0 := (HB.out.cell (World.block_lt_of_cell? w _ hx131_0)).trans hx131_0
replace p131 := eq_true p131
replace q131 := eq_true q131
go_wp2
go_roundg k2
case measure => have := HK1.out; have := HK2.out; omega
case rel => exact ⟨(wrap64 (x7_2 - (rd (rd_L5 l1 x22_2) x13_1))), (wrap64 (x22_2 + 1)), (by first | rfl | (simp; done) | (simp [*]; done)), (by first | rfl | (simp; done) | (simp [*]; done)), H', ⟨by have := HK1.out; have := HK2.out; omega⟩, ⟨by (with_reducible repeat (first | refine blk_drewN ?_ _ | refine blk_drew ?_ | refine blk_alloc ?_ _)); exact BK126.out⟩, ⟨by (with_reducible repeat (first | refine blk_drewN ?_ _ | refine blk_drew ?_ | refine blk_alloc ?_ _)); exact BK128.out⟩, ⟨by repeat (first | (with_reducible first | exact HB.out | apply below_alloc | apply pw_below_drewN | apply below_drew1 | refine below_set ?_ GE126.out | refine below_set ?_ GE128.out) | exact HB.out)⟩⟩
)
)
·(
rw [if_neg c15] at H
exact absurd H (by simp)
)
)
·(
rw [if_neg c14] at H
exact absurd H (by simp)
)
)
·(
rw [if_neg c13] at H
exact absurd H (by simp)
)
)
·(
rw [if_neg c12] at H
exact absurd H (by simp)
)
)
·(
rw [if_neg c11] at H
have c11b0 : decide (x22_2 < (l1.length : Int)) = false := decide_eq_false c11
clear c11
by_cases c17 : x7_2 = 0
·(
rw [if_pos c17] at H
have c17b0 : (x7_2 == 0) = true := beq_iff_eq.mpr c17
have c17b1 : (x7_2 != 0) = false := bne_eq_false_iff_eq.mpr c17
clear c17
have H' := Aside0.mk H
clear H
go_wp2
go_roundg k2
case measure => have := HK1.out; have := HK2.out; omega
case rel => exact ⟨(wrap64 (x13_1 + 1)), (by first | rfl | (simp; done) | (simp [*]; done)), H', ⟨by have := HK1.out; have := HK2.out; omega⟩, ⟨by (with_reducible repeat (first | refine blk_drewN ?_ _ | refine blk_drew ?_ | refine blk_alloc ?_ _)); exact BK126.out⟩, ⟨by repeat (first | (with_reducible first | exact HB.out | apply below_alloc | apply pw_below_drewN | apply below_drew1 | refine below_set ?_ GE126.out | refine below_set ?_ GE128.out) | exact HB.out)⟩⟩
)
·(
rw [if_neg c17] at H
have c17b0 : (x7_2 == 0) = false := beq_eq_false_iff_ne.mpr c17
have c17b1 : (x7_2 != 0) = true := bne_iff_ne.mpr c17
obtain rfl := Option.some.inj H
go_wp2
go_ret
exact ⟨by first | rfl | (simp [errW_none, errW_some] <;> rfl) | (simp [*, errW_none, errW_some] <;> rfl), by repeat (first | (with_reducible first | exact HB.out | apply below_alloc | apply pw_below_drewN | apply below_drew1 | refine below_set ?_ GE126.out | refine below_set ?_ GE128.out) | exact HB.out)⟩
)
)
)
)
)
·(
rw [if_neg c7] at H
exact absurd H (by simp)
)
)
·(
rw [if_neg c6] at H
exact absurd H (by simp)
)
)
·(
rw [if_neg c5] at H
have c5b0 : decide (x13_1 < (l0_7.length : Int)) = false := decide_eq_false c5
clear c5
obtain rfl := Option.some.inj H
go_wp2
go_ret
exact ⟨by first | rfl | (simp [errW_none, errW_some] <;> rfl) | (simp [*, errW_none, errW_some] <;> rfl), by repeat (first | (with_reducible first | exact HB.out | apply below_alloc | apply pw_below_drewN | apply below_drew1 | refine below_set ?_ GE126.out) | exact HB.out)⟩
)
)
)

end Go.Proofs.Ytlhaaccdiienbaa.X
