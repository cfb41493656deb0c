-- Written for this claim by a program of this session (wip/tools/xprint.py) out of the translation.
import Derived.Test.YtlhaaccdiienbaaX0
import Derived.Test.YtlhaaccdiienbaaX1
import Derived.Test.YtlhaaccdiienbaaX3
import Derived.Test.YtlhaaccdiienbaaELines
import Derived.Test.YtlhaaccdiienbaaEName
namespace Go.Proofs.Ytlhaaccdiienbaa.X
open Go.RowKit Go.Proofs.YtlhaaccdiienbaaW.PrintWords Go.Proofs.YtlhaaccdiienbaaW.PrintLast Go.Proofs.YtlhaaccdiienbaaW.PrintMore
attribute [local go_sem] max2_int min2_int max_two min_two max_three min_three max_four min_four   -- for this text's walks alone
set_option linter.unusedVariables false
set_option linter.unusedSimpArgs false

attribute [local go_sem high] eqA65
def order_May.l0 : Nat → List ByteArray → Int → Int → ByteArray → ByteArray → ByteArray → ByteArray → ByteArray → ByteArray → Int → List (S65) → Option (Bool)
 | 0, _, _, _, _, _, _, _, _, _, _, _ => none
 | k + 1, x15, x16, x17, x105000, x105001, x105002, x105003, x105004, x105005, x105006, x105007 => if x17 < x16 then (if 0 ≤ x17 then (if x17 < (x15.length : Int) then ((mark_Name.f (rdOf ByteArray.empty x15 x17)).bind fun t109 => (if t109 = true then (order_May.l0 k x15 x16 (wrap64 (x17 + 1)) x105000 x105001 x105002 x105003 x105004 x105005 x105006 x105007) else (some false))) else (none)) else (none)) else (if x105001.toList = x105002.toList then (some false) else ((money_May.f x105003 0).bind fun t110 => (if t110 = true then (if x105006 ≥ 0 then (if x105006 ≤ 7 then ((order_lines.f x105007).bind fun t111 => (some t111)) else (some false)) else (some false)) else (some false))))
def order_May.f (k : Nat) (a0_0 : ByteArray) (a0_1 : ByteArray) (a0_2 : ByteArray) (a0_3 : ByteArray) (a0_4 : ByteArray) (a0_5 : ByteArray) (a0_6 : Int) (l0_7 : List (S65)) : Option (Bool) := (some (([a0_0, a0_1, a0_2, a0_4, a0_5] : List ByteArray) : List ByteArray)).bind fun y105 => (order_May.l0 k y105 (y105.length : Int) 0 a0_0 a0_1 a0_2 a0_3 a0_4 a0_5 a0_6 l0_7)
theorem order_May.mono_l : ∀ k, (∀ y0 y1 y2 y3 y4 y5 y6 y7 y8 y9 y10, LeO (order_May.l0 k y0 y1 y2 y3 y4 y5 y6 y7 y8 y9 y10) (order_May.l0 (k + 1) y0 y1 y2 y3 y4 y5 y6 y7 y8 y9 y10))
 | 0 => fun _ _ _ _ _ _ _ _ _ _ _ r h => by simp [order_May.l0] at h
 | k + 1 => by
  have ih0 := order_May.mono_l k
  ·intro y0 y1 y2 y3 y4 y5 y6 y7 y8 y9 y10
   unfold order_May.l0
   repeat' first
   | (with_reducible exact ih0 _ _ _ _ _ _ _ _ _ _ _)
   | (with_reducible exact LeO.refl _)
   | (with_reducible exact LeO.none _)
   | (with_reducible refine LeO.ite ?_ ?_)
   | (with_reducible refine LeO.bind ?_ (fun _ => ?_))
   | exact ih0 _ _ _ _ _ _ _ _ _ _ _
   | exact LeO.none _
   | refine LeO.ite ?_ ?_
   | refine LeO.bind ?_ (fun _ => ?_)
theorem order_May.mono : ∀ a0 a1 a2 a3 a4 a5 a6 a7 k, LeO (order_May.f k a0 a1 a2 a3 a4 a5 a6 a7) (order_May.f (k + 1) a0 a1 a2 a3 a4 a5 a6 a7) := by
 intro a0 a1 a2 a3 a4 a5 a6 a7 k
 have ih0 := order_May.mono_l k
 unfold order_May.f
 repeat' first
   | (with_reducible exact ih0 _ _ _ _ _ _ _ _ _ _ _)
   | (with_reducible exact LeO.refl _)
   | (with_reducible exact LeO.none _)
   | (with_reducible refine LeO.ite ?_ ?_)
   | (with_reducible refine LeO.bind ?_ (fun _ => ?_))
   | exact ih0 _ _ _ _ _ _ _ _ _ _ _
   | exact LeO.none _
   | refine LeO.ite ?_ ?_
   | refine LeO.bind ?_ (fun _ => ?_)
set_option maxHeartbeats 8000000 in
set_option maxRecDepth 100000 in
theorem order_May.calls (k : Nat) (a0_0 : ByteArray) (a0_1 : ByteArray) (a0_2 : ByteArray) (a0_3 : ByteArray) (a0_4 : ByteArray) (a0_5 : ByteArray) (a0_6 : Int) (A0_7 : Option Addr) (c0_7 : Nat) (l0_7 : List (S65)) (r : Bool) (w : World) (hr0_7 : Kd.C k65 w A0_7 l0_7.length l0_7) (hc0_7 : l0_7.length ≤ c0_7) (h : order_May.f k a0_0 a0_1 a0_2 a0_3 a0_4 a0_5 a0_6 l0_7 = some r) :
  Calls Try.prog 15 #[.agg #[.string a0_0, .string a0_1, .string a0_2, .string a0_3, .string a0_4, .string a0_5, .int .i64 a0_6, .slice A0_7 l0_7.length c0_7]] w fun e w' => e = .returned (.bool r) ∧ Below w.heap.size w w' := by
 have hu24 := Try.underlying24
 have hu78 := Try.underlying78
 have HR0_7 := Aside0.mk hr0_7
 have HC0_7 := Aside0.mk hc0_7
 clear hr0_7 hc0_7
 have HB := Aside0.mk (Below.refl w.heap.size w)
 have H : ((some (([a0_0, a0_1, a0_2, a0_4, a0_5] : List ByteArray) : List ByteArray)).bind fun y105 => (order_May.l0 k y105 (y105.length : Int) 0 a0_0 a0_1 a0_2 a0_3 a0_4 a0_5 a0_6 l0_7)) = some r := h
 clear h
 obtain ⟨y105, hy105⟩ : ∃ y_ : List ByteArray, y_ = (([a0_0, a0_1, a0_2, a0_4, a0_5] : List ByteArray)) := ⟨_, rfl⟩
 replace H : (order_May.l0 k y105 (y105.length : Int) 0 a0_0 a0_1 a0_2 a0_3 a0_4 a0_5 a0_6 l0_7) = some r := by first | (rw [hy105]; with_reducible exact H) | (have H2_ := (Option.bind_some _ _).symm.trans H; rw [hy105]; with_reducible exact H2_) | (have H2_ := (Option.bind_some _ _).symm.trans H; with_reducible exact H2_) | with_reducible exact H | (rw [hy105]; exact H) | exact H
 have Ny105 := Aside0.mk hy105
 clear hy105
 have H' := Aside0.mk H
 clear H
 go_enter Try.func15, Try.ntmps15
 go_wp2_with (first | ((with_reducible refine gate_dst (N := 1) rfl ?_); refine box_event ?hg (N := 1) ?hd (cs := #[.string a0_0, .string a0_1, .string a0_2, .string a0_3, .string a0_4, .string a0_5, .int .i64 a0_6, .slice A0_7 l0_7.length c0_7]) (t := 24) ?hr ?_; (case hd => rfl); (case hg => rfl); (case hr => first | (go_simp; done) | (go_simp; rfl)); intro gb104 hg w2 hbox hb; have n0_ := Aside0.mk (below_step (by repeat (first | (with_reducible first | exact HB.out | apply below_alloc | apply pw_below_drewN | apply below_drew1) | exact HB.out)) hb); have n1_ := Aside0.mk (hbox); have n2_ := Aside0.mk ((by rw [hg]; exact (below_size (by repeat (first | (with_reducible first | exact HB.out | apply below_alloc | apply pw_below_drewN | apply below_drew1) | exact HB.out))) : w.heap.size ≤ gb104)); have n3_ := Aside0.mk ((by rw [hg]; exact (below_size (by repeat (first | (with_reducible first | exact HB.out | apply below_alloc | apply pw_below_drewN | apply below_drew1) | exact HB.out))) : w.heap.size ≤ gb104)); clear HB; have HB := n0_; have BK104 := n1_; have GW104 := n2_; have GE104 := n3_; clear n0_ n1_ n2_ n3_; clear hb hbox hg; have hcz3_0 : w2.cell? ⟨gb104, 0, none⟩ = some (.string a0_0) := (blk_cell BK104.out 0).trans rfl; have hcz3_1 : w2.cell? ⟨gb104, 1, none⟩ = some (.string a0_1) := (blk_cell BK104.out 1).trans rfl; have hcz3_2 : w2.cell? ⟨gb104, 2, none⟩ = some (.string a0_2) := (blk_cell BK104.out 2).trans rfl; have hcz3_3 : w2.cell? ⟨gb104, 3, none⟩ = some (.string a0_3) := (blk_cell BK104.out 3).trans rfl; have hcz3_4 : w2.cell? ⟨gb104, 4, none⟩ = some (.string a0_4) := (blk_cell BK104.out 4).trans rfl; have hcz3_5 : w2.cell? ⟨gb104, 5, none⟩ = some (.string a0_5) := (blk_cell BK104.out 5).trans rfl; have hcz3_6 : w2.cell? ⟨gb104, 6, none⟩ = some (.int .i64 a0_6) := (blk_cell BK104.out 6).trans rfl; have hcz3_7 : w2.cell? ⟨gb104, 7, none⟩ = some (.slice A0_7 l0_7.length c0_7) := (blk_cell BK104.out 7).trans rfl; have hfz3_0 := blk_frozen BK104.out 0; have hfz3_1 := blk_frozen BK104.out 1; have hfz3_2 := blk_frozen BK104.out 2; have hfz3_3 := blk_frozen BK104.out 3; have hfz3_4 := blk_frozen BK104.out 4; have hfz3_5 := blk_frozen BK104.out 5; have hfz3_6 := blk_frozen BK104.out 6; have hfz3_7 := blk_frozen BK104.out 7) | ((with_reducible refine gate_dst (N := 15) rfl ?_); refine Kd.R_lit Kd.string _ 9 ?hg (N := 15) ?hd (xs := ([a0_0, a0_1, a0_2, a0_4, a0_5] : List ByteArray)) (inner := [.string a0_0, .string a0_1, .string a0_2, .string a0_4, .string a0_5]) (ok := fun _ => True) (okp := fun _ => True) ?hr ?hp (fun _ hk => hk) trivial (Below.refl _ _) (Nat.le_refl _) (by simp) ?_; (case hd => rfl); (case hg => rfl); (case hr => first | (go_simp; done) | (go_simp; rfl)); (case hp => exact (Reps.one (show Kd.M Kd.string _ _ _ a0_0 [.string a0_0] from rfl) (Reps.one (show Kd.M Kd.string _ _ _ a0_1 [.string a0_1] from rfl) (Reps.one (show Kd.M Kd.string _ _ _ a0_2 [.string a0_2] from rfl) (Reps.one (show Kd.M Kd.string _ _ _ a0_4 [.string a0_4] from rfl) (Reps.one (show Kd.M Kd.string _ _ _ a0_5 [.string a0_5] from rfl) (Reps.none _ _))))))); intro v106 w4 ho5 hb hg_ hnew_; clear hg_ hnew_; (first | rw [← Ny105.out] at ho5 | (simp only [Int.reduceToNat] at ho5; rw [← Ny105.out] at ho5)); have n0_ := Aside0.mk (Kd.R_lower ho5 (below_size (by repeat (first | (with_reducible first | exact HB.out | apply below_alloc | apply pw_below_drewN | apply below_drew1 | refine below_set ?_ GE104.out) | exact HB.out)))); have n1_ := Aside0.mk (blk_below (g := gb104) (o := .cells #[.string a0_0, .string a0_1, .string a0_2, .string a0_3, .string a0_4, .string a0_5, .int .i64 a0_6, .slice A0_7 l0_7.length c0_7] 24 (0, 0)) (by (with_reducible repeat (first | refine blk_drewN ?_ _ | refine blk_drew ?_ | refine blk_alloc ?_ _)); exact BK104.out) hb); have n2_ := Aside0.mk (below_step (by repeat (first | (with_reducible first | exact HB.out | apply below_alloc | apply pw_below_drewN | apply below_drew1 | refine below_set ?_ GE104.out) | exact HB.out)) hb); clear BK104; clear HB; have HO107 := n0_; have BK104 := n1_; have HB := n2_; clear n0_ n1_ n2_; clear hb ho5; obtain ⟨Ao6, co6, eo6⟩ := Kd.R_slice HO107.out; subst eo6))
 go_loopg [17] k (fun kq v17 w' => ∃ (x17_1 : Int), v17 = .int .i64 x17_1 ∧ Aside0 (order_May.l0 kq y105 (y105.length : Int) x17_1 a0_0 a0_1 a0_2 a0_3 a0_4 a0_5 a0_6 l0_7 = some r) ∧ Aside0 (kq ≤ k) ∧ Aside0 (Kd.R Kd.string 9 w' w.heap.size (fun _ => True) (.slice Ao6 y105.length co6) y105) ∧ Aside0 (w'.heap[gb104]? = some (.cells #[.string a0_0, .string a0_1, .string a0_2, .string a0_3, .string a0_4, .string a0_5, .int .i64 a0_6, (.slice A0_7 l0_7.length c0_7)] 24 (0, 0))) ∧ Aside0 (Below w.heap.size w w'))
 case atStart => exact ⟨(0), (by first | rfl | (simp; done) | (simp [*]; done)), H', ⟨Nat.le_refl _⟩, ⟨by (with_reducible repeat (first | apply Kd.R_alloc | apply Kd.R_drewN | apply Kd.R_drew)); exact HO107.out⟩, ⟨by (with_reducible repeat (first | refine blk_drewN ?_ _ | refine blk_drew ?_ | refine blk_alloc ?_ _)); exact BK104.out⟩, ⟨by repeat (first | (with_reducible first | exact HB.out | apply below_alloc | apply pw_below_drewN | apply below_drew1 | refine below_set ?_ GE104.out) | exact HB.out)⟩⟩
 case round => (
clear H'
try clear c1
try clear p2
try clear hcz3_0
try clear hcz3_1
try clear hcz3_2
try clear hcz3_3
try clear hcz3_4
try clear hcz3_5
try clear hcz3_6
try clear hcz3_7
try clear hfz3_0
try clear hfz3_1
try clear hfz3_2
try clear hfz3_3
try clear hfz3_4
try clear hfz3_5
try clear hfz3_6
try clear hfz3_7
obtain ⟨x17_1, rfl, HA, HK1, HO_15, BK104, HB⟩ := hrel
cases gk with
| zero => exact absurd HA.out (by simp [order_May.l0])
| succ k1 => (
have H := HA.out
clear HA
simp only [order_May.l0] at H
by_cases c7 : x17_1 < (y105.length : Int)
·(
rw [if_pos c7] at H
have c7b0 : decide (x17_1 < (y105.length : Int)) = true := decide_eq_true c7
clear c7
by_cases c8 : 0 ≤ x17_1
·(
rw [if_pos c8] at H
have c8b0 : decide (0 ≤ x17_1) = true := decide_eq_true c8
clear c8
by_cases c9 : x17_1 < (y105.length : Int)
·(
rw [if_pos c9] at H
have c9b0 : decide (x17_1 < (y105.length : Int)) = true := decide_eq_true c9
clear c9
replace H := Option.bind_eq_some_iff.mp H
obtain ⟨t109, A100, H⟩ := H
replace H : (if t109 = true then (order_May.l0 k1 y105 (y105.length : Int) (wrap64 (x17_1 + 1)) a0_0 a0_1 a0_2 a0_3 a0_4 a0_5 a0_6 l0_7) else (some false)) = some r := H
have A10 := Aside0.mk A100
clear A100
by_cases c11 : t109 = true
·(
subst c11
have H1 : (order_May.l0 k1 y105 (y105.length : Int) (wrap64 (x17_1 + 1)) a0_0 a0_1 a0_2 a0_3 a0_4 a0_5 a0_6 l0_7) = some r := by rw [if_pos rfl] at H; exact H
clear H
have H := H1
clear H1
have H' := Aside0.mk H
clear H
have p108 : 0 ≤ (x17_1 : Int) := of_decide_eq_true (by first | (with_reducible assumption) | assumption)
have q108 : x17_1 < (y105.length : Int) := of_decide_eq_true (by first | (with_reducible assumption) | assumption)
obtain ⟨ad108, e108, hx108_0⟩ := Kd.at_string (Kd.R_reads' HO_15.out).2.2 x17_1 p108 q108
cases e108
replace p108 := eq_true p108
replace q108 := eq_true q108
go_wp2_with (first | ((with_reducible refine gate_callee (f := 36) rfl ?_); refine goesL_ (some 22) rfl rfl Try.func36 (by kernel_rfl) rfl #[.string (rdOf ByteArray.empty y105 x17_1)] rfl (by (try simp only [List.map_toArray, List.map_cons, List.map_nil]); first | done | rfl | (simp only [List.length_drop, List.length_take]; rfl)) ?_; (with_reducible refine (mark_Name.calls (rdOf ByteArray.empty y105 x17_1) true _ A10.out).mono ?_); rintro e w12 ⟨rfl, hb⟩; refine ⟨_, rfl, ?_⟩; have n0_ := Aside0.mk (Kd.R_below (by (with_reducible repeat (first | apply Kd.R_alloc | apply Kd.R_drewN | apply Kd.R_drew)); exact HO_15.out) hb); have n1_ := Aside0.mk (blk_below (g := gb104) (o := .cells #[.string a0_0, .string a0_1, .string a0_2, .string a0_3, .string a0_4, .string a0_5, .int .i64 a0_6, .slice A0_7 l0_7.length c0_7] 24 (0, 0)) (by (with_reducible repeat (first | refine blk_drewN ?_ _ | refine blk_drew ?_ | refine blk_alloc ?_ _)); exact BK104.out) hb); have n2_ := Aside0.mk (below_step (by repeat (first | (with_reducible first | exact HB.out | apply below_alloc | apply pw_below_drewN | apply below_drew1 | refine below_set ?_ GE104.out) | exact HB.out)) hb); clear HO_15; clear BK104; clear HB; have HO_15 := n0_; have BK104 := n1_; have HB := n2_; clear n0_ n1_ n2_; (try clear hb); (try clear hb2); (try clear hk); (try clear hi)))
go_roundg k1
case measure => have := HK1.out; omega
case rel => exact ⟨(wrap64 (x17_1 + 1)), (by first | rfl | (simp; done) | (simp [*]; done)), H', ⟨by have := HK1.out; omega⟩, ⟨by (with_reducible repeat (first | apply Kd.R_alloc | apply Kd.R_drewN | apply Kd.R_drew)); exact HO_15.out⟩, ⟨by (with_reducible repeat (first | refine blk_drewN ?_ _ | refine blk_drew ?_ | refine blk_alloc ?_ _)); exact BK104.out⟩, ⟨by repeat (first | (with_reducible first | exact HB.out | apply below_alloc | apply pw_below_drewN | apply below_drew1 | refine below_set ?_ GE104.out) | exact HB.out)⟩⟩
)
·(
replace c11 := Bool.eq_false_iff.mpr c11
subst c11
have H1 : (some false) = some r := by rw [if_neg (show ¬ (false = true) by decide)] at H; exact H
clear H
have H := H1
clear H1
obtain rfl := Option.some.inj H
have p108 : 0 ≤ (x17_1 : Int) := of_decide_eq_true (by first | (with_reducible assumption) | assumption)
have q108 : x17_1 < (y105.length : Int) := of_decide_eq_true (by first | (with_reducible assumption) | assumption)
obtain ⟨ad108, e108, hx108_0⟩ := Kd.at_string (Kd.R_reads' HO_15.out).2.2 x17_1 p108 q108
cases e108
replace p108 := eq_true p108
replace q108 := eq_true q108
go_wp2_with (first | ((with_reducible refine gate_callee (f := 36) rfl ?_); refine goesL_ (some 22) rfl rfl Try.func36 (by kernel_rfl) rfl #[.string (rdOf ByteArray.empty y105 x17_1)] rfl (by (try simp only [List.map_toArray, List.map_cons, List.map_nil]); first | done | rfl | (simp only [List.length_drop, List.length_take]; rfl)) ?_; (with_reducible refine (mark_Name.calls (rdOf ByteArray.empty y105 x17_1) false _ A10.out).mono ?_); rintro e w13 ⟨rfl, hb⟩; refine ⟨_, rfl, ?_⟩; have n0_ := Aside0.mk (Kd.R_below (by (with_reducible repeat (first | apply Kd.R_alloc | apply Kd.R_drewN | apply Kd.R_drew)); exact HO_15.out) hb); have n1_ := Aside0.mk (blk_below (g := gb104) (o := .cells #[.string a0_0, .string a0_1, .string a0_2, .string a0_3, .string a0_4, .string a0_5, .int .i64 a0_6, .slice A0_7 l0_7.length c0_7] 24 (0, 0)) (by (with_reducible repeat (first | refine blk_drewN ?_ _ | refine blk_drew ?_ | refine blk_alloc ?_ _)); exact BK104.out) hb); have n2_ := Aside0.mk (below_step (by repeat (first | (with_reducible first | exact HB.out | apply below_alloc | apply pw_below_drewN | apply below_drew1 | refine below_set ?_ GE104.out) | exact HB.out)) hb); clear HO_15; clear BK104; clear HB; have HO_15 := n0_; have BK104 := n1_; have HB := n2_; clear n0_ n1_ n2_; (try clear hb); (try clear hb2); (try clear hk); (try clear hi)))
go_ret
exact ⟨by first | rfl | (simp [errW_none, errW_some] <;> rfl) | (simp [*, errW_none, errW_some] <;> rfl), by repeat (first | (with_reducible first | exact HB.out | apply below_alloc | apply pw_below_drewN | apply below_drew1 | refine below_set ?_ GE104.out) | exact HB.out)⟩
)
)
·(
rw [if_neg c9] at H
exact absurd H (by simp)
)
)
·(
rw [if_neg c8] at H
exact absurd H (by simp)
)
)
·(
rw [if_neg c7] at H
have c7b0 : decide (x17_1 < (y105.length : Int)) = false := decide_eq_false c7
clear c7
by_cases c14 : a0_1.toList = a0_2.toList
·(
rw [if_pos c14] at H
have c14b0 : (a0_1.toList == a0_2.toList) = true := beq_iff_eq.mpr c14
have c14b1 : (a0_1.toList != a0_2.toList) = false := bne_eq_false_iff_eq.mpr c14
clear c14
obtain rfl := Option.some.inj H
have hcz15_0 : wr.cell? ⟨gb104, 0, none⟩ = some (.string a0_0) := (blk_cell BK104.out 0).trans rfl
have hcz15_1 : wr.cell? ⟨gb104, 1, none⟩ = some (.string a0_1) := (blk_cell BK104.out 1).trans rfl
have hcz15_2 : wr.cell? ⟨gb104, 2, none⟩ = some (.string a0_2) := (blk_cell BK104.out 2).trans rfl
have hcz15_3 : wr.cell? ⟨gb104, 3, none⟩ = some (.string a0_3) := (blk_cell BK104.out 3).trans rfl
have hcz15_4 : wr.cell? ⟨gb104, 4, none⟩ = some (.string a0_4) := (blk_cell BK104.out 4).trans rfl
have hcz15_5 : wr.cell? ⟨gb104, 5, none⟩ = some (.string a0_5) := (blk_cell BK104.out 5).trans rfl
have hcz15_6 : wr.cell? ⟨gb104, 6, none⟩ = some (.int .i64 a0_6) := (blk_cell BK104.out 6).trans rfl
have hcz15_7 : wr.cell? ⟨gb104, 7, none⟩ = some (.slice A0_7 l0_7.length c0_7) := (blk_cell BK104.out 7).trans rfl
have hfz15_0 := blk_frozen BK104.out 0
have hfz15_1 := blk_frozen BK104.out 1
have hfz15_2 := blk_frozen BK104.out 2
have hfz15_3 := blk_frozen BK104.out 3
have hfz15_4 := blk_frozen BK104.out 4
have hfz15_5 := blk_frozen BK104.out 5
have hfz15_6 := blk_frozen BK104.out 6
have hfz15_7 := blk_frozen BK104.out 7
go_wp2
go_ret
exact ⟨by first | rfl | (simp [errW_none, errW_some] <;> rfl) | (simp [*, errW_none, errW_some] <;> rfl), by repeat (first | (with_reducible first | exact HB.out | apply below_alloc | apply pw_below_drewN | apply below_drew1 | refine below_set ?_ GE104.out) | exact HB.out)⟩
)
·(
rw [if_neg c14] at H
have c14b0 : (a0_1.toList == a0_2.toList) = false := beq_eq_false_iff_ne.mpr c14
have c14b1 : (a0_1.toList != a0_2.toList) = true := bne_iff_ne.mpr c14
replace H := Option.bind_eq_some_iff.mp H
obtain ⟨t110, A160, H⟩ := H
replace H : (if t110 = true then (if a0_6 ≥ 0 then (if a0_6 ≤ 7 then ((order_lines.f l0_7).bind fun t111 => (some t111)) else (some false)) else (some false)) else (some false)) = some r := H
have A16 := Aside0.mk A160
clear A160
by_cases c17 : t110 = true
·(
subst c17
have H1 : (if a0_6 ≥ 0 then (if a0_6 ≤ 7 then ((order_lines.f l0_7).bind fun t111 => (some t111)) else (some false)) else (some false)) = some r := by rw [if_pos rfl] at H; exact H
clear H
have H := H1
clear H1
by_cases c18 : a0_6 ≥ 0
·(
rw [if_pos c18] at H
have c18b0 : decide (0 ≤ a0_6) = true := decide_eq_true c18
clear c18
by_cases c19 : a0_6 ≤ 7
·(
rw [if_pos c19] at H
have c19b0 : decide (a0_6 ≤ 7) = true := decide_eq_true c19
clear c19
replace H := Option.bind_eq_some_iff.mp H
obtain ⟨t111, A200, H⟩ := H
replace H : (some t111) = some r := H
have A20 := Aside0.mk A200
clear A200
obtain rfl := Option.some.inj H
have hcz21_0 : wr.cell? ⟨gb104, 0, none⟩ = some (.string a0_0) := (blk_cell BK104.out 0).trans rfl
have hcz21_1 : wr.cell? ⟨gb104, 1, none⟩ = some (.string a0_1) := (blk_cell BK104.out 1).trans rfl
have hcz21_2 : wr.cell? ⟨gb104, 2, none⟩ = some (.string a0_2) := (blk_cell BK104.out 2).trans rfl
have hcz21_3 : wr.cell? ⟨gb104, 3, none⟩ = some (.string a0_3) := (blk_cell BK104.out 3).trans rfl
have hcz21_4 : wr.cell? ⟨gb104, 4, none⟩ = some (.string a0_4) := (blk_cell BK104.out 4).trans rfl
have hcz21_5 : wr.cell? ⟨gb104, 5, none⟩ = some (.string a0_5) := (blk_cell BK104.out 5).trans rfl
have hcz21_6 : wr.cell? ⟨gb104, 6, none⟩ = some (.int .i64 a0_6) := (blk_cell BK104.out 6).trans rfl
have hcz21_7 : wr.cell? ⟨gb104, 7, none⟩ = some (.slice A0_7 l0_7.length c0_7) := (blk_cell BK104.out 7).trans rfl
have hfz21_0 := blk_frozen BK104.out 0
have hfz21_1 := blk_frozen BK104.out 1
have hfz21_2 := blk_frozen BK104.out 2
have hfz21_3 := blk_frozen BK104.out 3
have hfz21_4 := blk_frozen BK104.out 4
have hfz21_5 := blk_frozen BK104.out 5
have hfz21_6 := blk_frozen BK104.out 6
have hfz21_7 := blk_frozen BK104.out 7
go_wp2_with (first | (go_at_call 37; (with_reducible refine (money_May.calls a0_3 0 true _ A16.out).mono ?_); rintro e w22 ⟨rfl, hb⟩; have n0_ := Aside0.mk (Kd.R_below (by (with_reducible repeat (first | apply Kd.R_alloc | apply Kd.R_drewN | apply Kd.R_drew)); exact HO_15.out) hb); have n1_ := Aside0.mk (blk_below (g := gb104) (o := .cells #[.string a0_0, .string a0_1, .string a0_2, .string a0_3, .string a0_4, .string a0_5, .int .i64 a0_6, .slice A0_7 l0_7.length c0_7] 24 (0, 0)) (by (with_reducible repeat (first | refine blk_drewN ?_ _ | refine blk_drew ?_ | refine blk_alloc ?_ _)); exact BK104.out) hb); have n2_ := Aside0.mk (below_step (by repeat (first | (with_reducible first | exact HB.out | apply below_alloc | apply pw_below_drewN | apply below_drew1 | refine below_set ?_ GE104.out) | exact HB.out)) hb); clear HO_15; clear BK104; clear HB; have HO_15 := n0_; have BK104 := n1_; have HB := n2_; clear n0_ n1_ n2_; (try clear hb); (try clear hb2); (try clear hk); (try clear hi); have hcz23_0 : w22.cell? ⟨gb104, 0, none⟩ = some (.string a0_0) := (blk_cell BK104.out 0).trans rfl; have hcz23_1 : w22.cell? ⟨gb104, 1, none⟩ = some (.string a0_1) := (blk_cell BK104.out 1).trans rfl; have hcz23_2 : w22.cell? ⟨gb104, 2, none⟩ = some (.string a0_2) := (blk_cell BK104.out 2).trans rfl; have hcz23_3 : w22.cell? ⟨gb104, 3, none⟩ = some (.string a0_3) := (blk_cell BK104.out 3).trans rfl; have hcz23_4 : w22.cell? ⟨gb104, 4, none⟩ = some (.string a0_4) := (blk_cell BK104.out 4).trans rfl; have hcz23_5 : w22.cell? ⟨gb104, 5, none⟩ = some (.string a0_5) := (blk_cell BK104.out 5).trans rfl; have hcz23_6 : w22.cell? ⟨gb104, 6, none⟩ = some (.int .i64 a0_6) := (blk_cell BK104.out 6).trans rfl; have hcz23_7 : w22.cell? ⟨gb104, 7, none⟩ = some (.slice A0_7 l0_7.length c0_7) := (blk_cell BK104.out 7).trans rfl; have hfz23_0 := blk_frozen BK104.out 0; have hfz23_1 := blk_frozen BK104.out 1; have hfz23_2 := blk_frozen BK104.out 2; have hfz23_3 := blk_frozen BK104.out 3; have hfz23_4 := blk_frozen BK104.out 4; have hfz23_5 := blk_frozen BK104.out 5; have hfz23_6 := blk_frozen BK104.out 6; have hfz23_7 := blk_frozen BK104.out 7) | (go_at_call 38; (with_reducible refine (order_lines.calls _ _ l0_7 t111 _ ?side1 ?side2 A20.out).mono ?_); (case side1 => repeat (first | exact (Kd.C_below HR0_7.out HB.out) | (with_reducible refine Kd.C_alloc ?_ _) | (with_reducible refine Kd.C_drewN ?_ _) | (with_reducible refine Kd.C_drew ?_))); (case side2 => exact HC0_7.out); rintro e w24 ⟨rfl, hb⟩; have n0_ := Aside0.mk (Kd.R_below (by (with_reducible repeat (first | apply Kd.R_alloc | apply Kd.R_drewN | apply Kd.R_drew)); exact HO_15.out) hb); have n1_ := Aside0.mk (blk_below (g := gb104) (o := .cells #[.string a0_0, .string a0_1, .string a0_2, .string a0_3, .string a0_4, .string a0_5, .int .i64 a0_6, .slice A0_7 l0_7.length c0_7] 24 (0, 0)) (by (with_reducible repeat (first | refine blk_drewN ?_ _ | refine blk_drew ?_ | refine blk_alloc ?_ _)); exact BK104.out) hb); have n2_ := Aside0.mk (below_step (by repeat (first | (with_reducible first | exact HB.out | apply below_alloc | apply pw_below_drewN | apply below_drew1 | refine below_set ?_ GE104.out) | exact HB.out)) hb); clear HO_15; clear BK104; clear HB; have HO_15 := n0_; have BK104 := n1_; have HB := n2_; clear n0_ n1_ n2_; (try clear hb); (try clear hb2); (try clear hk); (try clear hi)))
go_ret
exact ⟨by first | rfl | (simp [errW_none, errW_some] <;> rfl) | (simp [*, errW_none, errW_some] <;> rfl), by repeat (first | (with_reducible first | exact HB.out | apply below_alloc | apply pw_below_drewN | apply below_drew1 | refine below_set ?_ GE104.out) | exact HB.out)⟩
)
·(
rw [if_neg c19] at H
have c19b0 : decide (a0_6 ≤ 7) = false := decide_eq_false c19
clear c19
obtain rfl := Option.some.inj H
have hcz25_0 : wr.cell? ⟨gb104, 0, none⟩ = some (.string a0_0) := (blk_cell BK104.out 0).trans rfl
have hcz25_1 : wr.cell? ⟨gb104, 1, none⟩ = some (.string a0_1) := (blk_cell BK104.out 1).trans rfl
have hcz25_2 : wr.cell? ⟨gb104, 2, none⟩ = some (.string a0_2) := (blk_cell BK104.out 2).trans rfl
have hcz25_3 : wr.cell? ⟨gb104, 3, none⟩ = some (.string a0_3) := (blk_cell BK104.out 3).trans rfl
have hcz25_4 : wr.cell? ⟨gb104, 4, none⟩ = some (.string a0_4) := (blk_cell BK104.out 4).trans rfl
have hcz25_5 : wr.cell? ⟨gb104, 5, none⟩ = some (.string a0_5) := (blk_cell BK104.out 5).trans rfl
have hcz25_6 : wr.cell? ⟨gb104, 6, none⟩ = some (.int .i64 a0_6) := (blk_cell BK104.out 6).trans rfl
have hcz25_7 : wr.cell? ⟨gb104, 7, none⟩ = some (.slice A0_7 l0_7.length c0_7) := (blk_cell BK104.out 7).trans rfl
have hfz25_0 := blk_frozen BK104.out 0
have hfz25_1 := blk_frozen BK104.out 1
have hfz25_2 := blk_frozen BK104.out 2
have hfz25_3 := blk_frozen BK104.out 3
have hfz25_4 := blk_frozen BK104.out 4
have hfz25_5 := blk_frozen BK104.out 5
have hfz25_6 := blk_frozen BK104.out 6
have hfz25_7 := blk_frozen BK104.out 7
go_wp2_with (first | (go_at_call 37; (with_reducible refine (money_May.calls a0_3 0 true _ A16.out).mono ?_); rintro e w26 ⟨rfl, hb⟩; have n0_ := Aside0.mk (Kd.R_below (by (with_reducible repeat (first | apply Kd.R_alloc | apply Kd.R_drewN | apply Kd.R_drew)); exact HO_15.out) hb); have n1_ := Aside0.mk (blk_below (g := gb104) (o := .cells #[.string a0_0, .string a0_1, .string a0_2, .string a0_3, .string a0_4, .string a0_5, .int .i64 a0_6, .slice A0_7 l0_7.length c0_7] 24 (0, 0)) (by (with_reducible repeat (first | refine blk_drewN ?_ _ | refine blk_drew ?_ | refine blk_alloc ?_ _)); exact BK104.out) hb); have n2_ := Aside0.mk (below_step (by repeat (first | (with_reducible first | exact HB.out | apply below_alloc | apply pw_below_drewN | apply below_drew1 | refine below_set ?_ GE104.out) | exact HB.out)) hb); clear HO_15; clear BK104; clear HB; have HO_15 := n0_; have BK104 := n1_; have HB := n2_; clear n0_ n1_ n2_; (try clear hb); (try clear hb2); (try clear hk); (try clear hi); have hcz27_0 : w26.cell? ⟨gb104, 0, none⟩ = some (.string a0_0) := (blk_cell BK104.out 0).trans rfl; have hcz27_1 : w26.cell? ⟨gb104, 1, none⟩ = some (.string a0_1) := (blk_cell BK104.out 1).trans rfl; have hcz27_2 : w26.cell? ⟨gb104, 2, none⟩ = some (.string a0_2) := (blk_cell BK104.out 2).trans rfl; have hcz27_3 : w26.cell? ⟨gb104, 3, none⟩ = some (.string a0_3) := (blk_cell BK104.out 3).trans rfl; have hcz27_4 : w26.cell? ⟨gb104, 4, none⟩ = some (.string a0_4) := (blk_cell BK104.out 4).trans rfl; have hcz27_5 : w26.cell? ⟨gb104, 5, none⟩ = some (.string a0_5) := (blk_cell BK104.out 5).trans rfl; have hcz27_6 : w26.cell? ⟨gb104, 6, none⟩ = some (.int .i64 a0_6) := (blk_cell BK104.out 6).trans rfl; have hcz27_7 : w26.cell? ⟨gb104, 7, none⟩ = some (.slice A0_7 l0_7.length c0_7) := (blk_cell BK104.out 7).trans rfl; have hfz27_0 := blk_frozen BK104.out 0; have hfz27_1 := blk_frozen BK104.out 1; have hfz27_2 := blk_frozen BK104.out 2; have hfz27_3 := blk_frozen BK104.out 3; have hfz27_4 := blk_frozen BK104.out 4; have hfz27_5 := blk_frozen BK104.out 5; have hfz27_6 := blk_frozen BK104.out 6; have hfz27_7 := blk_frozen BK104.out 7))
go_ret
exact ⟨by first | rfl | (simp [errW_none, errW_some] <;> rfl) | (simp [*, errW_none, errW_some] <;> rfl), by repeat (first | (with_reducible first | exact HB.out | apply below_alloc | apply pw_below_drewN | apply below_drew1 | refine below_set ?_ GE104.out) | exact HB.out)⟩
)
)
·(
rw [if_neg c18] at H
have c18b0 : decide (0 ≤ a0_6) = false := decide_eq_false c18
clear c18
obtain rfl := Option.some.inj H
have hcz28_0 : wr.cell? ⟨gb104, 0, none⟩ = some (.string a0_0) := (blk_cell BK104.out 0).trans rfl
have hcz28_1 : wr.cell? ⟨gb104, 1, none⟩ = some (.string a0_1) := (blk_cell BK104.out 1).trans rfl
have hcz28_2 : wr.cell? ⟨gb104, 2, none⟩ = some (.string a0_2) := (blk_cell BK104.out 2).trans rfl
have hcz28_3 : wr.cell? ⟨gb104, 3, none⟩ = some (.string a0_3) := (blk_cell BK104.out 3).trans rfl
have hcz28_4 : wr.cell? ⟨gb104, 4, none⟩ = some (.string a0_4) := (blk_cell BK104.out 4).trans rfl
have hcz28_5 : wr.cell? ⟨gb104, 5, none⟩ = some (.string a0_5) := (blk_cell BK104.out 5).trans rfl
have hcz28_6 : wr.cell? ⟨gb104, 6, none⟩ = some (.int .i64 a0_6) := (blk_cell BK104.out 6).trans rfl
have hcz28_7 : wr.cell? ⟨gb104, 7, none⟩ = some (.slice A0_7 l0_7.length c0_7) := (blk_cell BK104.out 7).trans rfl
have hfz28_0 := blk_frozen BK104.out 0
have hfz28_1 := blk_frozen BK104.out 1
have hfz28_2 := blk_frozen BK104.out 2
have hfz28_3 := blk_frozen BK104.out 3
have hfz28_4 := blk_frozen BK104.out 4
have hfz28_5 := blk_frozen BK104.out 5
have hfz28_6 := blk_frozen BK104.out 6
have hfz28_7 := blk_frozen BK104.out 7
go_wp2_with (first | (go_at_call 37; (with_reducible refine (money_May.calls a0_3 0 true _ A16.out).mono ?_); rintro e w29 ⟨rfl, hb⟩; have n0_ := Aside0.mk (Kd.R_below (by (with_reducible repeat (first | apply Kd.R_alloc | apply Kd.R_drewN | apply Kd.R_drew)); exact HO_15.out) hb); have n1_ := Aside0.mk (blk_below (g := gb104) (o := .cells #[.string a0_0, .string a0_1, .string a0_2, .string a0_3, .string a0_4, .string a0_5, .int .i64 a0_6, .slice A0_7 l0_7.length c0_7] 24 (0, 0)) (by (with_reducible repeat (first | refine blk_drewN ?_ _ | refine blk_drew ?_ | refine blk_alloc ?_ _)); exact BK104.out) hb); have n2_ := Aside0.mk (below_step (by repeat (first | (with_reducible first | exact HB.out | apply below_alloc | apply pw_below_drewN | apply below_drew1 | refine below_set ?_ GE104.out) | exact HB.out)) hb); clear HO_15; clear BK104; clear HB; have HO_15 := n0_; have BK104 := n1_; have HB := n2_; clear n0_ n1_ n2_; (try clear hb); (try clear hb2); (try clear hk); (try clear hi); have hcz30_0 : w29.cell? ⟨gb104, 0, none⟩ = some (.string a0_0) := (blk_cell BK104.out 0).trans rfl; have hcz30_1 : w29.cell? ⟨gb104, 1, none⟩ = some (.string a0_1) := (blk_cell BK104.out 1).trans rfl; have hcz30_2 : w29.cell? ⟨gb104, 2, none⟩ = some (.string a0_2) := (blk_cell BK104.out 2).trans rfl; have hcz30_3 : w29.cell? ⟨gb104, 3, none⟩ = some (.string a0_3) := (blk_cell BK104.out 3).trans rfl; have hcz30_4 : w29.cell? ⟨gb104, 4, none⟩ = some (.string a0_4) := (blk_cell BK104.out 4).trans rfl; have hcz30_5 : w29.cell? ⟨gb104, 5, none⟩ = some (.string a0_5) := (blk_cell BK104.out 5).trans rfl; have hcz30_6 : w29.cell? ⟨gb104, 6, none⟩ = some (.int .i64 a0_6) := (blk_cell BK104.out 6).trans rfl; have hcz30_7 : w29.cell? ⟨gb104, 7, none⟩ = some (.slice A0_7 l0_7.length c0_7) := (blk_cell BK104.out 7).trans rfl; have hfz30_0 := blk_frozen BK104.out 0; have hfz30_1 := blk_frozen BK104.out 1; have hfz30_2 := blk_frozen BK104.out 2; have hfz30_3 := blk_frozen BK104.out 3; have hfz30_4 := blk_frozen BK104.out 4; have hfz30_5 := blk_frozen BK104.out 5; have hfz30_6 := blk_frozen BK104.out 6; have hfz30_7 := blk_frozen BK104.out 7))
go_ret
exact ⟨by first | rfl | (simp [errW_none, errW_some] <;> rfl) | (simp [*, errW_none, errW_some] <;> rfl), by repeat (first | (with_reducible first | exact HB.out | apply below_alloc | apply pw_below_drewN | apply below_drew1 | refine below_set ?_ GE104.out) | exact HB.out)⟩
)
)
·(
replace c17 := Bool.eq_false_iff.mpr c17
subst c17
have H1 : (some false) = some r := by rw [if_neg (show ¬ (false = true) by decide)] at H; exact H
clear H
have H := H1
clear H1
obtain rfl := Option.some.inj H
have hcz31_0 : wr.cell? ⟨gb104, 0, none⟩ = some (.string a0_0) := (blk_cell BK104.out 0).trans rfl
have hcz31_1 : wr.cell? ⟨gb104, 1, none⟩ = some (.string a0_1) := (blk_cell BK104.out 1).trans rfl
have hcz31_2 : wr.cell? ⟨gb104, 2, none⟩ = some (.string a0_2) := (blk_cell BK104.out 2).trans rfl
have hcz31_3 : wr.cell? ⟨gb104, 3, none⟩ = some (.string a0_3) := (blk_cell BK104.out 3).trans rfl
have hcz31_4 : wr.cell? ⟨gb104, 4, none⟩ = some (.string a0_4) := (blk_cell BK104.out 4).trans rfl
have hcz31_5 : wr.cell? ⟨gb104, 5, none⟩ = some (.string a0_5) := (blk_cell BK104.out 5).trans rfl
have hcz31_6 : wr.cell? ⟨gb104, 6, none⟩ = some (.int .i64 a0_6) := (blk_cell BK104.out 6).trans rfl
have hcz31_7 : wr.cell? ⟨gb104, 7, none⟩ = some (.slice A0_7 l0_7.length c0_7) := (blk_cell BK104.out 7).trans rfl
have hfz31_0 := blk_frozen BK104.out 0
have hfz31_1 := blk_frozen BK104.out 1
have hfz31_2 := blk_frozen BK104.out 2
have hfz31_3 := blk_frozen BK104.out 3
have hfz31_4 := blk_frozen BK104.out 4
have hfz31_5 := blk_frozen BK104.out 5
have hfz31_6 := blk_frozen BK104.out 6
have hfz31_7 := blk_frozen BK104.out 7
go_wp2_with (first | (go_at_call 37; (with_reducible refine (money_May.calls a0_3 0 false _ A16.out).mono ?_); rintro e w32 ⟨rfl, hb⟩; have n0_ := Aside0.mk (Kd.R_below (by (with_reducible repeat (first | apply Kd.R_alloc | apply Kd.R_drewN | apply Kd.R_drew)); exact HO_15.out) hb); have n1_ := Aside0.mk (blk_below (g := gb104) (o := .cells #[.string a0_0, .string a0_1, .string a0_2, .string a0_3, .string a0_4, .string a0_5, .int .i64 a0_6, .slice A0_7 l0_7.length c0_7] 24 (0, 0)) (by (with_reducible repeat (first | refine blk_drewN ?_ _ | refine blk_drew ?_ | refine blk_alloc ?_ _)); exact BK104.out) hb); have n2_ := Aside0.mk (below_step (by repeat (first | (with_reducible first | exact HB.out | apply below_alloc | apply pw_below_drewN | apply below_drew1 | refine below_set ?_ GE104.out) | exact HB.out)) hb); clear HO_15; clear BK104; clear HB; have HO_15 := n0_; have BK104 := n1_; have HB := n2_; clear n0_ n1_ n2_; (try clear hb); (try clear hb2); (try clear hk); (try clear hi)))
go_ret
exact ⟨by first | rfl | (simp [errW_none, errW_some] <;> rfl) | (simp [*, errW_none, errW_some] <;> rfl), by repeat (first | (with_reducible first | exact HB.out | apply below_alloc | apply pw_below_drewN | apply below_drew1 | refine below_set ?_ GE104.out) | exact HB.out)⟩
)
)
)
)
)

def order_Total.l0 : Nat → Int → List (S65) → Int → Int → Option (Int × Int)
 | 0, _, _, _, _ => none
 | k + 1, x4, x11, x12, x13 => if x13 < x12 then (if 0 ≤ x13 then (if x13 < (x11.length : Int) then (order_Total.l0 k (wrap64 (x4 + (wrap64 (((rd_T65 x11 x13).f1) * ((rd_T65 x11 x13).f2))))) x11 x12 (wrap64 (x13 + 1))) else (none)) else (none)) else (if x4 > 1099511627776 then (some (0, 3)) else (some (x4, 0)))
def order_Total.f (k : Nat) (a0_0 : ByteArray) (a0_1 : ByteArray) (a0_2 : ByteArray) (a0_3 : ByteArray) (a0_4 : ByteArray) (a0_5 : ByteArray) (a0_6 : Int) (l0_7 : List (S65)) : Option (Int × Int) := (order_May.f k a0_0 a0_1 a0_2 a0_3 a0_4 a0_5 a0_6 l0_7).bind fun t113 => (if t113 = true then (order_Total.l0 k 0 l0_7 (l0_7.length : Int) 0) else (some (0, 1)))
theorem order_Total.mono_l : ∀ k, (∀ y0 y1 y2 y3, LeO (order_Total.l0 k y0 y1 y2 y3) (order_Total.l0 (k + 1) y0 y1 y2 y3))
 | 0 => fun _ _ _ _ r h => by simp [order_Total.l0] at h
 | k + 1 => by
  have ih0 := order_Total.mono_l k
  ·intro y0 y1 y2 y3
   unfold order_Total.l0
   repeat' first
   | (with_reducible exact ih0 _ _ _ _)
   | (with_reducible exact order_May.mono _ _ _ _ _ _ _ _ _)
   | (with_reducible exact LeO.refl _)
   | (with_reducible exact LeO.none _)
   | (with_reducible refine LeO.ite ?_ ?_)
   | (with_reducible refine LeO.bind ?_ (fun _ => ?_))
   | exact ih0 _ _ _ _
   | exact order_May.mono _ _ _ _ _ _ _ _ _
   | exact LeO.none _
   | refine LeO.ite ?_ ?_
   | refine LeO.bind ?_ (fun _ => ?_)
theorem order_Total.mono : ∀ a0 a1 a2 a3 a4 a5 a6 a7 k, LeO (order_Total.f k a0 a1 a2 a3 a4 a5 a6 a7) (order_Total.f (k + 1) a0 a1 a2 a3 a4 a5 a6 a7) := by
 intro a0 a1 a2 a3 a4 a5 a6 a7 k
 have ih0 := order_Total.mono_l k
 unfold order_Total.f
 repeat' first
   | (with_reducible exact ih0 _ _ _ _)
   | (with_reducible exact order_May.mono _ _ _ _ _ _ _ _ _)
   | (with_reducible exact LeO.refl _)
   | (with_reducible exact LeO.none _)
   | (with_reducible refine LeO.ite ?_ ?_)
   | (with_reducible refine LeO.bind ?_ (fun _ => ?_))
   | exact ih0 _ _ _ _
   | exact order_May.mono _ _ _ _ _ _ _ _ _
   | exact LeO.none _
   | refine LeO.ite ?_ ?_
   | refine LeO.bind ?_ (fun _ => ?_)
set_option maxHeartbeats 8000000 in
set_option maxRecDepth 100000 in
theorem order_Total.calls (k : Nat) (a0_0 : ByteArray) (a0_1 : ByteArray) (a0_2 : ByteArray) (a0_3 : ByteArray) (a0_4 : ByteArray) (a0_5 : ByteArray) (a0_6 : Int) (A0_7 : Option Addr) (c0_7 : Nat) (l0_7 : List (S65)) (r1 : Int) (r2 : Int) (w : World) (hr0_7 : Kd.C k65 w A0_7 l0_7.length l0_7) (hc0_7 : l0_7.length ≤ c0_7) (h : order_Total.f k a0_0 a0_1 a0_2 a0_3 a0_4 a0_5 a0_6 l0_7 = some (r1, r2)) :
  Calls Try.prog 13 #[.agg #[.string a0_0, .string a0_1, .string a0_2, .string a0_3, .string a0_4, .string a0_5, .int .i64 a0_6, .slice A0_7 l0_7.length c0_7]] w fun e w' => e = .returned (.tuple #[.int .i64 r1, .int .i64 r2]) ∧ Below w.heap.size w w' := by
 have hu24 := Try.underlying24
 have hu65 := Try.underlying65
 have HR0_7 := Aside0.mk hr0_7
 have HC0_7 := Aside0.mk hc0_7
 clear hr0_7 hc0_7
 have HB := Aside0.mk (Below.refl w.heap.size w)
 have H : ((order_May.f k a0_0 a0_1 a0_2 a0_3 a0_4 a0_5 a0_6 l0_7).bind fun t113 => (if t113 = true then (order_Total.l0 k 0 l0_7 (l0_7.length : Int) 0) else (some (0, 1)))) = some (r1, r2) := h
 clear h
 replace H := Option.bind_eq_some_iff.mp H
 obtain ⟨t113, A20, H⟩ := H
 replace H : (if t113 = true then (order_Total.l0 k 0 l0_7 (l0_7.length : Int) 0) else (some (0, 1))) = some (r1, r2) := H
 have A2 := Aside0.mk A20
 clear A20
 by_cases c3 : t113 = true
 ·(
subst c3
have H1 : (order_Total.l0 k 0 l0_7 (l0_7.length : Int) 0) = some (r1, r2) := by rw [if_pos rfl] at H; exact H
clear H
have H := H1
clear H1
have H' := Aside0.mk H
clear H
go_enter Try.func13, Try.ntmps13
go_wp2_with (first | ((with_reducible refine gate_dst (N := 1) rfl ?_); refine box_event ?hg (N := 1) ?hd (cs := #[.string a0_0, .string a0_1, .string a0_2, .string a0_3, .string a0_4, .string a0_5, .int .i64 a0_6, .slice A0_7 l0_7.length c0_7]) (t := 24) ?hr ?_; (case hd => rfl); (case hg => rfl); (case hr => first | (go_simp; done) | (go_simp; rfl)); intro gb112 hg w4 hbox hb; have n0_ := Aside0.mk (below_step (by repeat (first | (with_reducible first | exact HB.out | apply below_alloc | apply pw_below_drewN | apply below_drew1) | exact HB.out)) hb); have n1_ := Aside0.mk (hbox); have n2_ := Aside0.mk ((by rw [hg]; exact (below_size (by repeat (first | (with_reducible first | exact HB.out | apply below_alloc | apply pw_below_drewN | apply below_drew1) | exact HB.out))) : w.heap.size ≤ gb112)); have n3_ := Aside0.mk ((by rw [hg]; exact (below_size (by repeat (first | (with_reducible first | exact HB.out | apply below_alloc | apply pw_below_drewN | apply below_drew1) | exact HB.out))) : w.heap.size ≤ gb112)); clear HB; have HB := n0_; have BK112 := n1_; have GW112 := n2_; have GE112 := n3_; clear n0_ n1_ n2_ n3_; clear hb hbox hg; have hcz5_0 : w4.cell? ⟨gb112, 0, none⟩ = some (.string a0_0) := (blk_cell BK112.out 0).trans rfl; have hcz5_1 : w4.cell? ⟨gb112, 1, none⟩ = some (.string a0_1) := (blk_cell BK112.out 1).trans rfl; have hcz5_2 : w4.cell? ⟨gb112, 2, none⟩ = some (.string a0_2) := (blk_cell BK112.out 2).trans rfl; have hcz5_3 : w4.cell? ⟨gb112, 3, none⟩ = some (.string a0_3) := (blk_cell BK112.out 3).trans rfl; have hcz5_4 : w4.cell? ⟨gb112, 4, none⟩ = some (.string a0_4) := (blk_cell BK112.out 4).trans rfl; have hcz5_5 : w4.cell? ⟨gb112, 5, none⟩ = some (.string a0_5) := (blk_cell BK112.out 5).trans rfl; have hcz5_6 : w4.cell? ⟨gb112, 6, none⟩ = some (.int .i64 a0_6) := (blk_cell BK112.out 6).trans rfl; have hcz5_7 : w4.cell? ⟨gb112, 7, none⟩ = some (.slice A0_7 l0_7.length c0_7) := (blk_cell BK112.out 7).trans rfl; have hfz5_0 := blk_frozen BK112.out 0; have hfz5_1 := blk_frozen BK112.out 1; have hfz5_2 := blk_frozen BK112.out 2; have hfz5_3 := blk_frozen BK112.out 3; have hfz5_4 := blk_frozen BK112.out 4; have hfz5_5 := blk_frozen BK112.out 5; have hfz5_6 := blk_frozen BK112.out 6; have hfz5_7 := blk_frozen BK112.out 7) | ((with_reducible refine gate_callee (f := 15) rfl ?_); refine goesL_ (some 8) rfl rfl Try.func15 (by kernel_rfl) rfl #[.agg #[.string a0_0, .string a0_1, .string a0_2, .string a0_3, .string a0_4, .string a0_5, .int .i64 a0_6, .slice A0_7 l0_7.length c0_7]] rfl (by (try simp only [List.map_toArray, List.map_cons, List.map_nil]); first | done | rfl | (simp only [List.length_drop, List.length_take]; rfl)) ?_; (with_reducible refine (order_May.calls k a0_0 a0_1 a0_2 a0_3 a0_4 a0_5 a0_6 _ _ l0_7 true _ ?side1 ?side2 A2.out).mono ?_); (case side1 => repeat (first | exact (Kd.C_below HR0_7.out HB.out) | (with_reducible refine Kd.C_alloc ?_ _) | (with_reducible refine Kd.C_drewN ?_ _) | (with_reducible refine Kd.C_drew ?_))); (case side2 => exact HC0_7.out); rintro e w6 ⟨rfl, hb⟩; refine ⟨_, rfl, ?_⟩; have n0_ := Aside0.mk (blk_below (g := gb112) (o := .cells #[.string a0_0, .string a0_1, .string a0_2, .string a0_3, .string a0_4, .string a0_5, .int .i64 a0_6, .slice A0_7 l0_7.length c0_7] 24 (0, 0)) (by (with_reducible repeat (first | refine blk_drewN ?_ _ | refine blk_drew ?_ | refine blk_alloc ?_ _)); exact BK112.out) hb); have n1_ := Aside0.mk (below_step (by repeat (first | (with_reducible first | exact HB.out | apply below_alloc | apply pw_below_drewN | apply below_drew1 | refine below_set ?_ GE112.out) | exact HB.out)) hb); clear BK112; clear HB; have BK112 := n0_; have HB := n1_; clear n0_ n1_; (try clear hb); (try clear hb2); (try clear hk); (try clear hi); have hcz7_0 : w6.cell? ⟨gb112, 0, none⟩ = some (.string a0_0) := (blk_cell BK112.out 0).trans rfl; have hcz7_1 : w6.cell? ⟨gb112, 1, none⟩ = some (.string a0_1) := (blk_cell BK112.out 1).trans rfl; have hcz7_2 : w6.cell? ⟨gb112, 2, none⟩ = some (.string a0_2) := (blk_cell BK112.out 2).trans rfl; have hcz7_3 : w6.cell? ⟨gb112, 3, none⟩ = some (.string a0_3) := (blk_cell BK112.out 3).trans rfl; have hcz7_4 : w6.cell? ⟨gb112, 4, none⟩ = some (.string a0_4) := (blk_cell BK112.out 4).trans rfl; have hcz7_5 : w6.cell? ⟨gb112, 5, none⟩ = some (.string a0_5) := (blk_cell BK112.out 5).trans rfl; have hcz7_6 : w6.cell? ⟨gb112, 6, none⟩ = some (.int .i64 a0_6) := (blk_cell BK112.out 6).trans rfl; have hcz7_7 : w6.cell? ⟨gb112, 7, none⟩ = some (.slice A0_7 l0_7.length c0_7) := (blk_cell BK112.out 7).trans rfl; have hfz7_0 := blk_frozen BK112.out 0; have hfz7_1 := blk_frozen BK112.out 1; have hfz7_2 := blk_frozen BK112.out 2; have hfz7_3 := blk_frozen BK112.out 3; have hfz7_4 := blk_frozen BK112.out 4; have hfz7_5 := blk_frozen BK112.out 5; have hfz7_6 := blk_frozen BK112.out 6; have hfz7_7 := blk_frozen BK112.out 7))
go_loopg [4, 13] k (fun kq v4 v13 w' => ∃ (x4_1 : Int) (x13_1 : Int), v4 = .int .i64 x4_1 ∧ v13 = .int .i64 x13_1 ∧ Aside0 (order_Total.l0 kq x4_1 l0_7 (l0_7.length : Int) x13_1 = some (r1, r2)) ∧ Aside0 (kq ≤ k) ∧ Aside0 (w'.heap[gb112]? = some (.cells #[.string a0_0, .string a0_1, .string a0_2, .string a0_3, .string a0_4, .string a0_5, .int .i64 a0_6, (.slice A0_7 l0_7.length c0_7)] 24 (0, 0))) ∧ Aside0 (Below w.heap.size w w'))
case atStart => exact ⟨(0), (0), (by first | rfl | (simp; done) | (simp [*]; done)), (by first | rfl | (simp; done) | (simp [*]; done)), H', ⟨Nat.le_refl _⟩, ⟨by (with_reducible repeat (first | refine blk_drewN ?_ _ | refine blk_drew ?_ | refine blk_alloc ?_ _)); exact BK112.out⟩, ⟨by repeat (first | (with_reducible first | exact HB.out | apply below_alloc | apply pw_below_drewN | apply below_drew1 | refine below_set ?_ GE112.out) | exact HB.out)⟩⟩
case round => (
clear H'
try clear c1
try clear p2
try clear c3
try clear hcz5_0
try clear hcz5_1
try clear hcz5_2
try clear hcz5_3
try clear hcz5_4
try clear hcz5_5
try clear hcz5_6
try clear hcz5_7
try clear hcz7_0
try clear hcz7_1
try clear hcz7_2
try clear hcz7_3
try clear hcz7_4
try clear hcz7_5
try clear hcz7_6
try clear hcz7_7
try clear hfz5_0
try clear hfz5_1
try clear hfz5_2
try clear hfz5_3
try clear hfz5_4
try clear hfz5_5
try clear hfz5_6
try clear hfz5_7
try clear hfz7_0
try clear hfz7_1
try clear hfz7_2
try clear hfz7_3
try clear hfz7_4
try clear hfz7_5
try clear hfz7_6
try clear hfz7_7
obtain ⟨x4_1, x13_1, rfl, rfl, HA, HK1, BK112, HB⟩ := hrel
cases gk with
| zero => exact absurd HA.out (by simp [order_Total.l0])
| succ k1 => (
have H := HA.out
clear HA
simp only [order_Total.l0] at H
by_cases c8 : x13_1 < (l0_7.length : Int)
·(
rw [if_pos c8] at H
have c8b0 : decide (x13_1 < (l0_7.length : Int)) = true := decide_eq_true c8
clear c8
by_cases c9 : 0 ≤ x13_1
·(
rw [if_pos c9] at H
have c9b0 : decide (0 ≤ x13_1) = true := decide_eq_true c9
clear c9
by_cases c10 : x13_1 < (l0_7.length : Int)
·(
rw [if_pos c10] at H
have c10b0 : decide (x13_1 < (l0_7.length : Int)) = true := decide_eq_true c10
clear c10
have H' := Aside0.mk H
clear H
have p114 : 0 ≤ (x13_1 : Int) := of_decide_eq_true (by first | (with_reducible assumption) | assumption)
have q114 : x13_1 < (l0_7.length : Int) := of_decide_eq_true (by first | (with_reducible assumption) | assumption)
obtain ⟨ad114, e114, hx114_0, hx114_1, hx114_2⟩ := at_T65 HR0_7.out x13_1 p114 q114
cases e114
replace hx114_0 := (HB.out.cell (World.block_lt_of_cell? w _ hx114_0)).trans hx114_0
replace hx114_1 := (HB.out.cell (World.block_lt_of_cell? w _ hx114_1)).trans hx114_1
replace hx114_2 := (HB.out.cell (World.block_lt_of_cell? w _ hx114_2)).trans hx114_2
replace p114 := eq_true p114
replace q114 := eq_true q114
go_wp2_with (first | ((with_reducible refine gate_dst (N := 6) rfl ?_); refine box_event ?hg (N := 6) ?hd (cs := #[.string (⟨#[]⟩ : ByteArray), .int .i64 0, .int .i64 0]) (t := 65) ?hr ?_; (case hd => rfl); (case hg => rfl); (case hr => first | (go_simp; done) | (go_simp; rfl)); intro gb115 hg w11 hbox hb; have n0_ := Aside0.mk (blk_below (g := gb112) (o := .cells #[.string a0_0, .string a0_1, .string a0_2, .string a0_3, .string a0_4, .string a0_5, .int .i64 a0_6, .slice (some ad114) l0_7.length c0_7] 24 (0, 0)) (by (with_reducible repeat (first | refine blk_drewN ?_ _ | refine blk_drew ?_ | refine blk_alloc ?_ _)); exact BK112.out) hb); have n1_ := Aside0.mk (below_step (by repeat (first | (with_reducible first | exact HB.out | apply below_alloc | apply pw_below_drewN | apply below_drew1 | refine below_set ?_ GE112.out) | exact HB.out)) hb); have n2_ := Aside0.mk (hbox); have n3_ := Aside0.mk ((by rw [hg]; exact (below_size (by repeat (first | (with_reducible first | exact HB.out | apply below_alloc | apply pw_below_drewN | apply below_drew1 | refine below_set ?_ GE112.out) | exact HB.out))) : w.heap.size ≤ gb115)); have n4_ := Aside0.mk ((by rw [hg]; exact (below_size (by repeat (first | (with_reducible first | exact HB.out | apply below_alloc | apply pw_below_drewN | apply below_drew1 | refine below_set ?_ GE112.out) | exact HB.out))) : w.heap.size ≤ gb115)); have n5_ := Aside0.mk ((by rw [hg]; exact Nat.ne_of_lt (blk_lt (g := gb112) (o := .cells #[.string a0_0, .string a0_1, .string a0_2, .string a0_3, .string a0_4, .string a0_5, .int .i64 a0_6, .slice (some ad114) l0_7.length c0_7] 24 (0, 0)) (by (with_reducible repeat (first | refine blk_drewN ?_ _ | refine blk_drew ?_ | refine blk_alloc ?_ _)); exact BK112.out)) : gb112 ≠ gb115)); have n6_ := Aside0.mk ((by rw [hg]; exact Nat.ne_of_gt (blk_lt (g := gb112) (o := .cells #[.string a0_0, .string a0_1, .string a0_2, .string a0_3, .string a0_4, .string a0_5, .int .i64 a0_6, .slice (some ad114) l0_7.length c0_7] 24 (0, 0)) (by (with_reducible repeat (first | refine blk_drewN ?_ _ | refine blk_drew ?_ | refine blk_alloc ?_ _)); exact BK112.out)) : gb115 ≠ gb112)); clear BK112; clear HB; have BK112 := n0_; have HB := n1_; have BK115 := n2_; have GW115 := n3_; have GE115 := n4_; have NB112_115 := n5_; have NB115_112 := n6_; clear n0_ n1_ n2_ n3_ n4_ n5_ n6_; clear hb hbox hg; have hnb12 := NB115_112.out; have hnc12 := NB112_115.out; have hcz13_0 : w11.cell? ⟨gb115, 0, none⟩ = some (.string (⟨#[]⟩ : ByteArray)) := (blk_cell BK115.out 0).trans rfl; have hcz13_1 : w11.cell? ⟨gb115, 1, none⟩ = some (.int .i64 0) := (blk_cell BK115.out 1).trans rfl; have hcz13_2 : w11.cell? ⟨gb115, 2, none⟩ = some (.int .i64 0) := (blk_cell BK115.out 2).trans rfl; have hfz13_0 := blk_frozen BK115.out 0; have hfz13_1 := blk_frozen BK115.out 1; have hfz13_2 := blk_frozen BK115.out 2))
go_roundg k1
case measure => have := HK1.out; omega
case rel => exact ⟨(wrap64 (x4_1 + (wrap64 (((rd_T65 l0_7 x13_1).f1) * ((rd_T65 l0_7 x13_1).f2))))), (wrap64 (x13_1 + 1)), (by first | rfl | (simp; done) | (simp [*]; done)), (by first | rfl | (simp; done) | (simp [*]; done)), H', ⟨by have := HK1.out; omega⟩, ⟨by (with_reducible repeat (first | refine blk_drewN ?_ _ | refine blk_drew ?_ | refine blk_alloc ?_ _)); refine blk_far ?_ NB112_115.out _; (with_reducible repeat (first | refine blk_drewN ?_ _ | refine blk_drew ?_ | refine blk_alloc ?_ _)); refine blk_far ?_ NB112_115.out _; (with_reducible repeat (first | refine blk_drewN ?_ _ | refine blk_drew ?_ | refine blk_alloc ?_ _)); refine blk_far ?_ NB112_115.out _; (with_reducible repeat (first | refine blk_drewN ?_ _ | refine blk_drew ?_ | refine blk_alloc ?_ _)); exact BK112.out⟩, ⟨by repeat (first | (with_reducible first | exact HB.out | apply below_alloc | apply pw_below_drewN | apply below_drew1 | refine below_set ?_ GE112.out | refine below_set ?_ GE115.out) | exact HB.out)⟩⟩
)
·(
rw [if_neg c10] at H
exact absurd H (by simp)
)
)
·(
rw [if_neg c9] at H
exact absurd H (by simp)
)
)
·(
rw [if_neg c8] at H
have c8b0 : decide (x13_1 < (l0_7.length : Int)) = false := decide_eq_false c8
clear c8
by_cases c14 : x4_1 > 1099511627776
·(
rw [if_pos c14] at H
have c14b0 : decide (1099511627776 < x4_1) = true := decide_eq_true c14
clear c14
simp only [Option.some.injEq, Prod.mk.injEq] at H
obtain ⟨rfl, rfl⟩ := H
go_wp2
go_ret2
exact ⟨by first | rfl | (simp [errW_none, errW_some] <;> rfl) | (simp [*, errW_none, errW_some] <;> rfl), by repeat (first | (with_reducible first | exact HB.out | apply below_alloc | apply pw_below_drewN | apply below_drew1 | refine below_set ?_ GE112.out) | exact HB.out)⟩
)
·(
rw [if_neg c14] at H
have c14b0 : decide (1099511627776 < x4_1) = false := decide_eq_false c14
clear c14
simp only [Option.some.injEq, Prod.mk.injEq] at H
obtain ⟨rfl, rfl⟩ := H
go_wp2
go_ret2
exact ⟨by first | rfl | (simp [errW_none, errW_some] <;> rfl) | (simp [*, errW_none, errW_some] <;> rfl), by repeat (first | (with_reducible first | exact HB.out | apply below_alloc | apply pw_below_drewN | apply below_drew1 | refine below_set ?_ GE112.out) | exact HB.out)⟩
)
)
)
)
)
 ·(
replace c3 := Bool.eq_false_iff.mpr c3
subst c3
have H1 : (some (0, 1)) = some (r1, r2) := by rw [if_neg (show ¬ (false = true) by decide)] at H; exact H
clear H
have H := H1
clear H1
simp only [Option.some.injEq, Prod.mk.injEq] at H
obtain ⟨rfl, rfl⟩ := H
go_enter Try.func13, Try.ntmps13
go_wp2_with (first | ((with_reducible refine gate_dst (N := 1) rfl ?_); refine box_event ?hg (N := 1) ?hd (cs := #[.string a0_0, .string a0_1, .string a0_2, .string a0_3, .string a0_4, .string a0_5, .int .i64 a0_6, .slice A0_7 l0_7.length c0_7]) (t := 24) ?hr ?_; (case hd => rfl); (case hg => rfl); (case hr => first | (go_simp; done) | (go_simp; rfl)); intro gb112 hg w15 hbox hb; have n0_ := Aside0.mk (below_step (by repeat (first | (with_reducible first | exact HB.out | apply below_alloc | apply pw_below_drewN | apply below_drew1) | exact HB.out)) hb); have n1_ := Aside0.mk (hbox); have n2_ := Aside0.mk ((by rw [hg]; exact (below_size (by repeat (first | (with_reducible first | exact HB.out | apply below_alloc | apply pw_below_drewN | apply below_drew1) | exact HB.out))) : w.heap.size ≤ gb112)); have n3_ := Aside0.mk ((by rw [hg]; exact (below_size (by repeat (first | (with_reducible first | exact HB.out | apply below_alloc | apply pw_below_drewN | apply below_drew1) | exact HB.out))) : w.heap.size ≤ gb112)); clear HB; have HB := n0_; have BK112 := n1_; have GW112 := n2_; have GE112 := n3_; clear n0_ n1_ n2_ n3_; clear hb hbox hg; have hcz16_0 : w15.cell? ⟨gb112, 0, none⟩ = some (.string a0_0) := (blk_cell BK112.out 0).trans rfl; have hcz16_1 : w15.cell? ⟨gb112, 1, none⟩ = some (.string a0_1) := (blk_cell BK112.out 1).trans rfl; have hcz16_2 : w15.cell? ⟨gb112, 2, none⟩ = some (.string a0_2) := (blk_cell BK112.out 2).trans rfl; have hcz16_3 : w15.cell? ⟨gb112, 3, none⟩ = some (.string a0_3) := (blk_cell BK112.out 3).trans rfl; have hcz16_4 : w15.cell? ⟨gb112, 4, none⟩ = some (.string a0_4) := (blk_cell BK112.out 4).trans rfl; have hcz16_5 : w15.cell? ⟨gb112, 5, none⟩ = some (.string a0_5) := (blk_cell BK112.out 5).trans rfl; have hcz16_6 : w15.cell? ⟨gb112, 6, none⟩ = some (.int .i64 a0_6) := (blk_cell BK112.out 6).trans rfl; have hcz16_7 : w15.cell? ⟨gb112, 7, none⟩ = some (.slice A0_7 l0_7.length c0_7) := (blk_cell BK112.out 7).trans rfl; have hfz16_0 := blk_frozen BK112.out 0; have hfz16_1 := blk_frozen BK112.out 1; have hfz16_2 := blk_frozen BK112.out 2; have hfz16_3 := blk_frozen BK112.out 3; have hfz16_4 := blk_frozen BK112.out 4; have hfz16_5 := blk_frozen BK112.out 5; have hfz16_6 := blk_frozen BK112.out 6; have hfz16_7 := blk_frozen BK112.out 7) | ((with_reducible refine gate_callee (f := 15) rfl ?_); refine goesL_ (some 8) rfl rfl Try.func15 (by kernel_rfl) rfl #[.agg #[.string a0_0, .string a0_1, .string a0_2, .string a0_3, .string a0_4, .string a0_5, .int .i64 a0_6, .slice A0_7 l0_7.length c0_7]] rfl (by (try simp only [List.map_toArray, List.map_cons, List.map_nil]); first | done | rfl | (simp only [List.length_drop, List.length_take]; rfl)) ?_; (with_reducible refine (order_May.calls k a0_0 a0_1 a0_2 a0_3 a0_4 a0_5 a0_6 _ _ l0_7 false _ ?side1 ?side2 A2.out).mono ?_); (case side1 => repeat (first | exact (Kd.C_below HR0_7.out HB.out) | (with_reducible refine Kd.C_alloc ?_ _) | (with_reducible refine Kd.C_drewN ?_ _) | (with_reducible refine Kd.C_drew ?_))); (case side2 => exact HC0_7.out); rintro e w17 ⟨rfl, hb⟩; refine ⟨_, rfl, ?_⟩; have n0_ := Aside0.mk (blk_below (g := gb112) (o := .cells #[.string a0_0, .string a0_1, .string a0_2, .string a0_3, .string a0_4, .string a0_5, .int .i64 a0_6, .slice A0_7 l0_7.length c0_7] 24 (0, 0)) (by (with_reducible repeat (first | refine blk_drewN ?_ _ | refine blk_drew ?_ | refine blk_alloc ?_ _)); exact BK112.out) hb); have n1_ := Aside0.mk (below_step (by repeat (first | (with_reducible first | exact HB.out | apply below_alloc | apply pw_below_drewN | apply below_drew1 | refine below_set ?_ GE112.out) | exact HB.out)) hb); clear BK112; clear HB; have BK112 := n0_; have HB := n1_; clear n0_ n1_; (try clear hb); (try clear hb2); (try clear hk); (try clear hi)))
go_ret2
exact ⟨by first | rfl | (simp [errW_none, errW_some] <;> rfl) | (simp [*, errW_none, errW_some] <;> rfl), by repeat (first | (with_reducible first | exact HB.out | apply below_alloc | apply pw_below_drewN | apply below_drew1 | refine below_set ?_ GE112.out) | exact HB.out)⟩
)

def api_Line.l0 : Nat → List (S65) → List (S65) → Int → Int → Option (Bool)
 | 0, _, _, _, _ => none
 | k + 1, x0, x1, x12, x13 => if x13 < x12 then (if 0 ≤ x13 then (if x13 < (x0.length : Int) then (if x13 < (x1.length : Int) then (if (!((((rd_T65 x0 x13).f0).toList) == (((rd_T65 x1 x13).f0).toList)) || (!(((rd_T65 x0 x13).f1) == ((rd_T65 x1 x13).f1)) || (!(((rd_T65 x0 x13).f2) == ((rd_T65 x1 x13).f2))))) = true then (some false) else (api_Line.l0 k x0 x1 x12 (wrap64 (x13 + 1)))) else (none)) else (none)) else (none)) else (some true)
def api_Line.f (k : Nat) (l0 : List (S65)) (l1 : List (S65)) : Option (Bool) := if (l0.length : Int) = (l1.length : Int) then (api_Line.l0 k l0 l1 (l0.length : Int) 0) else (some false)
theorem api_Line.mono_l : ∀ k, (∀ y0 y1 y2 y3, LeO (api_Line.l0 k y0 y1 y2 y3) (api_Line.l0 (k + 1) y0 y1 y2 y3))
 | 0 => fun _ _ _ _ r h => by simp [api_Line.l0] at h
 | k + 1 => by
  have ih0 := api_Line.mono_l k
  ·intro y0 y1 y2 y3
   unfold api_Line.l0
   repeat' first
   | (with_reducible exact ih0 _ _ _ _)
   | (with_reducible exact LeO.refl _)
   | (with_reducible exact LeO.none _)
   | (with_reducible refine LeO.ite ?_ ?_)
   | (with_reducible refine LeO.bind ?_ (fun _ => ?_))
   | exact ih0 _ _ _ _
   | exact LeO.none _
   | refine LeO.ite ?_ ?_
   | refine LeO.bind ?_ (fun _ => ?_)
theorem api_Line.mono : ∀ a0 a1 k, LeO (api_Line.f k a0 a1) (api_Line.f (k + 1) a0 a1) := by
 intro a0 a1 k
 have ih0 := api_Line.mono_l k
 unfold api_Line.f
 repeat' first
   | (with_reducible exact ih0 _ _ _ _)
   | (with_reducible exact LeO.refl _)
   | (with_reducible exact LeO.none _)
   | (with_reducible refine LeO.ite ?_ ?_)
   | (with_reducible refine LeO.bind ?_ (fun _ => ?_))
   | exact ih0 _ _ _ _
   | exact LeO.none _
   | refine LeO.ite ?_ ?_
   | refine LeO.bind ?_ (fun _ => ?_)
set_option maxHeartbeats 8000000 in
set_option maxRecDepth 100000 in
theorem api_Line.calls (k : Nat) (A0 : Option Addr) (c0 : Nat) (l0 : List (S65)) (A1 : Option Addr) (c1 : Nat) (l1 : List (S65)) (r : Bool) (w : World) (hr0 : Kd.C k65 w A0 l0.length l0) (hc0 : l0.length ≤ c0) (hr1 : Kd.C k65 w A1 l1.length l1) (hc1 : l1.length ≤ c1) (h : api_Line.f k l0 l1 = some r) :
  Calls Try.prog 42 #[.slice A0 l0.length c0, .slice A1 l1.length c1] w fun e w' => e = .returned (.bool r) ∧ Drawn0 w w' := by
 have hu65 := Try.underlying65
 have HR0 := Aside0.mk hr0
 have HC0 := Aside0.mk hc0
 clear hr0 hc0
 have HR1 := Aside0.mk hr1
 have HC1 := Aside0.mk hc1
 clear hr1 hc1
 have H : (if (l0.length : Int) = (l1.length : Int) then (api_Line.l0 k l0 l1 (l0.length : Int) 0) else (some false)) = some r := h
 clear h
 by_cases c3 : (l0.length : Int) = (l1.length : Int)
 ·(
rw [if_pos c3] at H
have c3b0 : ((l0.length : Int) == (l1.length : Int)) = true := beq_iff_eq.mpr c3
have c3b1 : ((l0.length : Int) != (l1.length : Int)) = false := bne_eq_false_iff_eq.mpr c3
have c3b2 : (l0.length == l1.length) = true := by first | simpa using c3 | (simp at c3 ⊢; omega)
clear c3
have H' := Aside0.mk H
clear H
go_enter Try.func42, Try.ntmps42
go_wp2
repeat (go_quiet (fail); try go_wp2)
go_loopg [13] k (fun kq v13 w' => ∃ (x13_1 : Int), v13 = .int .i64 x13_1 ∧ Aside0 (api_Line.l0 kq l0 l1 (l0.length : Int) x13_1 = some r) ∧ Aside0 (kq ≤ k) ∧ Drawn0 w w')
case atStart => exact ⟨(0), (by first | rfl | (simp; done) | (simp [*]; done)), H', ⟨Nat.le_refl _⟩, by repeat (first | exact Drawn0.refl _ | apply Drawn0.step)⟩
case round => (
clear H'
try clear c1
try clear p2
try clear c3
try clear c3b0
try clear c3b1
try clear c3b2
obtain ⟨x13_1, rfl, HA, HK1, ⟨m1, rfl⟩⟩ := hrel
cases gk with
| zero => exact absurd HA.out (by simp [api_Line.l0])
| succ k1 => (
have H := HA.out
clear HA
simp only [api_Line.l0] at H
by_cases c4 : x13_1 < (l0.length : Int)
·(
rw [if_pos c4] at H
have c4b0 : decide (x13_1 < (l0.length : Int)) = true := decide_eq_true c4
clear c4
by_cases c5 : 0 ≤ x13_1
·(
rw [if_pos c5] at H
have c5b0 : decide (0 ≤ x13_1) = true := decide_eq_true c5
clear c5
by_cases c6 : x13_1 < (l0.length : Int)
·(
rw [if_pos c6] at H
have c6b0 : decide (x13_1 < (l0.length : Int)) = true := decide_eq_true c6
clear c6
by_cases c7 : x13_1 < (l1.length : Int)
·(
rw [if_pos c7] at H
have c7b0 : decide (x13_1 < (l1.length : Int)) = true := decide_eq_true c7
clear c7
by_cases c8 : (!((((rd_T65 l0 x13_1).f0).toList) == (((rd_T65 l1 x13_1).f0).toList)) || (!(((rd_T65 l0 x13_1).f1) == ((rd_T65 l1 x13_1).f1)) || (!(((rd_T65 l0 x13_1).f2) == ((rd_T65 l1 x13_1).f2))))) = true
·(
rw [if_pos c8] at H
have c8b0 : (!((((rd_T65 l0 x13_1).f0).toList) == (((rd_T65 l1 x13_1).f0).toList)) || (!(((rd_T65 l0 x13_1).f1) == ((rd_T65 l1 x13_1).f1)) || (!(((rd_T65 l0 x13_1).f2) == ((rd_T65 l1 x13_1).f2))))) = true := c8
clear c8
obtain rfl := Option.some.inj H
have p116 : 0 ≤ (x13_1 : Int) := of_decide_eq_true (by first | (with_reducible assumption) | assumption)
have q116 : x13_1 < (l0.length : Int) := of_decide_eq_true (by first | (with_reducible assumption) | assumption)
obtain ⟨ad116, e116, hx116_0, hx116_1, hx116_2⟩ := at_T65 HR0.out x13_1 p116 q116
cases e116
replace p116 := eq_true p116
replace q116 := eq_true q116
have p117 : 0 ≤ (x13_1 : Int) := of_decide_eq_true (by first | (with_reducible assumption) | assumption)
have q117 : x13_1 < (l1.length : Int) := of_decide_eq_true (by first | (with_reducible assumption) | assumption)
obtain ⟨ad117, e117, hx117_0, hx117_1, hx117_2⟩ := at_T65 HR1.out x13_1 p117 q117
cases e117
replace p117 := eq_true p117
replace q117 := eq_true q117
go_wp2
repeat (go_quiet (fail); try go_wp2)
go_ret
exact ⟨by first | rfl | (simp; done) | (simp [*]; done), by repeat (first | exact Drawn0.refl _ | apply Drawn0.step)⟩
)
·(
rw [if_neg c8] at H
have c8b0 : (!((((rd_T65 l0 x13_1).f0).toList) == (((rd_T65 l1 x13_1).f0).toList)) || (!(((rd_T65 l0 x13_1).f1) == ((rd_T65 l1 x13_1).f1)) || (!(((rd_T65 l0 x13_1).f2) == ((rd_T65 l1 x13_1).f2))))) = false := by simpa using c8
clear c8
have H' := Aside0.mk H
clear H
have p116 : 0 ≤ (x13_1 : Int) := of_decide_eq_true (by first | (with_reducible assumption) | assumption)
have q116 : x13_1 < (l0.length : Int) := of_decide_eq_true (by first | (with_reducible assumption) | assumption)
obtain ⟨ad116, e116, hx116_0, hx116_1, hx116_2⟩ := at_T65 HR0.out x13_1 p116 q116
cases e116
replace p116 := eq_true p116
replace q116 := eq_true q116
have p117 : 0 ≤ (x13_1 : Int) := of_decide_eq_true (by first | (with_reducible assumption) | assumption)
have q117 : x13_1 < (l1.length : Int) := of_decide_eq_true (by first | (with_reducible assumption) | assumption)
obtain ⟨ad117, e117, hx117_0, hx117_1, hx117_2⟩ := at_T65 HR1.out x13_1 p117 q117
cases e117
replace p117 := eq_true p117
replace q117 := eq_true q117
go_wp2
repeat (go_quiet (fail); try go_wp2)
go_roundg k1
case measure => have := HK1.out; omega
case rel => exact ⟨(wrap64 (x13_1 + 1)), (by first | rfl | (simp; done) | (simp [*]; done)), H', ⟨by have := HK1.out; omega⟩, by repeat (first | exact Drawn0.refl _ | apply Drawn0.step)⟩
)
)
·(
rw [if_neg c7] at H
exact absurd H (by simp)
)
)
·(
rw [if_neg c6] at H
exact absurd H (by simp)
)
)
·(
rw [if_neg c5] at H
exact absurd H (by simp)
)
)
·(
rw [if_neg c4] at H
have c4b0 : decide (x13_1 < (l0.length : Int)) = false := decide_eq_false c4
clear c4
obtain rfl := Option.some.inj H
go_wp2
repeat (go_quiet (fail); try go_wp2)
go_ret
exact ⟨by first | rfl | (simp; done) | (simp [*]; done), by repeat (first | exact Drawn0.refl _ | apply Drawn0.step)⟩
)
)
)
)
 ·(
rw [if_neg c3] at H
have c3b0 : ((l0.length : Int) == (l1.length : Int)) = false := beq_eq_false_iff_ne.mpr c3
have c3b1 : ((l0.length : Int) != (l1.length : Int)) = true := bne_iff_ne.mpr c3
have c3b2 : (l0.length == l1.length) = false := by first | simpa using c3 | (simp at c3 ⊢; omega)
obtain rfl := Option.some.inj H
go_enter Try.func42, Try.ntmps42
go_wp2
repeat (go_quiet (fail); try go_wp2)
go_ret
exact ⟨by first | rfl | (simp; done) | (simp [*]; done), by repeat (first | exact Drawn0.refl _ | apply Drawn0.step)⟩
)

def order_Same.f (k : Nat) (a0_0 : ByteArray) (a0_1 : ByteArray) (a0_2 : ByteArray) (a0_3 : ByteArray) (a0_4 : ByteArray) (a0_5 : ByteArray) (a0_6 : Int) (l0_7 : List (S65)) (a1_0 : ByteArray) (a1_1 : ByteArray) (a1_2 : ByteArray) (a1_3 : ByteArray) (a1_4 : ByteArray) (a1_5 : ByteArray) (a1_6 : Int) (l1_7 : List (S65)) : Option (Bool) := if a0_0.toList = a1_0.toList then (if a0_1.toList = a1_1.toList then (if a0_2.toList = a1_2.toList then (if a0_3.toList = a1_3.toList then (if a0_4.toList = a1_4.toList then (if a0_5.toList = a1_5.toList then (if a0_6 = a1_6 then ((api_Line.f k l0_7 l1_7).bind fun t120 => (some t120)) else (some false)) else (some false)) else (some false)) else (some false)) else (some false)) else (some false)) else (some false)
theorem order_Same.mono : ∀ a0 a1 a2 a3 a4 a5 a6 a7 a8 a9 a10 a11 a12 a13 a14 a15 k, LeO (order_Same.f k a0 a1 a2 a3 a4 a5 a6 a7 a8 a9 a10 a11 a12 a13 a14 a15) (order_Same.f (k + 1) a0 a1 a2 a3 a4 a5 a6 a7 a8 a9 a10 a11 a12 a13 a14 a15) := by
 intro a0 a1 a2 a3 a4 a5 a6 a7 a8 a9 a10 a11 a12 a13 a14 a15 k
 unfold order_Same.f
 repeat' first
   | (with_reducible exact api_Line.mono _ _ _)
   | (with_reducible exact LeO.refl _)
   | (with_reducible exact LeO.none _)
   | (with_reducible refine LeO.ite ?_ ?_)
   | (with_reducible refine LeO.bind ?_ (fun _ => ?_))
   | exact api_Line.mono _ _ _
   | exact LeO.none _
   | refine LeO.ite ?_ ?_
   | refine LeO.bind ?_ (fun _ => ?_)
set_option maxHeartbeats 8000000 in
set_option maxRecDepth 100000 in
theorem order_Same.calls (k : Nat) (a0_0 : ByteArray) (a0_1 : ByteArray) (a0_2 : ByteArray) (a0_3 : ByteArray) (a0_4 : ByteArray) (a0_5 : ByteArray) (a0_6 : Int) (A0_7 : Option Addr) (c0_7 : Nat) (l0_7 : List (S65)) (a1_0 : ByteArray) (a1_1 : ByteArray) (a1_2 : ByteArray) (a1_3 : ByteArray) (a1_4 : ByteArray) (a1_5 : ByteArray) (a1_6 : Int) (A1_7 : Option Addr) (c1_7 : Nat) (l1_7 : List (S65)) (r : Bool) (w : World) (hr0_7 : Kd.C k65 w A0_7 l0_7.length l0_7) (hc0_7 : l0_7.length ≤ c0_7) (hr1_7 : Kd.C k65 w A1_7 l1_7.length l1_7) (hc1_7 : l1_7.length ≤ c1_7) (h : order_Same.f k a0_0 a0_1 a0_2 a0_3 a0_4 a0_5 a0_6 l0_7 a1_0 a1_1 a1_2 a1_3 a1_4 a1_5 a1_6 l1_7 = some r) :
  Calls Try.prog 17 #[.agg #[.string a0_0, .string a0_1, .string a0_2, .string a0_3, .string a0_4, .string a0_5, .int .i64 a0_6, .slice A0_7 l0_7.length c0_7], .agg #[.string a1_0, .string a1_1, .string a1_2, .string a1_3, .string a1_4, .string a1_5, .int .i64 a1_6, .slice A1_7 l1_7.length c1_7]] w fun e w' => e = .returned (.bool r) ∧ Below w.heap.size w w' := by
 have hu24 := Try.underlying24
 have HR0_7 := Aside0.mk hr0_7
 have HC0_7 := Aside0.mk hc0_7
 clear hr0_7 hc0_7
 have HR1_7 := Aside0.mk hr1_7
 have HC1_7 := Aside0.mk hc1_7
 clear hr1_7 hc1_7
 have HB := Aside0.mk (Below.refl w.heap.size w)
 have H : (if a0_0.toList = a1_0.toList then (if a0_1.toList = a1_1.toList then (if a0_2.toList = a1_2.toList then (if a0_3.toList = a1_3.toList then (if a0_4.toList = a1_4.toList then (if a0_5.toList = a1_5.toList then (if a0_6 = a1_6 then ((api_Line.f k l0_7 l1_7).bind fun t120 => (some t120)) else (some false)) else (some false)) else (some false)) else (some false)) else (some false)) else (some false)) else (some false)) = some r := h
 clear h
 by_cases c3 : a0_0.toList = a1_0.toList
 ·(
rw [if_pos c3] at H
have c3b0 : (a0_0.toList == a1_0.toList) = true := beq_iff_eq.mpr c3
have c3b1 : (a0_0.toList != a1_0.toList) = false := bne_eq_false_iff_eq.mpr c3
clear c3
by_cases c4 : a0_1.toList = a1_1.toList
·(
rw [if_pos c4] at H
have c4b0 : (a0_1.toList == a1_1.toList) = true := beq_iff_eq.mpr c4
have c4b1 : (a0_1.toList != a1_1.toList) = false := bne_eq_false_iff_eq.mpr c4
clear c4
by_cases c5 : a0_2.toList = a1_2.toList
·(
rw [if_pos c5] at H
have c5b0 : (a0_2.toList == a1_2.toList) = true := beq_iff_eq.mpr c5
have c5b1 : (a0_2.toList != a1_2.toList) = false := bne_eq_false_iff_eq.mpr c5
clear c5
by_cases c6 : a0_3.toList = a1_3.toList
·(
rw [if_pos c6] at H
have c6b0 : (a0_3.toList == a1_3.toList) = true := beq_iff_eq.mpr c6
have c6b1 : (a0_3.toList != a1_3.toList) = false := bne_eq_false_iff_eq.mpr c6
clear c6
by_cases c7 : a0_4.toList = a1_4.toList
·(
rw [if_pos c7] at H
have c7b0 : (a0_4.toList == a1_4.toList) = true := beq_iff_eq.mpr c7
have c7b1 : (a0_4.toList != a1_4.toList) = false := bne_eq_false_iff_eq.mpr c7
clear c7
by_cases c8 : a0_5.toList = a1_5.toList
·(
rw [if_pos c8] at H
have c8b0 : (a0_5.toList == a1_5.toList) = true := beq_iff_eq.mpr c8
have c8b1 : (a0_5.toList != a1_5.toList) = false := bne_eq_false_iff_eq.mpr c8
clear c8
by_cases c9 : a0_6 = a1_6
·(
rw [if_pos c9] at H
have c9b0 : (a0_6 == a1_6) = true := beq_iff_eq.mpr c9
have c9b1 : (a0_6 != a1_6) = false := bne_eq_false_iff_eq.mpr c9
clear c9
replace H := Option.bind_eq_some_iff.mp H
obtain ⟨t120, A100, H⟩ := H
replace H : (some t120) = some r := H
have A10 := Aside0.mk A100
clear A100
obtain rfl := Option.some.inj H
go_enter Try.func17, Try.ntmps17
go_wp2_with (first | ((with_reducible refine gate_dst (N := 2) rfl ?_); refine box_event ?hg (N := 2) ?hd (cs := #[.string a0_0, .string a0_1, .string a0_2, .string a0_3, .string a0_4, .string a0_5, .int .i64 a0_6, .slice A0_7 l0_7.length c0_7]) (t := 24) ?hr ?_; (case hd => rfl); (case hg => rfl); (case hr => first | (go_simp; done) | (go_simp; rfl)); intro gb118 hg w11 hbox hb; have n0_ := Aside0.mk (below_step (by repeat (first | (with_reducible first | exact HB.out | apply below_alloc | apply pw_below_drewN | apply below_drew1) | exact HB.out)) hb); have n1_ := Aside0.mk (hbox); have n2_ := Aside0.mk ((by rw [hg]; exact (below_size (by repeat (first | (with_reducible first | exact HB.out | apply below_alloc | apply pw_below_drewN | apply below_drew1) | exact HB.out))) : w.heap.size ≤ gb118)); have n3_ := Aside0.mk ((by rw [hg]; exact (below_size (by repeat (first | (with_reducible first | exact HB.out | apply below_alloc | apply pw_below_drewN | apply below_drew1) | exact HB.out))) : w.heap.size ≤ gb118)); clear HB; have HB := n0_; have BK118 := n1_; have GW118 := n2_; have GE118 := n3_; clear n0_ n1_ n2_ n3_; clear hb hbox hg) | ((with_reducible refine gate_dst (N := 3) rfl ?_); refine box_event ?hg (N := 3) ?hd (cs := #[.string a1_0, .string a1_1, .string a1_2, .string a1_3, .string a1_4, .string a1_5, .int .i64 a1_6, .slice A1_7 l1_7.length c1_7]) (t := 24) ?hr ?_; (case hd => rfl); (case hg => rfl); (case hr => first | (go_simp; done) | (go_simp; rfl)); intro gb119 hg w12 hbox hb; have n0_ := Aside0.mk (blk_below (g := gb118) (o := .cells #[.string a0_0, .string a0_1, .string a0_2, .string a0_3, .string a0_4, .string a0_5, .int .i64 a0_6, .slice A0_7 l0_7.length c0_7] 24 (0, 0)) (by (with_reducible repeat (first | refine blk_drewN ?_ _ | refine blk_drew ?_ | refine blk_alloc ?_ _)); exact BK118.out) hb); have n1_ := Aside0.mk (below_step (by repeat (first | (with_reducible first | exact HB.out | apply below_alloc | apply pw_below_drewN | apply below_drew1 | refine below_set ?_ GE118.out) | exact HB.out)) hb); have n2_ := Aside0.mk (hbox); have n3_ := Aside0.mk ((by rw [hg]; exact (below_size (by repeat (first | (with_reducible first | exact HB.out | apply below_alloc | apply pw_below_drewN | apply below_drew1 | refine below_set ?_ GE118.out) | exact HB.out))) : w.heap.size ≤ gb119)); have n4_ := Aside0.mk ((by rw [hg]; exact (below_size (by repeat (first | (with_reducible first | exact HB.out | apply below_alloc | apply pw_below_drewN | apply below_drew1 | refine below_set ?_ GE118.out) | exact HB.out))) : w.heap.size ≤ gb119)); have n5_ := Aside0.mk ((by rw [hg]; exact Nat.ne_of_lt (blk_lt (g := gb118) (o := .cells #[.string a0_0, .string a0_1, .string a0_2, .string a0_3, .string a0_4, .string a0_5, .int .i64 a0_6, .slice A0_7 l0_7.length c0_7] 24 (0, 0)) (by (with_reducible repeat (first | refine blk_drewN ?_ _ | refine blk_drew ?_ | refine blk_alloc ?_ _)); exact BK118.out)) : gb118 ≠ gb119)); have n6_ := Aside0.mk ((by rw [hg]; exact Nat.ne_of_gt (blk_lt (g := gb118) (o := .cells #[.string a0_0, .string a0_1, .string a0_2, .string a0_3, .string a0_4, .string a0_5, .int .i64 a0_6, .slice A0_7 l0_7.length c0_7] 24 (0, 0)) (by (with_reducible repeat (first | refine blk_drewN ?_ _ | refine blk_drew ?_ | refine blk_alloc ?_ _)); exact BK118.out)) : gb119 ≠ gb118)); clear BK118; clear HB; have BK118 := n0_; have HB := n1_; have BK119 := n2_; have GW119 := n3_; have GE119 := n4_; have NB118_119 := n5_; have NB119_118 := n6_; clear n0_ n1_ n2_ n3_ n4_ n5_ n6_; clear hb hbox hg; have hnb13 := NB118_119.out; have hnc13 := NB119_118.out; have hcz14_0 : w12.cell? ⟨gb118, 0, none⟩ = some (.string a0_0) := (blk_cell BK118.out 0).trans rfl; have hcz14_1 : w12.cell? ⟨gb118, 1, none⟩ = some (.string a0_1) := (blk_cell BK118.out 1).trans rfl; have hcz14_2 : w12.cell? ⟨gb118, 2, none⟩ = some (.string a0_2) := (blk_cell BK118.out 2).trans rfl; have hcz14_3 : w12.cell? ⟨gb118, 3, none⟩ = some (.string a0_3) := (blk_cell BK118.out 3).trans rfl; have hcz14_4 : w12.cell? ⟨gb118, 4, none⟩ = some (.string a0_4) := (blk_cell BK118.out 4).trans rfl; have hcz14_5 : w12.cell? ⟨gb118, 5, none⟩ = some (.string a0_5) := (blk_cell BK118.out 5).trans rfl; have hcz14_6 : w12.cell? ⟨gb118, 6, none⟩ = some (.int .i64 a0_6) := (blk_cell BK118.out 6).trans rfl; have hcz14_7 : w12.cell? ⟨gb118, 7, none⟩ = some (.slice A0_7 l0_7.length c0_7) := (blk_cell BK118.out 7).trans rfl; have hfz14_0 := blk_frozen BK118.out 0; have hfz14_1 := blk_frozen BK118.out 1; have hfz14_2 := blk_frozen BK118.out 2; have hfz14_3 := blk_frozen BK118.out 3; have hfz14_4 := blk_frozen BK118.out 4; have hfz14_5 := blk_frozen BK118.out 5; have hfz14_6 := blk_frozen BK118.out 6; have hfz14_7 := blk_frozen BK118.out 7; have hcz15_0 : w12.cell? ⟨gb119, 0, none⟩ = some (.string a1_0) := (blk_cell BK119.out 0).trans rfl; have hcz15_1 : w12.cell? ⟨gb119, 1, none⟩ = some (.string a1_1) := (blk_cell BK119.out 1).trans rfl; have hcz15_2 : w12.cell? ⟨gb119, 2, none⟩ = some (.string a1_2) := (blk_cell BK119.out 2).trans rfl; have hcz15_3 : w12.cell? ⟨gb119, 3, none⟩ = some (.string a1_3) := (blk_cell BK119.out 3).trans rfl; have hcz15_4 : w12.cell? ⟨gb119, 4, none⟩ = some (.string a1_4) := (blk_cell BK119.out 4).trans rfl; have hcz15_5 : w12.cell? ⟨gb119, 5, none⟩ = some (.string a1_5) := (blk_cell BK119.out 5).trans rfl; have hcz15_6 : w12.cell? ⟨gb119, 6, none⟩ = some (.int .i64 a1_6) := (blk_cell BK119.out 6).trans rfl; have hcz15_7 : w12.cell? ⟨gb119, 7, none⟩ = some (.slice A1_7 l1_7.length c1_7) := (blk_cell BK119.out 7).trans rfl; have hfz15_0 := blk_frozen BK119.out 0; have hfz15_1 := blk_frozen BK119.out 1; have hfz15_2 := blk_frozen BK119.out 2; have hfz15_3 := blk_frozen BK119.out 3; have hfz15_4 := blk_frozen BK119.out 4; have hfz15_5 := blk_frozen BK119.out 5; have hfz15_6 := blk_frozen BK119.out 6; have hfz15_7 := blk_frozen BK119.out 7) | (go_at_call 42; (with_reducible refine (api_Line.calls k _ _ l0_7 _ _ l1_7 t120 _ ?side1 ?side2 ?side3 ?side4 A10.out).mono ?_); (case side1 => repeat (first | exact (Kd.C_below HR0_7.out HB.out) | (with_reducible refine Kd.C_alloc ?_ _) | (with_reducible refine Kd.C_drewN ?_ _) | (with_reducible refine Kd.C_drew ?_))); (case side2 => exact HC0_7.out); (case side3 => repeat (first | exact (Kd.C_below HR1_7.out HB.out) | (with_reducible refine Kd.C_alloc ?_ _) | (with_reducible refine Kd.C_drewN ?_ _) | (with_reducible refine Kd.C_drew ?_))); (case side4 => exact HC1_7.out); rintro e w' ⟨rfl, ⟨nd, rfl⟩⟩))
go_ret
exact ⟨by first | rfl | (simp [errW_none, errW_some] <;> rfl) | (simp [*, errW_none, errW_some] <;> rfl), by repeat (first | (with_reducible first | exact HB.out | apply below_alloc | apply pw_below_drewN | apply below_drew1 | refine below_set ?_ GE118.out | refine below_set ?_ GE119.out) | exact HB.out)⟩
)
·(
rw [if_neg c9] at H
have c9b0 : (a0_6 == a1_6) = false := beq_eq_false_iff_ne.mpr c9
have c9b1 : (a0_6 != a1_6) = true := bne_iff_ne.mpr c9
obtain rfl := Option.some.inj H
go_enter Try.func17, Try.ntmps17
go_wp2_with (first | ((with_reducible refine gate_dst (N := 2) rfl ?_); refine box_event ?hg (N := 2) ?hd (cs := #[.string a0_0, .string a0_1, .string a0_2, .string a0_3, .string a0_4, .string a0_5, .int .i64 a0_6, .slice A0_7 l0_7.length c0_7]) (t := 24) ?hr ?_; (case hd => rfl); (case hg => rfl); (case hr => first | (go_simp; done) | (go_simp; rfl)); intro gb118 hg w16 hbox hb; have n0_ := Aside0.mk (below_step (by repeat (first | (with_reducible first | exact HB.out | apply below_alloc | apply pw_below_drewN | apply below_drew1) | exact HB.out)) hb); have n1_ := Aside0.mk (hbox); have n2_ := Aside0.mk ((by rw [hg]; exact (below_size (by repeat (first | (with_reducible first | exact HB.out | apply below_alloc | apply pw_below_drewN | apply below_drew1) | exact HB.out))) : w.heap.size ≤ gb118)); have n3_ := Aside0.mk ((by rw [hg]; exact (below_size (by repeat (first | (with_reducible first | exact HB.out | apply below_alloc | apply pw_below_drewN | apply below_drew1) | exact HB.out))) : w.heap.size ≤ gb118)); clear HB; have HB := n0_; have BK118 := n1_; have GW118 := n2_; have GE118 := n3_; clear n0_ n1_ n2_ n3_; clear hb hbox hg) | ((with_reducible refine gate_dst (N := 3) rfl ?_); refine box_event ?hg (N := 3) ?hd (cs := #[.string a1_0, .string a1_1, .string a1_2, .string a1_3, .string a1_4, .string a1_5, .int .i64 a1_6, .slice A1_7 l1_7.length c1_7]) (t := 24) ?hr ?_; (case hd => rfl); (case hg => rfl); (case hr => first | (go_simp; done) | (go_simp; rfl)); intro gb119 hg w17 hbox hb; have n0_ := Aside0.mk (blk_below (g := gb118) (o := .cells #[.string a0_0, .string a0_1, .string a0_2, .string a0_3, .string a0_4, .string a0_5, .int .i64 a0_6, .slice A0_7 l0_7.length c0_7] 24 (0, 0)) (by (with_reducible repeat (first | refine blk_drewN ?_ _ | refine blk_drew ?_ | refine blk_alloc ?_ _)); exact BK118.out) hb); have n1_ := Aside0.mk (below_step (by repeat (first | (with_reducible first | exact HB.out | apply below_alloc | apply pw_below_drewN | apply below_drew1 | refine below_set ?_ GE118.out) | exact HB.out)) hb); have n2_ := Aside0.mk (hbox); have n3_ := Aside0.mk ((by rw [hg]; exact (below_size (by repeat (first | (with_reducible first | exact HB.out | apply below_alloc | apply pw_below_drewN | apply below_drew1 | refine below_set ?_ GE118.out) | exact HB.out))) : w.heap.size ≤ gb119)); have n4_ := Aside0.mk ((by rw [hg]; exact (below_size (by repeat (first | (with_reducible first | exact HB.out | apply below_alloc | apply pw_below_drewN | apply below_drew1 | refine below_set ?_ GE118.out) | exact HB.out))) : w.heap.size ≤ gb119)); have n5_ := Aside0.mk ((by rw [hg]; exact Nat.ne_of_lt (blk_lt (g := gb118) (o := .cells #[.string a0_0, .string a0_1, .string a0_2, .string a0_3, .string a0_4, .string a0_5, .int .i64 a0_6, .slice A0_7 l0_7.length c0_7] 24 (0, 0)) (by (with_reducible repeat (first | refine blk_drewN ?_ _ | refine blk_drew ?_ | refine blk_alloc ?_ _)); exact BK118.out)) : gb118 ≠ gb119)); have n6_ := Aside0.mk ((by rw [hg]; exact Nat.ne_of_gt (blk_lt (g := gb118) (o := .cells #[.string a0_0, .string a0_1, .string a0_2, .string a0_3, .string a0_4, .string a0_5, .int .i64 a0_6, .slice A0_7 l0_7.length c0_7] 24 (0, 0)) (by (with_reducible repeat (first | refine blk_drewN ?_ _ | refine blk_drew ?_ | refine blk_alloc ?_ _)); exact BK118.out)) : gb119 ≠ gb118)); clear BK118; clear HB; have BK118 := n0_; have HB := n1_; have BK119 := n2_; have GW119 := n3_; have GE119 := n4_; have NB118_119 := n5_; have NB119_118 := n6_; clear n0_ n1_ n2_ n3_ n4_ n5_ n6_; clear hb hbox hg; have hnb18 := NB118_119.out; have hnc18 := NB119_118.out; have hcz19_0 : w17.cell? ⟨gb118, 0, none⟩ = some (.string a0_0) := (blk_cell BK118.out 0).trans rfl; have hcz19_1 : w17.cell? ⟨gb118, 1, none⟩ = some (.string a0_1) := (blk_cell BK118.out 1).trans rfl; have hcz19_2 : w17.cell? ⟨gb118, 2, none⟩ = some (.string a0_2) := (blk_cell BK118.out 2).trans rfl; have hcz19_3 : w17.cell? ⟨gb118, 3, none⟩ = some (.string a0_3) := (blk_cell BK118.out 3).trans rfl; have hcz19_4 : w17.cell? ⟨gb118, 4, none⟩ = some (.string a0_4) := (blk_cell BK118.out 4).trans rfl; have hcz19_5 : w17.cell? ⟨gb118, 5, none⟩ = some (.string a0_5) := (blk_cell BK118.out 5).trans rfl; have hcz19_6 : w17.cell? ⟨gb118, 6, none⟩ = some (.int .i64 a0_6) := (blk_cell BK118.out 6).trans rfl; have hcz19_7 : w17.cell? ⟨gb118, 7, none⟩ = some (.slice A0_7 l0_7.length c0_7) := (blk_cell BK118.out 7).trans rfl; have hfz19_0 := blk_frozen BK118.out 0; have hfz19_1 := blk_frozen BK118.out 1; have hfz19_2 := blk_frozen BK118.out 2; have hfz19_3 := blk_frozen BK118.out 3; have hfz19_4 := blk_frozen BK118.out 4; have hfz19_5 := blk_frozen BK118.out 5; have hfz19_6 := blk_frozen BK118.out 6; have hfz19_7 := blk_frozen BK118.out 7; have hcz20_0 : w17.cell? ⟨gb119, 0, none⟩ = some (.string a1_0) := (blk_cell BK119.out 0).trans rfl; have hcz20_1 : w17.cell? ⟨gb119, 1, none⟩ = some (.string a1_1) := (blk_cell BK119.out 1).trans rfl; have hcz20_2 : w17.cell? ⟨gb119, 2, none⟩ = some (.string a1_2) := (blk_cell BK119.out 2).trans rfl; have hcz20_3 : w17.cell? ⟨gb119, 3, none⟩ = some (.string a1_3) := (blk_cell BK119.out 3).trans rfl; have hcz20_4 : w17.cell? ⟨gb119, 4, none⟩ = some (.string a1_4) := (blk_cell BK119.out 4).trans rfl; have hcz20_5 : w17.cell? ⟨gb119, 5, none⟩ = some (.string a1_5) := (blk_cell BK119.out 5).trans rfl; have hcz20_6 : w17.cell? ⟨gb119, 6, none⟩ = some (.int .i64 a1_6) := (blk_cell BK119.out 6).trans rfl; have hcz20_7 : w17.cell? ⟨gb119, 7, none⟩ = some (.slice A1_7 l1_7.length c1_7) := (blk_cell BK119.out 7).trans rfl; have hfz20_0 := blk_frozen BK119.out 0; have hfz20_1 := blk_frozen BK119.out 1; have hfz20_2 := blk_frozen BK119.out 2; have hfz20_3 := blk_frozen BK119.out 3; have hfz20_4 := blk_frozen BK119.out 4; have hfz20_5 := blk_frozen BK119.out 5; have hfz20_6 := blk_frozen BK119.out 6; have hfz20_7 := blk_frozen BK119.out 7))
go_ret
exact ⟨by first | rfl | (simp [errW_none, errW_some] <;> rfl) | (simp [*, errW_none, errW_some] <;> rfl), by repeat (first | (with_reducible first | exact HB.out | apply below_alloc | apply pw_below_drewN | apply below_drew1 | refine below_set ?_ GE118.out | refine below_set ?_ GE119.out) | exact HB.out)⟩
)
)
·(
rw [if_neg c8] at H
have c8b0 : (a0_5.toList == a1_5.toList) = false := beq_eq_false_iff_ne.mpr c8
have c8b1 : (a0_5.toList != a1_5.toList) = true := bne_iff_ne.mpr c8
obtain rfl := Option.some.inj H
go_enter Try.func17, Try.ntmps17
go_wp2_with (first | ((with_reducible refine gate_dst (N := 2) rfl ?_); refine box_event ?hg (N := 2) ?hd (cs := #[.string a0_0, .string a0_1, .string a0_2, .string a0_3, .string a0_4, .string a0_5, .int .i64 a0_6, .slice A0_7 l0_7.length c0_7]) (t := 24) ?hr ?_; (case hd => rfl); (case hg => rfl); (case hr => first | (go_simp; done) | (go_simp; rfl)); intro gb118 hg w21 hbox hb; have n0_ := Aside0.mk (below_step (by repeat (first | (with_reducible first | exact HB.out | apply below_alloc | apply pw_below_drewN | apply below_drew1) | exact HB.out)) hb); have n1_ := Aside0.mk (hbox); have n2_ := Aside0.mk ((by rw [hg]; exact (below_size (by repeat (first | (with_reducible first | exact HB.out | apply below_alloc | apply pw_below_drewN | apply below_drew1) | exact HB.out))) : w.heap.size ≤ gb118)); have n3_ := Aside0.mk ((by rw [hg]; exact (below_size (by repeat (first | (with_reducible first | exact HB.out | apply below_alloc | apply pw_below_drewN | apply below_drew1) | exact HB.out))) : w.heap.size ≤ gb118)); clear HB; have HB := n0_; have BK118 := n1_; have GW118 := n2_; have GE118 := n3_; clear n0_ n1_ n2_ n3_; clear hb hbox hg) | ((with_reducible refine gate_dst (N := 3) rfl ?_); refine box_event ?hg (N := 3) ?hd (cs := #[.string a1_0, .string a1_1, .string a1_2, .string a1_3, .string a1_4, .string a1_5, .int .i64 a1_6, .slice A1_7 l1_7.length c1_7]) (t := 24) ?hr ?_; (case hd => rfl); (case hg => rfl); (case hr => first | (go_simp; done) | (go_simp; rfl)); intro gb119 hg w22 hbox hb; have n0_ := Aside0.mk (blk_below (g := gb118) (o := .cells #[.string a0_0, .string a0_1, .string a0_2, .string a0_3, .string a0_4, .string a0_5, .int .i64 a0_6, .slice A0_7 l0_7.length c0_7] 24 (0, 0)) (by (with_reducible repeat (first | refine blk_drewN ?_ _ | refine blk_drew ?_ | refine blk_alloc ?_ _)); exact BK118.out) hb); have n1_ := Aside0.mk (below_step (by repeat (first | (with_reducible first | exact HB.out | apply below_alloc | apply pw_below_drewN | apply below_drew1 | refine below_set ?_ GE118.out) | exact HB.out)) hb); have n2_ := Aside0.mk (hbox); have n3_ := Aside0.mk ((by rw [hg]; exact (below_size (by repeat (first | (with_reducible first | exact HB.out | apply below_alloc | apply pw_below_drewN | apply below_drew1 | refine below_set ?_ GE118.out) | exact HB.out))) : w.heap.size ≤ gb119)); have n4_ := Aside0.mk ((by rw [hg]; exact (below_size (by repeat (first | (with_reducible first | exact HB.out | apply below_alloc | apply pw_below_drewN | apply below_drew1 | refine below_set ?_ GE118.out) | exact HB.out))) : w.heap.size ≤ gb119)); have n5_ := Aside0.mk ((by rw [hg]; exact Nat.ne_of_lt (blk_lt (g := gb118) (o := .cells #[.string a0_0, .string a0_1, .string a0_2, .string a0_3, .string a0_4, .string a0_5, .int .i64 a0_6, .slice A0_7 l0_7.length c0_7] 24 (0, 0)) (by (with_reducible repeat (first | refine blk_drewN ?_ _ | refine blk_drew ?_ | refine blk_alloc ?_ _)); exact BK118.out)) : gb118 ≠ gb119)); have n6_ := Aside0.mk ((by rw [hg]; exact Nat.ne_of_gt (blk_lt (g := gb118) (o := .cells #[.string a0_0, .string a0_1, .string a0_2, .string a0_3, .string a0_4, .string a0_5, .int .i64 a0_6, .slice A0_7 l0_7.length c0_7] 24 (0, 0)) (by (with_reducible repeat (first | refine blk_drewN ?_ _ | refine blk_drew ?_ | refine blk_alloc ?_ _)); exact BK118.out)) : gb119 ≠ gb118)); clear BK118; clear HB; have BK118 := n0_; have HB := n1_; have BK119 := n2_; have GW119 := n3_; have GE119 := n4_; have NB118_119 := n5_; have NB119_118 := n6_; clear n0_ n1_ n2_ n3_ n4_ n5_ n6_; clear hb hbox hg; have hnb23 := NB118_119.out; have hnc23 := NB119_118.out; have hcz24_0 : w22.cell? ⟨gb118, 0, none⟩ = some (.string a0_0) := (blk_cell BK118.out 0).trans rfl; have hcz24_1 : w22.cell? ⟨gb118, 1, none⟩ = some (.string a0_1) := (blk_cell BK118.out 1).trans rfl; have hcz24_2 : w22.cell? ⟨gb118, 2, none⟩ = some (.string a0_2) := (blk_cell BK118.out 2).trans rfl; have hcz24_3 : w22.cell? ⟨gb118, 3, none⟩ = some (.string a0_3) := (blk_cell BK118.out 3).trans rfl; have hcz24_4 : w22.cell? ⟨gb118, 4, none⟩ = some (.string a0_4) := (blk_cell BK118.out 4).trans rfl; have hcz24_5 : w22.cell? ⟨gb118, 5, none⟩ = some (.string a0_5) := (blk_cell BK118.out 5).trans rfl; have hcz24_6 : w22.cell? ⟨gb118, 6, none⟩ = some (.int .i64 a0_6) := (blk_cell BK118.out 6).trans rfl; have hcz24_7 : w22.cell? ⟨gb118, 7, none⟩ = some (.slice A0_7 l0_7.length c0_7) := (blk_cell BK118.out 7).trans rfl; have hfz24_0 := blk_frozen BK118.out 0; have hfz24_1 := blk_frozen BK118.out 1; have hfz24_2 := blk_frozen BK118.out 2; have hfz24_3 := blk_frozen BK118.out 3; have hfz24_4 := blk_frozen BK118.out 4; have hfz24_5 := blk_frozen BK118.out 5; have hfz24_6 := blk_frozen BK118.out 6; have hfz24_7 := blk_frozen BK118.out 7; have hcz25_0 : w22.cell? ⟨gb119, 0, none⟩ = some (.string a1_0) := (blk_cell BK119.out 0).trans rfl; have hcz25_1 : w22.cell? ⟨gb119, 1, none⟩ = some (.string a1_1) := (blk_cell BK119.out 1).trans rfl; have hcz25_2 : w22.cell? ⟨gb119, 2, none⟩ = some (.string a1_2) := (blk_cell BK119.out 2).trans rfl; have hcz25_3 : w22.cell? ⟨gb119, 3, none⟩ = some (.string a1_3) := (blk_cell BK119.out 3).trans rfl; have hcz25_4 : w22.cell? ⟨gb119, 4, none⟩ = some (.string a1_4) := (blk_cell BK119.out 4).trans rfl; have hcz25_5 : w22.cell? ⟨gb119, 5, none⟩ = some (.string a1_5) := (blk_cell BK119.out 5).trans rfl; have hcz25_6 : w22.cell? ⟨gb119, 6, none⟩ = some (.int .i64 a1_6) := (blk_cell BK119.out 6).trans rfl; have hcz25_7 : w22.cell? ⟨gb119, 7, none⟩ = some (.slice A1_7 l1_7.length c1_7) := (blk_cell BK119.out 7).trans rfl; have hfz25_0 := blk_frozen BK119.out 0; have hfz25_1 := blk_frozen BK119.out 1; have hfz25_2 := blk_frozen BK119.out 2; have hfz25_3 := blk_frozen BK119.out 3; have hfz25_4 := blk_frozen BK119.out 4; have hfz25_5 := blk_frozen BK119.out 5; have hfz25_6 := blk_frozen BK119.out 6; have hfz25_7 := blk_frozen BK119.out 7))
go_ret
exact ⟨by first | rfl | (simp [errW_none, errW_some] <;> rfl) | (simp [*, errW_none, errW_some] <;> rfl), by repeat (first | (with_reducible first | exact HB.out | apply below_alloc | apply pw_below_drewN | apply below_drew1 | refine below_set ?_ GE118.out | refine below_set ?_ GE119.out) | exact HB.out)⟩
)
)
·(
rw [if_neg c7] at H
have c7b0 : (a0_4.toList == a1_4.toList) = false := beq_eq_false_iff_ne.mpr c7
have c7b1 : (a0_4.toList != a1_4.toList) = true := bne_iff_ne.mpr c7
obtain rfl := Option.some.inj H
go_enter Try.func17, Try.ntmps17
go_wp2_with (first | ((with_reducible refine gate_dst (N := 2) rfl ?_); refine box_event ?hg (N := 2) ?hd (cs := #[.string a0_0, .string a0_1, .string a0_2, .string a0_3, .string a0_4, .string a0_5, .int .i64 a0_6, .slice A0_7 l0_7.length c0_7]) (t := 24) ?hr ?_; (case hd => rfl); (case hg => rfl); (case hr => first | (go_simp; done) | (go_simp; rfl)); intro gb118 hg w26 hbox hb; have n0_ := Aside0.mk (below_step (by repeat (first | (with_reducible first | exact HB.out | apply below_alloc | apply pw_below_drewN | apply below_drew1) | exact HB.out)) hb); have n1_ := Aside0.mk (hbox); have n2_ := Aside0.mk ((by rw [hg]; exact (below_size (by repeat (first | (with_reducible first | exact HB.out | apply below_alloc | apply pw_below_drewN | apply below_drew1) | exact HB.out))) : w.heap.size ≤ gb118)); have n3_ := Aside0.mk ((by rw [hg]; exact (below_size (by repeat (first | (with_reducible first | exact HB.out | apply below_alloc | apply pw_below_drewN | apply below_drew1) | exact HB.out))) : w.heap.size ≤ gb118)); clear HB; have HB := n0_; have BK118 := n1_; have GW118 := n2_; have GE118 := n3_; clear n0_ n1_ n2_ n3_; clear hb hbox hg) | ((with_reducible refine gate_dst (N := 3) rfl ?_); refine box_event ?hg (N := 3) ?hd (cs := #[.string a1_0, .string a1_1, .string a1_2, .string a1_3, .string a1_4, .string a1_5, .int .i64 a1_6, .slice A1_7 l1_7.length c1_7]) (t := 24) ?hr ?_; (case hd => rfl); (case hg => rfl); (case hr => first | (go_simp; done) | (go_simp; rfl)); intro gb119 hg w27 hbox hb; have n0_ := Aside0.mk (blk_below (g := gb118) (o := .cells #[.string a0_0, .string a0_1, .string a0_2, .string a0_3, .string a0_4, .string a0_5, .int .i64 a0_6, .slice A0_7 l0_7.length c0_7] 24 (0, 0)) (by (with_reducible repeat (first | refine blk_drewN ?_ _ | refine blk_drew ?_ | refine blk_alloc ?_ _)); exact BK118.out) hb); have n1_ := Aside0.mk (below_step (by repeat (first | (with_reducible first | exact HB.out | apply below_alloc | apply pw_below_drewN | apply below_drew1 | refine below_set ?_ GE118.out) | exact HB.out)) hb); have n2_ := Aside0.mk (hbox); have n3_ := Aside0.mk ((by rw [hg]; exact (below_size (by repeat (first | (with_reducible first | exact HB.out | apply below_alloc | apply pw_below_drewN | apply below_drew1 | refine below_set ?_ GE118.out) | exact HB.out))) : w.heap.size ≤ gb119)); have n4_ := Aside0.mk ((by rw [hg]; exact (below_size (by repeat (first | (with_reducible first | exact HB.out | apply below_alloc | apply pw_below_drewN | apply below_drew1 | refine below_set ?_ GE118.out) | exact HB.out))) : w.heap.size ≤ gb119)); have n5_ := Aside0.mk ((by rw [hg]; exact Nat.ne_of_lt (blk_lt (g := gb118) (o := .cells #[.string a0_0, .string a0_1, .string a0_2, .string a0_3, .string a0_4, .string a0_5, .int .i64 a0_6, .slice A0_7 l0_7.length c0_7] 24 (0, 0)) (by (with_reducible repeat (first | refine blk_drewN ?_ _ | refine blk_drew ?_ | refine blk_alloc ?_ _)); exact BK118.out)) : gb118 ≠ gb119)); have n6_ := Aside0.mk ((by rw [hg]; exact Nat.ne_of_gt (blk_lt (g := gb118) (o := .cells #[.string a0_0, .string a0_1, .string a0_2, .string a0_3, .string a0_4, .string a0_5, .int .i64 a0_6, .slice A0_7 l0_7.length c0_7] 24 (0, 0)) (by (with_reducible repeat (first | refine blk_drewN ?_ _ | refine blk_drew ?_ | refine blk_alloc ?_ _)); exact BK118.out)) : gb119 ≠ gb118)); clear BK118; clear HB; have BK118 := n0_; have HB := n1_; have BK119 := n2_; have GW119 := n3_; have GE119 := n4_; have NB118_119 := n5_; have NB119_118 := n6_; clear n0_ n1_ n2_ n3_ n4_ n5_ n6_; clear hb hbox hg; have hnb28 := NB118_119.out; have hnc28 := NB119_118.out; have hcz29_0 : w27.cell? ⟨gb118, 0, none⟩ = some (.string a0_0) := (blk_cell BK118.out 0).trans rfl; have hcz29_1 : w27.cell? ⟨gb118, 1, none⟩ = some (.string a0_1) := (blk_cell BK118.out 1).trans rfl; have hcz29_2 : w27.cell? ⟨gb118, 2, none⟩ = some (.string a0_2) := (blk_cell BK118.out 2).trans rfl; have hcz29_3 : w27.cell? ⟨gb118, 3, none⟩ = some (.string a0_3) := (blk_cell BK118.out 3).trans rfl; have hcz29_4 : w27.cell? ⟨gb118, 4, none⟩ = some (.string a0_4) := (blk_cell BK118.out 4).trans rfl; have hcz29_5 : w27.cell? ⟨gb118, 5, none⟩ = some (.string a0_5) := (blk_cell BK118.out 5).trans rfl; have hcz29_6 : w27.cell? ⟨gb118, 6, none⟩ = some (.int .i64 a0_6) := (blk_cell BK118.out 6).trans rfl; have hcz29_7 : w27.cell? ⟨gb118, 7, none⟩ = some (.slice A0_7 l0_7.length c0_7) := (blk_cell BK118.out 7).trans rfl; have hfz29_0 := blk_frozen BK118.out 0; have hfz29_1 := blk_frozen BK118.out 1; have hfz29_2 := blk_frozen BK118.out 2; have hfz29_3 := blk_frozen BK118.out 3; have hfz29_4 := blk_frozen BK118.out 4; have hfz29_5 := blk_frozen BK118.out 5; have hfz29_6 := blk_frozen BK118.out 6; have hfz29_7 := blk_frozen BK118.out 7; have hcz30_0 : w27.cell? ⟨gb119, 0, none⟩ = some (.string a1_0) := (blk_cell BK119.out 0).trans rfl; have hcz30_1 : w27.cell? ⟨gb119, 1, none⟩ = some (.string a1_1) := (blk_cell BK119.out 1).trans rfl; have hcz30_2 : w27.cell? ⟨gb119, 2, none⟩ = some (.string a1_2) := (blk_cell BK119.out 2).trans rfl; have hcz30_3 : w27.cell? ⟨gb119, 3, none⟩ = some (.string a1_3) := (blk_cell BK119.out 3).trans rfl; have hcz30_4 : w27.cell? ⟨gb119, 4, none⟩ = some (.string a1_4) := (blk_cell BK119.out 4).trans rfl; have hcz30_5 : w27.cell? ⟨gb119, 5, none⟩ = some (.string a1_5) := (blk_cell BK119.out 5).trans rfl; have hcz30_6 : w27.cell? ⟨gb119, 6, none⟩ = some (.int .i64 a1_6) := (blk_cell BK119.out 6).trans rfl; have hcz30_7 : w27.cell? ⟨gb119, 7, none⟩ = some (.slice A1_7 l1_7.length c1_7) := (blk_cell BK119.out 7).trans rfl; have hfz30_0 := blk_frozen BK119.out 0; have hfz30_1 := blk_frozen BK119.out 1; have hfz30_2 := blk_frozen BK119.out 2; have hfz30_3 := blk_frozen BK119.out 3; have hfz30_4 := blk_frozen BK119.out 4; have hfz30_5 := blk_frozen BK119.out 5; have hfz30_6 := blk_frozen BK119.out 6; have hfz30_7 := blk_frozen BK119.out 7))
go_ret
exact ⟨by first | rfl | (simp [errW_none, errW_some] <;> rfl) | (simp [*, errW_none, errW_some] <;> rfl), by repeat (first | (with_reducible first | exact HB.out | apply below_alloc | apply pw_below_drewN | apply below_drew1 | refine below_set ?_ GE118.out | refine below_set ?_ GE119.out) | exact HB.out)⟩
)
)
·(
rw [if_neg c6] at H
have c6b0 : (a0_3.toList == a1_3.toList) = false := beq_eq_false_iff_ne.mpr c6
have c6b1 : (a0_3.toList != a1_3.toList) = true := bne_iff_ne.mpr c6
obtain rfl := Option.some.inj H
go_enter Try.func17, Try.ntmps17
go_wp2_with (first | ((with_reducible refine gate_dst (N := 2) rfl ?_); refine box_event ?hg (N := 2) ?hd (cs := #[.string a0_0, .string a0_1, .string a0_2, .string a0_3, .string a0_4, .string a0_5, .int .i64 a0_6, .slice A0_7 l0_7.length c0_7]) (t := 24) ?hr ?_; (case hd => rfl); (case hg => rfl); (case hr => first | (go_simp; done) | (go_simp; rfl)); intro gb118 hg w31 hbox hb; have n0_ := Aside0.mk (below_step (by repeat (first | (with_reducible first | exact HB.out | apply below_alloc | apply pw_below_drewN | apply below_drew1) | exact HB.out)) hb); have n1_ := Aside0.mk (hbox); have n2_ := Aside0.mk ((by rw [hg]; exact (below_size (by repeat (first | (with_reducible first | exact HB.out | apply below_alloc | apply pw_below_drewN | apply below_drew1) | exact HB.out))) : w.heap.size ≤ gb118)); have n3_ := Aside0.mk ((by rw [hg]; exact (below_size (by repeat (first | (with_reducible first | exact HB.out | apply below_alloc | apply pw_below_drewN | apply below_drew1) | exact HB.out))) : w.heap.size ≤ gb118)); clear HB; have HB := n0_; have BK118 := n1_; have GW118 := n2_; have GE118 := n3_; clear n0_ n1_ n2_ n3_; clear hb hbox hg) | ((with_reducible refine gate_dst (N := 3) rfl ?_); refine box_event ?hg (N := 3) ?hd (cs := #[.string a1_0, .string a1_1, .string a1_2, .string a1_3, .string a1_4, .string a1_5, .int .i64 a1_6, .slice A1_7 l1_7.length c1_7]) (t := 24) ?hr ?_; (case hd => rfl); (case hg => rfl); (case hr => first | (go_simp; done) | (go_simp; rfl)); intro gb119 hg w32 hbox hb; have n0_ := Aside0.mk (blk_below (g := gb118) (o := .cells #[.string a0_0, .string a0_1, .string a0_2, .string a0_3, .string a0_4, .string a0_5, .int .i64 a0_6, .slice A0_7 l0_7.length c0_7] 24 (0, 0)) (by (with_reducible repeat (first | refine blk_drewN ?_ _ | refine blk_drew ?_ | refine blk_alloc ?_ _)); exact BK118.out) hb); have n1_ := Aside0.mk (below_step (by repeat (first | (with_reducible first | exact HB.out | apply below_alloc | apply pw_below_drewN | apply below_drew1 | refine below_set ?_ GE118.out) | exact HB.out)) hb); have n2_ := Aside0.mk (hbox); have n3_ := Aside0.mk ((by rw [hg]; exact (below_size (by repeat (first | (with_reducible first | exact HB.out | apply below_alloc | apply pw_below_drewN | apply below_drew1 | refine below_set ?_ GE118.out) | exact HB.out))) : w.heap.size ≤ gb119)); have n4_ := Aside0.mk ((by rw [hg]; exact (below_size (by repeat (first | (with_reducible first | exact HB.out | apply below_alloc | apply pw_below_drewN | apply below_drew1 | refine below_set ?_ GE118.out) | exact HB.out))) : w.heap.size ≤ gb119)); have n5_ := Aside0.mk ((by rw [hg]; exact Nat.ne_of_lt (blk_lt (g := gb118) (o := .cells #[.string a0_0, .string a0_1, .string a0_2, .string a0_3, .string a0_4, .string a0_5, .int .i64 a0_6, .slice A0_7 l0_7.length c0_7] 24 (0, 0)) (by (with_reducible repeat (first | refine blk_drewN ?_ _ | refine blk_drew ?_ | refine blk_alloc ?_ _)); exact BK118.out)) : gb118 ≠ gb119)); have n6_ := Aside0.mk ((by rw [hg]; exact Nat.ne_of_gt (blk_lt (g := gb118) (o := .cells #[.string a0_0, .string a0_1, .string a0_2, .string a0_3, .string a0_4, .string a0_5, .int .i64 a0_6, .slice A0_7 l0_7.length c0_7] 24 (0, 0)) (by (with_reducible repeat (first | refine blk_drewN ?_ _ | refine blk_drew ?_ | refine blk_alloc ?_ _)); exact BK118.out)) : gb119 ≠ gb118)); clear BK118; clear HB; have BK118 := n0_; have HB := n1_; have BK119 := n2_; have GW119 := n3_; have GE119 := n4_; have NB118_119 := n5_; have NB119_118 := n6_; clear n0_ n1_ n2_ n3_ n4_ n5_ n6_; clear hb hbox hg; have hnb33 := NB118_119.out; have hnc33 := NB119_118.out; have hcz34_0 : w32.cell? ⟨gb118, 0, none⟩ = some (.string a0_0) := (blk_cell BK118.out 0).trans rfl; have hcz34_1 : w32.cell? ⟨gb118, 1, none⟩ = some (.string a0_1) := (blk_cell BK118.out 1).trans rfl; have hcz34_2 : w32.cell? ⟨gb118, 2, none⟩ = some (.string a0_2) := (blk_cell BK118.out 2).trans rfl; have hcz34_3 : w32.cell? ⟨gb118, 3, none⟩ = some (.string a0_3) := (blk_cell BK118.out 3).trans rfl; have hcz34_4 : w32.cell? ⟨gb118, 4, none⟩ = some (.string a0_4) := (blk_cell BK118.out 4).trans rfl; have hcz34_5 : w32.cell? ⟨gb118, 5, none⟩ = some (.string a0_5) := (blk_cell BK118.out 5).trans rfl; have hcz34_6 : w32.cell? ⟨gb118, 6, none⟩ = some (.int .i64 a0_6) := (blk_cell BK118.out 6).trans rfl; have hcz34_7 : w32.cell? ⟨gb118, 7, none⟩ = some (.slice A0_7 l0_7.length c0_7) := (blk_cell BK118.out 7).trans rfl; have hfz34_0 := blk_frozen BK118.out 0; have hfz34_1 := blk_frozen BK118.out 1; have hfz34_2 := blk_frozen BK118.out 2; have hfz34_3 := blk_frozen BK118.out 3; have hfz34_4 := blk_frozen BK118.out 4; have hfz34_5 := blk_frozen BK118.out 5; have hfz34_6 := blk_frozen BK118.out 6; have hfz34_7 := blk_frozen BK118.out 7; have hcz35_0 : w32.cell? ⟨gb119, 0, none⟩ = some (.string a1_0) := (blk_cell BK119.out 0).trans rfl; have hcz35_1 : w32.cell? ⟨gb119, 1, none⟩ = some (.string a1_1) := (blk_cell BK119.out 1).trans rfl; have hcz35_2 : w32.cell? ⟨gb119, 2, none⟩ = some (.string a1_2) := (blk_cell BK119.out 2).trans rfl; have hcz35_3 : w32.cell? ⟨gb119, 3, none⟩ = some (.string a1_3) := (blk_cell BK119.out 3).trans rfl; have hcz35_4 : w32.cell? ⟨gb119, 4, none⟩ = some (.string a1_4) := (blk_cell BK119.out 4).trans rfl; have hcz35_5 : w32.cell? ⟨gb119, 5, none⟩ = some (.string a1_5) := (blk_cell BK119.out 5).trans rfl; have hcz35_6 : w32.cell? ⟨gb119, 6, none⟩ = some (.int .i64 a1_6) := (blk_cell BK119.out 6).trans rfl; have hcz35_7 : w32.cell? ⟨gb119, 7, none⟩ = some (.slice A1_7 l1_7.length c1_7) := (blk_cell BK119.out 7).trans rfl; have hfz35_0 := blk_frozen BK119.out 0; have hfz35_1 := blk_frozen BK119.out 1; have hfz35_2 := blk_frozen BK119.out 2; have hfz35_3 := blk_frozen BK119.out 3; have hfz35_4 := blk_frozen BK119.out 4; have hfz35_5 := blk_frozen BK119.out 5; have hfz35_6 := blk_frozen BK119.out 6; have hfz35_7 := blk_frozen BK119.out 7))
go_ret
exact ⟨by first | rfl | (simp [errW_none, errW_some] <;> rfl) | (simp [*, errW_none, errW_some] <;> rfl), by repeat (first | (with_reducible first | exact HB.out | apply below_alloc | apply pw_below_drewN | apply below_drew1 | refine below_set ?_ GE118.out | refine below_set ?_ GE119.out) | exact HB.out)⟩
)
)
·(
rw [if_neg c5] at H
have c5b0 : (a0_2.toList == a1_2.toList) = false := beq_eq_false_iff_ne.mpr c5
have c5b1 : (a0_2.toList != a1_2.toList) = true := bne_iff_ne.mpr c5
obtain rfl := Option.some.inj H
go_enter Try.func17, Try.ntmps17
go_wp2_with (first | ((with_reducible refine gate_dst (N := 2) rfl ?_); refine box_event ?hg (N := 2) ?hd (cs := #[.string a0_0, .string a0_1, .string a0_2, .string a0_3, .string a0_4, .string a0_5, .int .i64 a0_6, .slice A0_7 l0_7.length c0_7]) (t := 24) ?hr ?_; (case hd => rfl); (case hg => rfl); (case hr => first | (go_simp; done) | (go_simp; rfl)); intro gb118 hg w36 hbox hb; have n0_ := Aside0.mk (below_step (by repeat (first | (with_reducible first | exact HB.out | apply below_alloc | apply pw_below_drewN | apply below_drew1) | exact HB.out)) hb); have n1_ := Aside0.mk (hbox); have n2_ := Aside0.mk ((by rw [hg]; exact (below_size (by repeat (first | (with_reducible first | exact HB.out | apply below_alloc | apply pw_below_drewN | apply below_drew1) | exact HB.out))) : w.heap.size ≤ gb118)); have n3_ := Aside0.mk ((by rw [hg]; exact (below_size (by repeat (first | (with_reducible first | exact HB.out | apply below_alloc | apply pw_below_drewN | apply below_drew1) | exact HB.out))) : w.heap.size ≤ gb118)); clear HB; have HB := n0_; have BK118 := n1_; have GW118 := n2_; have GE118 := n3_; clear n0_ n1_ n2_ n3_; clear hb hbox hg) | ((with_reducible refine gate_dst (N := 3) rfl ?_); refine box_event ?hg (N := 3) ?hd (cs := #[.string a1_0, .string a1_1, .string a1_2, .string a1_3, .string a1_4, .string a1_5, .int .i64 a1_6, .slice A1_7 l1_7.length c1_7]) (t := 24) ?hr ?_; (case hd => rfl); (case hg => rfl); (case hr => first | (go_simp; done) | (go_simp; rfl)); intro gb119 hg w37 hbox hb; have n0_ := Aside0.mk (blk_below (g := gb118) (o := .cells #[.string a0_0, .string a0_1, .string a0_2, .string a0_3, .string a0_4, .string a0_5, .int .i64 a0_6, .slice A0_7 l0_7.length c0_7] 24 (0, 0)) (by (with_reducible repeat (first | refine blk_drewN ?_ _ | refine blk_drew ?_ | refine blk_alloc ?_ _)); exact BK118.out) hb); have n1_ := Aside0.mk (below_step (by repeat (first | (with_reducible first | exact HB.out | apply below_alloc | apply pw_below_drewN | apply below_drew1 | refine below_set ?_ GE118.out) | exact HB.out)) hb); have n2_ := Aside0.mk (hbox); have n3_ := Aside0.mk ((by rw [hg]; exact (below_size (by repeat (first | (with_reducible first | exact HB.out | apply below_alloc | apply pw_below_drewN | apply below_drew1 | refine below_set ?_ GE118.out) | exact HB.out))) : w.heap.size ≤ gb119)); have n4_ := Aside0.mk ((by rw [hg]; exact (below_size (by repeat (first | (with_reducible first | exact HB.out | apply below_alloc | apply pw_below_drewN | apply below_drew1 | refine below_set ?_ GE118.out) | exact HB.out))) : w.heap.size ≤ gb119)); have n5_ := Aside0.mk ((by rw [hg]; exact Nat.ne_of_lt (blk_lt (g := gb118) (o := .cells #[.string a0_0, .string a0_1, .string a0_2, .string a0_3, .string a0_4, .string a0_5, .int .i64 a0_6, .slice A0_7 l0_7.length c0_7] 24 (0, 0)) (by (with_reducible repeat (first | refine blk_drewN ?_ _ | refine blk_drew ?_ | refine blk_alloc ?_ _)); exact BK118.out)) : gb118 ≠ gb119)); have n6_ := Aside0.mk ((by rw [hg]; exact Nat.ne_of_gt (blk_lt (g := gb118) (o := .cells #[.string a0_0, .string a0_1, .string a0_2, .string a0_3, .string a0_4, .string a0_5, .int .i64 a0_6, .slice A0_7 l0_7.length c0_7] 24 (0, 0)) (by (with_reducible repeat (first | refine blk_drewN ?_ _ | refine blk_drew ?_ | refine blk_alloc ?_ _)); exact BK118.out)) : gb119 ≠ gb118)); clear BK118; clear HB; have BK118 := n0_; have HB := n1_; have BK119 := n2_; have GW119 := n3_; have GE119 := n4_; have NB118_119 := n5_; have NB119_118 := n6_; clear n0_ n1_ n2_ n3_ n4_ n5_ n6_; clear hb hbox hg; have hnb38 := NB118_119.out; have hnc38 := NB119_118.out; have hcz39_0 : w37.cell? ⟨gb118, 0, none⟩ = some (.string a0_0) := (blk_cell BK118.out 0).trans rfl; have hcz39_1 : w37.cell? ⟨gb118, 1, none⟩ = some (.string a0_1) := (blk_cell BK118.out 1).trans rfl; have hcz39_2 : w37.cell? ⟨gb118, 2, none⟩ = some (.string a0_2) := (blk_cell BK118.out 2).trans rfl; have hcz39_3 : w37.cell? ⟨gb118, 3, none⟩ = some (.string a0_3) := (blk_cell BK118.out 3).trans rfl; have hcz39_4 : w37.cell? ⟨gb118, 4, none⟩ = some (.string a0_4) := (blk_cell BK118.out 4).trans rfl; have hcz39_5 : w37.cell? ⟨gb118, 5, none⟩ = some (.string a0_5) := (blk_cell BK118.out 5).trans rfl; have hcz39_6 : w37.cell? ⟨gb118, 6, none⟩ = some (.int .i64 a0_6) := (blk_cell BK118.out 6).trans rfl; have hcz39_7 : w37.cell? ⟨gb118, 7, none⟩ = some (.slice A0_7 l0_7.length c0_7) := (blk_cell BK118.out 7).trans rfl; have hfz39_0 := blk_frozen BK118.out 0; have hfz39_1 := blk_frozen BK118.out 1; have hfz39_2 := blk_frozen BK118.out 2; have hfz39_3 := blk_frozen BK118.out 3; have hfz39_4 := blk_frozen BK118.out 4; have hfz39_5 := blk_frozen BK118.out 5; have hfz39_6 := blk_frozen BK118.out 6; have hfz39_7 := blk_frozen BK118.out 7; have hcz40_0 : w37.cell? ⟨gb119, 0, none⟩ = some (.string a1_0) := (blk_cell BK119.out 0).trans rfl; have hcz40_1 : w37.cell? ⟨gb119, 1, none⟩ = some (.string a1_1) := (blk_cell BK119.out 1).trans rfl; have hcz40_2 : w37.cell? ⟨gb119, 2, none⟩ = some (.string a1_2) := (blk_cell BK119.out 2).trans rfl; have hcz40_3 : w37.cell? ⟨gb119, 3, none⟩ = some (.string a1_3) := (blk_cell BK119.out 3).trans rfl; have hcz40_4 : w37.cell? ⟨gb119, 4, none⟩ = some (.string a1_4) := (blk_cell BK119.out 4).trans rfl; have hcz40_5 : w37.cell? ⟨gb119, 5, none⟩ = some (.string a1_5) := (blk_cell BK119.out 5).trans rfl; have hcz40_6 : w37.cell? ⟨gb119, 6, none⟩ = some (.int .i64 a1_6) := (blk_cell BK119.out 6).trans rfl; have hcz40_7 : w37.cell? ⟨gb119, 7, none⟩ = some (.slice A1_7 l1_7.length c1_7) := (blk_cell BK119.out 7).trans rfl; have hfz40_0 := blk_frozen BK119.out 0; have hfz40_1 := blk_frozen BK119.out 1; have hfz40_2 := blk_frozen BK119.out 2; have hfz40_3 := blk_frozen BK119.out 3; have hfz40_4 := blk_frozen BK119.out 4; have hfz40_5 := blk_frozen BK119.out 5; have hfz40_6 := blk_frozen BK119.out 6; have hfz40_7 := blk_frozen BK119.out 7))
go_ret
exact ⟨by first | rfl | (simp [errW_none, errW_some] <;> rfl) | (simp [*, errW_none, errW_some] <;> rfl), by repeat (first | (with_reducible first | exact HB.out | apply below_alloc | apply pw_below_drewN | apply below_drew1 | refine below_set ?_ GE118.out | refine below_set ?_ GE119.out) | exact HB.out)⟩
)
)
·(
rw [if_neg c4] at H
have c4b0 : (a0_1.toList == a1_1.toList) = false := beq_eq_false_iff_ne.mpr c4
have c4b1 : (a0_1.toList != a1_1.toList) = true := bne_iff_ne.mpr c4
obtain rfl := Option.some.inj H
go_enter Try.func17, Try.ntmps17
go_wp2_with (first | ((with_reducible refine gate_dst (N := 2) rfl ?_); refine box_event ?hg (N := 2) ?hd (cs := #[.string a0_0, .string a0_1, .string a0_2, .string a0_3, .string a0_4, .string a0_5, .int .i64 a0_6, .slice A0_7 l0_7.length c0_7]) (t := 24) ?hr ?_; (case hd => rfl); (case hg => rfl); (case hr => first | (go_simp; done) | (go_simp; rfl)); intro gb118 hg w41 hbox hb; have n0_ := Aside0.mk (below_step (by repeat (first | (with_reducible first | exact HB.out | apply below_alloc | apply pw_below_drewN | apply below_drew1) | exact HB.out)) hb); have n1_ := Aside0.mk (hbox); have n2_ := Aside0.mk ((by rw [hg]; exact (below_size (by repeat (first | (with_reducible first | exact HB.out | apply below_alloc | apply pw_below_drewN | apply below_drew1) | exact HB.out))) : w.heap.size ≤ gb118)); have n3_ := Aside0.mk ((by rw [hg]; exact (below_size (by repeat (first | (with_reducible first | exact HB.out | apply below_alloc | apply pw_below_drewN | apply below_drew1) | exact HB.out))) : w.heap.size ≤ gb118)); clear HB; have HB := n0_; have BK118 := n1_; have GW118 := n2_; have GE118 := n3_; clear n0_ n1_ n2_ n3_; clear hb hbox hg) | ((with_reducible refine gate_dst (N := 3) rfl ?_); refine box_event ?hg (N := 3) ?hd (cs := #[.string a1_0, .string a1_1, .string a1_2, .string a1_3, .string a1_4, .string a1_5, .int .i64 a1_6, .slice A1_7 l1_7.length c1_7]) (t := 24) ?hr ?_; (case hd => rfl); (case hg => rfl); (case hr => first | (go_simp; done) | (go_simp; rfl)); intro gb119 hg w42 hbox hb; have n0_ := Aside0.mk (blk_below (g := gb118) (o := .cells #[.string a0_0, .string a0_1, .string a0_2, .string a0_3, .string a0_4, .string a0_5, .int .i64 a0_6, .slice A0_7 l0_7.length c0_7] 24 (0, 0)) (by (with_reducible repeat (first | refine blk_drewN ?_ _ | refine blk_drew ?_ | refine blk_alloc ?_ _)); exact BK118.out) hb); have n1_ := Aside0.mk (below_step (by repeat (first | (with_reducible first | exact HB.out | apply below_alloc | apply pw_below_drewN | apply below_drew1 | refine below_set ?_ GE118.out) | exact HB.out)) hb); have n2_ := Aside0.mk (hbox); have n3_ := Aside0.mk ((by rw [hg]; exact (below_size (by repeat (first | (with_reducible first | exact HB.out | apply below_alloc | apply pw_below_drewN | apply below_drew1 | refine below_set ?_ GE118.out) | exact HB.out))) : w.heap.size ≤ gb119)); have n4_ := Aside0.mk ((by rw [hg]; exact (below_size (by repeat (first | (with_reducible first | exact HB.out | apply below_alloc | apply pw_below_drewN | apply below_drew1 | refine below_set ?_ GE118.out) | exact HB.out))) : w.heap.size ≤ gb119)); have n5_ := Aside0.mk ((by rw [hg]; exact Nat.ne_of_lt (blk_lt (g := gb118) (o := .cells #[.string a0_0, .string a0_1, .string a0_2, .string a0_3, .string a0_4, .string a0_5, .int .i64 a0_6, .slice A0_7 l0_7.length c0_7] 24 (0, 0)) (by (with_reducible repeat (first | refine blk_drewN ?_ _ | refine blk_drew ?_ | refine blk_alloc ?_ _)); exact BK118.out)) : gb118 ≠ gb119)); have n6_ := Aside0.mk ((by rw [hg]; exact Nat.ne_of_gt (blk_lt (g := gb118) (o := .cells #[.string a0_0, .string a0_1, .string a0_2, .string a0_3, .string a0_4, .string a0_5, .int .i64 a0_6, .slice A0_7 l0_7.length c0_7] 24 (0, 0)) (by (with_reducible repeat (first | refine blk_drewN ?_ _ | refine blk_drew ?_ | refine blk_alloc ?_ _)); exact BK118.out)) : gb119 ≠ gb118)); clear BK118; clear HB; have BK118 := n0_; have HB := n1_; have BK119 := n2_; have GW119 := n3_; have GE119 := n4_; have NB118_119 := n5_; have NB119_118 := n6_; clear n0_ n1_ n2_ n3_ n4_ n5_ n6_; clear hb hbox hg; have hnb43 := NB118_119.out; have hnc43 := NB119_118.out; have hcz44_0 : w42.cell? ⟨gb118, 0, none⟩ = some (.string a0_0) := (blk_cell BK118.out 0).trans rfl; have hcz44_1 : w42.cell? ⟨gb118, 1, none⟩ = some (.string a0_1) := (blk_cell BK118.out 1).trans rfl; have hcz44_2 : w42.cell? ⟨gb118, 2, none⟩ = some (.string a0_2) := (blk_cell BK118.out 2).trans rfl; have hcz44_3 : w42.cell? ⟨gb118, 3, none⟩ = some (.string a0_3) := (blk_cell BK118.out 3).trans rfl; have hcz44_4 : w42.cell? ⟨gb118, 4, none⟩ = some (.string a0_4) := (blk_cell BK118.out 4).trans rfl; have hcz44_5 : w42.cell? ⟨gb118, 5, none⟩ = some (.string a0_5) := (blk_cell BK118.out 5).trans rfl; have hcz44_6 : w42.cell? ⟨gb118, 6, none⟩ = some (.int .i64 a0_6) := (blk_cell BK118.out 6).trans rfl; have hcz44_7 : w42.cell? ⟨gb118, 7, none⟩ = some (.slice A0_7 l0_7.length c0_7) := (blk_cell BK118.out 7).trans rfl; have hfz44_0 := blk_frozen BK118.out 0; have hfz44_1 := blk_frozen BK118.out 1; have hfz44_2 := blk_frozen BK118.out 2; have hfz44_3 := blk_frozen BK118.out 3; have hfz44_4 := blk_frozen BK118.out 4; have hfz44_5 := blk_frozen BK118.out 5; have hfz44_6 := blk_frozen BK118.out 6; have hfz44_7 := blk_frozen BK118.out 7; have hcz45_0 : w42.cell? ⟨gb119, 0, none⟩ = some (.string a1_0) := (blk_cell BK119.out 0).trans rfl; have hcz45_1 : w42.cell? ⟨gb119, 1, none⟩ = some (.string a1_1) := (blk_cell BK119.out 1).trans rfl; have hcz45_2 : w42.cell? ⟨gb119, 2, none⟩ = some (.string a1_2) := (blk_cell BK119.out 2).trans rfl; have hcz45_3 : w42.cell? ⟨gb119, 3, none⟩ = some (.string a1_3) := (blk_cell BK119.out 3).trans rfl; have hcz45_4 : w42.cell? ⟨gb119, 4, none⟩ = some (.string a1_4) := (blk_cell BK119.out 4).trans rfl; have hcz45_5 : w42.cell? ⟨gb119, 5, none⟩ = some (.string a1_5) := (blk_cell BK119.out 5).trans rfl; have hcz45_6 : w42.cell? ⟨gb119, 6, none⟩ = some (.int .i64 a1_6) := (blk_cell BK119.out 6).trans rfl; have hcz45_7 : w42.cell? ⟨gb119, 7, none⟩ = some (.slice A1_7 l1_7.length c1_7) := (blk_cell BK119.out 7).trans rfl; have hfz45_0 := blk_frozen BK119.out 0; have hfz45_1 := blk_frozen BK119.out 1; have hfz45_2 := blk_frozen BK119.out 2; have hfz45_3 := blk_frozen BK119.out 3; have hfz45_4 := blk_frozen BK119.out 4; have hfz45_5 := blk_frozen BK119.out 5; have hfz45_6 := blk_frozen BK119.out 6; have hfz45_7 := blk_frozen BK119.out 7))
go_ret
exact ⟨by first | rfl | (simp [errW_none, errW_some] <;> rfl) | (simp [*, errW_none, errW_some] <;> rfl), by repeat (first | (with_reducible first | exact HB.out | apply below_alloc | apply pw_below_drewN | apply below_drew1 | refine below_set ?_ GE118.out | refine below_set ?_ GE119.out) | exact HB.out)⟩
)
)
 ·(
rw [if_neg c3] at H
have c3b0 : (a0_0.toList == a1_0.toList) = false := beq_eq_false_iff_ne.mpr c3
have c3b1 : (a0_0.toList != a1_0.toList) = true := bne_iff_ne.mpr c3
obtain rfl := Option.some.inj H
go_enter Try.func17, Try.ntmps17
go_wp2_with (first | ((with_reducible refine gate_dst (N := 2) rfl ?_); refine box_event ?hg (N := 2) ?hd (cs := #[.string a0_0, .string a0_1, .string a0_2, .string a0_3, .string a0_4, .string a0_5, .int .i64 a0_6, .slice A0_7 l0_7.length c0_7]) (t := 24) ?hr ?_; (case hd => rfl); (case hg => rfl); (case hr => first | (go_simp; done) | (go_simp; rfl)); intro gb118 hg w46 hbox hb; have n0_ := Aside0.mk (below_step (by repeat (first | (with_reducible first | exact HB.out | apply below_alloc | apply pw_below_drewN | apply below_drew1) | exact HB.out)) hb); have n1_ := Aside0.mk (hbox); have n2_ := Aside0.mk ((by rw [hg]; exact (below_size (by repeat (first | (with_reducible first | exact HB.out | apply below_alloc | apply pw_below_drewN | apply below_drew1) | exact HB.out))) : w.heap.size ≤ gb118)); have n3_ := Aside0.mk ((by rw [hg]; exact (below_size (by repeat (first | (with_reducible first | exact HB.out | apply below_alloc | apply pw_below_drewN | apply below_drew1) | exact HB.out))) : w.heap.size ≤ gb118)); clear HB; have HB := n0_; have BK118 := n1_; have GW118 := n2_; have GE118 := n3_; clear n0_ n1_ n2_ n3_; clear hb hbox hg) | ((with_reducible refine gate_dst (N := 3) rfl ?_); refine box_event ?hg (N := 3) ?hd (cs := #[.string a1_0, .string a1_1, .string a1_2, .string a1_3, .string a1_4, .string a1_5, .int .i64 a1_6, .slice A1_7 l1_7.length c1_7]) (t := 24) ?hr ?_; (case hd => rfl); (case hg => rfl); (case hr => first | (go_simp; done) | (go_simp; rfl)); intro gb119 hg w47 hbox hb; have n0_ := Aside0.mk (blk_below (g := gb118) (o := .cells #[.string a0_0, .string a0_1, .string a0_2, .string a0_3, .string a0_4, .string a0_5, .int .i64 a0_6, .slice A0_7 l0_7.length c0_7] 24 (0, 0)) (by (with_reducible repeat (first | refine blk_drewN ?_ _ | refine blk_drew ?_ | refine blk_alloc ?_ _)); exact BK118.out) hb); have n1_ := Aside0.mk (below_step (by repeat (first | (with_reducible first | exact HB.out | apply below_alloc | apply pw_below_drewN | apply below_drew1 | refine below_set ?_ GE118.out) | exact HB.out)) hb); have n2_ := Aside0.mk (hbox); have n3_ := Aside0.mk ((by rw [hg]; exact (below_size (by repeat (first | (with_reducible first | exact HB.out | apply below_alloc | apply pw_below_drewN | apply below_drew1 | refine below_set ?_ GE118.out) | exact HB.out))) : w.heap.size ≤ gb119)); have n4_ := Aside0.mk ((by rw [hg]; exact (below_size (by repeat (first | (with_reducible first | exact HB.out | apply below_alloc | apply pw_below_drewN | apply below_drew1 | refine below_set ?_ GE118.out) | exact HB.out))) : w.heap.size ≤ gb119)); have n5_ := Aside0.mk ((by rw [hg]; exact Nat.ne_of_lt (blk_lt (g := gb118) (o := .cells #[.string a0_0, .string a0_1, .string a0_2, .string a0_3, .string a0_4, .string a0_5, .int .i64 a0_6, .slice A0_7 l0_7.length c0_7] 24 (0, 0)) (by (with_reducible repeat (first | refine blk_drewN ?_ _ | refine blk_drew ?_ | refine blk_alloc ?_ _)); exact BK118.out)) : gb118 ≠ gb119)); have n6_ := Aside0.mk ((by rw [hg]; exact Nat.ne_of_gt (blk_lt (g := gb118) (o := .cells #[.string a0_0, .string a0_1, .string a0_2, .string a0_3, .string a0_4, .string a0_5, .int .i64 a0_6, .slice A0_7 l0_7.length c0_7] 24 (0, 0)) (by (with_reducible repeat (first | refine blk_drewN ?_ _ | refine blk_drew ?_ | refine blk_alloc ?_ _)); exact BK118.out)) : gb119 ≠ gb118)); clear BK118; clear HB; have BK118 := n0_; have HB := n1_; have BK119 := n2_; have GW119 := n3_; have GE119 := n4_; have NB118_119 := n5_; have NB119_118 := n6_; clear n0_ n1_ n2_ n3_ n4_ n5_ n6_; clear hb hbox hg; have hnb48 := NB118_119.out; have hnc48 := NB119_118.out; have hcz49_0 : w47.cell? ⟨gb118, 0, none⟩ = some (.string a0_0) := (blk_cell BK118.out 0).trans rfl; have hcz49_1 : w47.cell? ⟨gb118, 1, none⟩ = some (.string a0_1) := (blk_cell BK118.out 1).trans rfl; have hcz49_2 : w47.cell? ⟨gb118, 2, none⟩ = some (.string a0_2) := (blk_cell BK118.out 2).trans rfl; have hcz49_3 : w47.cell? ⟨gb118, 3, none⟩ = some (.string a0_3) := (blk_cell BK118.out 3).trans rfl; have hcz49_4 : w47.cell? ⟨gb118, 4, none⟩ = some (.string a0_4) := (blk_cell BK118.out 4).trans rfl; have hcz49_5 : w47.cell? ⟨gb118, 5, none⟩ = some (.string a0_5) := (blk_cell BK118.out 5).trans rfl; have hcz49_6 : w47.cell? ⟨gb118, 6, none⟩ = some (.int .i64 a0_6) := (blk_cell BK118.out 6).trans rfl; have hcz49_7 : w47.cell? ⟨gb118, 7, none⟩ = some (.slice A0_7 l0_7.length c0_7) := (blk_cell BK118.out 7).trans rfl; have hfz49_0 := blk_frozen BK118.out 0; have hfz49_1 := blk_frozen BK118.out 1; have hfz49_2 := blk_frozen BK118.out 2; have hfz49_3 := blk_frozen BK118.out 3; have hfz49_4 := blk_frozen BK118.out 4; have hfz49_5 := blk_frozen BK118.out 5; have hfz49_6 := blk_frozen BK118.out 6; have hfz49_7 := blk_frozen BK118.out 7; have hcz50_0 : w47.cell? ⟨gb119, 0, none⟩ = some (.string a1_0) := (blk_cell BK119.out 0).trans rfl; have hcz50_1 : w47.cell? ⟨gb119, 1, none⟩ = some (.string a1_1) := (blk_cell BK119.out 1).trans rfl; have hcz50_2 : w47.cell? ⟨gb119, 2, none⟩ = some (.string a1_2) := (blk_cell BK119.out 2).trans rfl; have hcz50_3 : w47.cell? ⟨gb119, 3, none⟩ = some (.string a1_3) := (blk_cell BK119.out 3).trans rfl; have hcz50_4 : w47.cell? ⟨gb119, 4, none⟩ = some (.string a1_4) := (blk_cell BK119.out 4).trans rfl; have hcz50_5 : w47.cell? ⟨gb119, 5, none⟩ = some (.string a1_5) := (blk_cell BK119.out 5).trans rfl; have hcz50_6 : w47.cell? ⟨gb119, 6, none⟩ = some (.int .i64 a1_6) := (blk_cell BK119.out 6).trans rfl; have hcz50_7 : w47.cell? ⟨gb119, 7, none⟩ = some (.slice A1_7 l1_7.length c1_7) := (blk_cell BK119.out 7).trans rfl; have hfz50_0 := blk_frozen BK119.out 0; have hfz50_1 := blk_frozen BK119.out 1; have hfz50_2 := blk_frozen BK119.out 2; have hfz50_3 := blk_frozen BK119.out 3; have hfz50_4 := blk_frozen BK119.out 4; have hfz50_5 := blk_frozen BK119.out 5; have hfz50_6 := blk_frozen BK119.out 6; have hfz50_7 := blk_frozen BK119.out 7))
go_ret
exact ⟨by first | rfl | (simp [errW_none, errW_some] <;> rfl) | (simp [*, errW_none, errW_some] <;> rfl), by repeat (first | (with_reducible first | exact HB.out | apply below_alloc | apply pw_below_drewN | apply below_drew1 | refine below_set ?_ GE118.out | refine below_set ?_ GE119.out) | exact HB.out)⟩
)

-- NOT PRINTED: function 51 (slices_Min_int_int)

def cmp_isNaN_int.f (a0 : Int) : Option (Bool) := some (a0 != a0)
set_option maxHeartbeats 8000000 in
set_option maxRecDepth 100000 in
theorem cmp_isNaN_int.calls (a0 : Int) (r : Bool) (w : World) (h : cmp_isNaN_int.f a0 = some r) :
  Calls Try.prog 136 #[.int .i64 a0] w fun e w' => e = .returned (.bool r) ∧ Drawn0 w w' := by
 have H : (some (a0 != a0)) = some r := h
 clear h
 obtain rfl := Option.some.inj H
 go_enter Try.func136, Try.ntmps136
 go_wp2
 go_ret
 exact ⟨by first | rfl | (simp; done) | (simp [*]; done), by repeat (first | exact Drawn0.refl _ | apply Drawn0.step)⟩

def cmp_Less_int.f (a0 : Int) (a1 : Int) : Option (Bool) := (cmp_isNaN_int.f a0).bind fun t121 => (if t121 = true then ((cmp_isNaN_int.f a1).bind fun t122 => (if t122 = true then (some (decide (a0 < a1))) else (some true))) else (some (decide (a0 < a1))))
set_option maxHeartbeats 8000000 in
set_option maxRecDepth 100000 in
theorem cmp_Less_int.calls (a0 : Int) (a1 : Int) (r : Bool) (w : World) (h : cmp_Less_int.f a0 a1 = some r) :
  Calls Try.prog 88 #[.int .i64 a0, .int .i64 a1] w fun e w' => e = .returned (.bool r) ∧ Drawn0 w w' := by
 have H : ((cmp_isNaN_int.f a0).bind fun t121 => (if t121 = true then ((cmp_isNaN_int.f a1).bind fun t122 => (if t122 = true then (some (decide (a0 < a1))) else (some true))) else (some (decide (a0 < a1))))) = some r := h
 clear h
 replace H := Option.bind_eq_some_iff.mp H
 obtain ⟨t121, A30, H⟩ := H
 replace H : (if t121 = true then ((cmp_isNaN_int.f a1).bind fun t122 => (if t122 = true then (some (decide (a0 < a1))) else (some true))) else (some (decide (a0 < a1)))) = some r := H
 have A3 := Aside0.mk A30
 clear A30
 by_cases c4 : t121 = true
 ·(
subst c4
have H1 : ((cmp_isNaN_int.f a1).bind fun t122 => (if t122 = true then (some (decide (a0 < a1))) else (some true))) = some r := by rw [if_pos rfl] at H; exact H
clear H
have H := H1
clear H1
replace H := Option.bind_eq_some_iff.mp H
obtain ⟨t122, A50, H⟩ := H
replace H : (if t122 = true then (some (decide (a0 < a1))) else (some true)) = some r := H
have A5 := Aside0.mk A50
clear A50
by_cases c6 : t122 = true
·(
subst c6
have H1 : (some (decide (a0 < a1))) = some r := by rw [if_pos rfl] at H; exact H
clear H
have H := H1
clear H1
obtain rfl := Option.some.inj H
go_enter Try.func88, Try.ntmps88
go_wp2_with (first | ((with_reducible refine gate_callee (f := 136) rfl ?_); refine goesL_ (some 6) rfl rfl Try.func136 (by kernel_rfl) rfl #[.int .i64 a0] rfl (by (try simp only [List.map_toArray, List.map_cons, List.map_nil]); first | done | rfl | (simp only [List.length_drop, List.length_take]; rfl)) ?_; (with_reducible refine (cmp_isNaN_int.calls a0 true _ A3.out).mono ?_); rintro e w' ⟨rfl, ⟨nd, rfl⟩⟩; refine ⟨_, rfl, ?_⟩) | (go_at_call 136; (with_reducible refine (cmp_isNaN_int.calls a1 true _ A5.out).mono ?_); rintro e w' ⟨rfl, ⟨nd, rfl⟩⟩))
go_ret
exact ⟨by first | rfl | (simp; done) | (simp [*]; done), by repeat (first | exact Drawn0.refl _ | apply Drawn0.step)⟩
)
·(
replace c6 := Bool.eq_false_iff.mpr c6
subst c6
have H1 : (some true) = some r := by rw [if_neg (show ¬ (false = true) by decide)] at H; exact H
clear H
have H := H1
clear H1
obtain rfl := Option.some.inj H
go_enter Try.func88, Try.ntmps88
go_wp2_with (first | ((with_reducible refine gate_callee (f := 136) rfl ?_); refine goesL_ (some 6) rfl rfl Try.func136 (by kernel_rfl) rfl #[.int .i64 a0] rfl (by (try simp only [List.map_toArray, List.map_cons, List.map_nil]); first | done | rfl | (simp only [List.length_drop, List.length_take]; rfl)) ?_; (with_reducible refine (cmp_isNaN_int.calls a0 true _ A3.out).mono ?_); rintro e w' ⟨rfl, ⟨nd, rfl⟩⟩; refine ⟨_, rfl, ?_⟩) | (go_at_call 136; (with_reducible refine (cmp_isNaN_int.calls a1 false _ A5.out).mono ?_); rintro e w' ⟨rfl, ⟨nd, rfl⟩⟩))
go_ret
exact ⟨by first | rfl | (simp; done) | (simp [*]; done), by repeat (first | exact Drawn0.refl _ | apply Drawn0.step)⟩
)
)
 ·(
replace c4 := Bool.eq_false_iff.mpr c4
subst c4
have H1 : (some (decide (a0 < a1))) = some r := by rw [if_neg (show ¬ (false = true) by decide)] at H; exact H
clear H
have H := H1
clear H1
obtain rfl := Option.some.inj H
go_enter Try.func88, Try.ntmps88
go_wp2_with (first | ((with_reducible refine gate_callee (f := 136) rfl ?_); refine goesL_ (some 6) rfl rfl Try.func136 (by kernel_rfl) rfl #[.int .i64 a0] rfl (by (try simp only [List.map_toArray, List.map_cons, List.map_nil]); first | done | rfl | (simp only [List.length_drop, List.length_take]; rfl)) ?_; (with_reducible refine (cmp_isNaN_int.calls a0 false _ A3.out).mono ?_); rintro e w' ⟨rfl, ⟨nd, rfl⟩⟩; refine ⟨_, rfl, ?_⟩))
go_ret
exact ⟨by first | rfl | (simp; done) | (simp [*]; done), by repeat (first | exact Drawn0.refl _ | apply Drawn0.step)⟩
)

end Go.Proofs.Ytlhaaccdiienbaa.X
