-- Written for this claim by programs of this session (wip/tools/xprint.py, turnCut.py) out of the translation.
import Derived.Test.YtlhaaccdiienbaaX0
import Derived.Test.YtlhaaccdiienbaaEAsk
namespace Go.Proofs.Ytlhaaccdiienbaa.X
open Go.RowKit Go.Proofs.YtlhaaccdiienbaaW.PrintWords Go.Proofs.YtlhaaccdiienbaaW.PrintLast Go.Proofs.YtlhaaccdiienbaaW.PrintMore
attribute [local go_sem] max2_int min2_int max_two min_two max_three min_three max_four min_four   -- for this text's walks alone
set_option linter.unusedVariables false
set_option linter.unusedSimpArgs false

mutual
def order_Cut.l0 : Nat → List (S42) → List (List Int) → Int → Int → ByteArray → ByteArray → ByteArray → ByteArray → ByteArray → ByteArray → Int → List (S65) → List Int → Option ((List (S42)) × Int)
 | 0, _, _, _, _, _, _, _, _, _, _, _, _, _ => none
 | k + 1, x9, x32, x33, x34, x133000, x133001, x133002, x133003, x133004, x133005, x133006, x133007, x134000 => if x34 < x33 then (if 0 ≤ x34 then (if x34 < (x32.length : Int) then (if x34 < (x134000.length : Int) then (order_Cut.l1 k x9 x32 x33 x34 (rd_L5 x32 x34) ((rd_L5 x32 x34).length : Int) 0 x133000 x133001 x133002 x133003 x133004 x133005 x133006 x133007 x134000 x133000 (wrap64 (x34 + 1)) (rd x134000 x34) ([] : List (S67))) else (none)) else (none)) else (none)) else (some (x9, 0))
def order_Cut.l1 : Nat → List (S42) → List (List Int) → Int → Int → List Int → Int → Int → ByteArray → ByteArray → ByteArray → ByteArray → ByteArray → ByteArray → Int → List (S65) → List Int → ByteArray → Int → Int → List (S67) → Option ((List (S42)) × Int)
 | 0, _, _, _, _, _, _, _, _, _, _, _, _, _, _, _, _, _, _, _, _ => none
 | k + 1, x9, x32, x33, x34, x48, x49, x50, x133000, x133001, x133002, x133003, x133004, x133005, x133006, x133007, x134000, x139000, x139001, x139002, x139003 => if x50 < x49 then (if 0 ≤ x50 then (if x50 < (x48.length : Int) then (if (rd x48 x50) > 0 then (if x50 < (x133007.length : Int) then (if x139003.length < 5864062014805 then (order_Cut.l1 k x9 x32 x33 x34 x48 x49 (wrap64 (x50 + 1)) x133000 x133001 x133002 x133003 x133004 x133005 x133006 x133007 x134000 x139000 x139001 x139002 (x139003 ++ [(⟨(rd_T65 x133007 x50).f0, rd x48 x50⟩ : S67)])) else (none)) else (none)) else (order_Cut.l1 k x9 x32 x33 x34 x48 x49 (wrap64 (x50 + 1)) x133000 x133001 x133002 x133003 x133004 x133005 x133006 x133007 x134000 x139000 x139001 x139002 x139003)) else (none)) else (none)) else (if x9.length < 2513169434916 then (order_Cut.l0 k (x9 ++ [(⟨x139000, x139001, x139002, x139003⟩ : S42)]) x32 x33 (wrap64 (x34 + 1)) x133000 x133001 x133002 x133003 x133004 x133005 x133006 x133007 x134000) else (none))
end
def order_Cut.f (k : Nat) (a0_0 : ByteArray) (a0_1 : ByteArray) (a0_2 : ByteArray) (a0_3 : ByteArray) (a0_4 : ByteArray) (a0_5 : ByteArray) (a0_6 : Int) (l0_7 : List (S65)) (l1 : List Int) (l2 : List (List Int)) : Option ((List (S42)) × Int) := (order_ask.f k a0_0 a0_1 a0_2 a0_3 a0_4 a0_5 a0_6 l0_7 l1 l2).bind fun t135 => (if t135 = 0 then (order_Cut.l0 k ([] : List (S42)) l2 (l2.length : Int) 0 a0_0 a0_1 a0_2 a0_3 a0_4 a0_5 a0_6 l0_7 l1) else (some (([] : List (S42)), t135)))
theorem order_Cut.mono_l : ∀ k, (∀ y0 y1 y2 y3 y4 y5 y6 y7 y8 y9 y10 y11 y12, LeO (order_Cut.l0 k y0 y1 y2 y3 y4 y5 y6 y7 y8 y9 y10 y11 y12) (order_Cut.l0 (k + 1) y0 y1 y2 y3 y4 y5 y6 y7 y8 y9 y10 y11 y12)) ∧ (∀ y0 y1 y2 y3 y4 y5 y6 y7 y8 y9 y10 y11 y12 y13 y14 y15 y16 y17 y18 y19, LeO (order_Cut.l1 k y0 y1 y2 y3 y4 y5 y6 y7 y8 y9 y10 y11 y12 y13 y14 y15 y16 y17 y18 y19) (order_Cut.l1 (k + 1) y0 y1 y2 y3 y4 y5 y6 y7 y8 y9 y10 y11 y12 y13 y14 y15 y16 y17 y18 y19))
 | 0 => ⟨fun _ _ _ _ _ _ _ _ _ _ _ _ _ r h => by simp [order_Cut.l0] at h, fun _ _ _ _ _ _ _ _ _ _ _ _ _ _ _ _ _ _ _ _ r h => by simp [order_Cut.l1] at h⟩
 | k + 1 => by
  obtain ⟨ih0, ih1⟩ := order_Cut.mono_l k
  refine ⟨?_, ?_⟩
  ·intro y0 y1 y2 y3 y4 y5 y6 y7 y8 y9 y10 y11 y12
   unfold order_Cut.l0
   repeat' first
   | (with_reducible exact ih0 _ _ _ _ _ _ _ _ _ _ _ _ _)
   | (with_reducible exact ih1 _ _ _ _ _ _ _ _ _ _ _ _ _ _ _ _ _ _ _ _)
   | (with_reducible exact order_ask.mono _ _ _ _ _ _ _ _ _ _ _)
   | (with_reducible exact LeO.refl _)
   | (with_reducible exact LeO.none _)
   | (with_reducible refine LeO.ite ?_ ?_)
   | (with_reducible refine LeO.bind ?_ (fun _ => ?_))
   | exact ih0 _ _ _ _ _ _ _ _ _ _ _ _ _
   | exact ih1 _ _ _ _ _ _ _ _ _ _ _ _ _ _ _ _ _ _ _ _
   | exact order_ask.mono _ _ _ _ _ _ _ _ _ _ _
   | exact LeO.none _
   | refine LeO.ite ?_ ?_
   | refine LeO.bind ?_ (fun _ => ?_)
  ·intro y0 y1 y2 y3 y4 y5 y6 y7 y8 y9 y10 y11 y12 y13 y14 y15 y16 y17 y18 y19
   unfold order_Cut.l1
   repeat' first
   | (with_reducible exact ih0 _ _ _ _ _ _ _ _ _ _ _ _ _)
   | (with_reducible exact ih1 _ _ _ _ _ _ _ _ _ _ _ _ _ _ _ _ _ _ _ _)
   | (with_reducible exact order_ask.mono _ _ _ _ _ _ _ _ _ _ _)
   | (with_reducible exact LeO.refl _)
   | (with_reducible exact LeO.none _)
   | (with_reducible refine LeO.ite ?_ ?_)
   | (with_reducible refine LeO.bind ?_ (fun _ => ?_))
   | exact ih0 _ _ _ _ _ _ _ _ _ _ _ _ _
   | exact ih1 _ _ _ _ _ _ _ _ _ _ _ _ _ _ _ _ _ _ _ _
   | exact order_ask.mono _ _ _ _ _ _ _ _ _ _ _
   | exact LeO.none _
   | refine LeO.ite ?_ ?_
   | refine LeO.bind ?_ (fun _ => ?_)
theorem order_Cut.mono : ∀ a0 a1 a2 a3 a4 a5 a6 a7 a8 a9 k, LeO (order_Cut.f k a0 a1 a2 a3 a4 a5 a6 a7 a8 a9) (order_Cut.f (k + 1) a0 a1 a2 a3 a4 a5 a6 a7 a8 a9) := by
 intro a0 a1 a2 a3 a4 a5 a6 a7 a8 a9 k
 obtain ⟨ih0, ih1⟩ := order_Cut.mono_l k
 unfold order_Cut.f
 repeat' first
   | (with_reducible exact ih0 _ _ _ _ _ _ _ _ _ _ _ _ _)
   | (with_reducible exact ih1 _ _ _ _ _ _ _ _ _ _ _ _ _ _ _ _ _ _ _ _)
   | (with_reducible exact order_ask.mono _ _ _ _ _ _ _ _ _ _ _)
   | (with_reducible exact LeO.refl _)
   | (with_reducible exact LeO.none _)
   | (with_reducible refine LeO.ite ?_ ?_)
   | (with_reducible refine LeO.bind ?_ (fun _ => ?_))
   | exact ih0 _ _ _ _ _ _ _ _ _ _ _ _ _
   | exact ih1 _ _ _ _ _ _ _ _ _ _ _ _ _ _ _ _ _ _ _ _
   | exact order_ask.mono _ _ _ _ _ _ _ _ _ _ _
   | exact LeO.none _
   | refine LeO.ite ?_ ?_
   | refine LeO.bind ?_ (fun _ => ?_)
def order_Cut.T8 : Bool × List (List Nat × List Nat) := (true, [([], []), ([0], [0]), ([], []), ([2], [2]), ([], []), ([], []), ([4, 5], [4, 5]), ([6], [6]), ([1, 3, 7], [1, 3, 7]), ([], []), ([9, 8, 0, 1, 2, 3, 4, 5, 6, 7, 8, 9], [8, 9])])
def order_Cut.B8 : List Nat := [0, 1, 0, 4, 0, 0, 48, 112, 255, 0, 1023]
theorem order_Cut.tab8 : rtab .any (opsOf Try.f19 8) = order_Cut.T8 := by kernel_rfl
theorem order_Cut.bits8 : waitsOk order_Cut.T8.2 order_Cut.B8 = true := by kernel_rfl
def order_Cut.T13 : Bool × List (List Nat × List Nat) := (true, [([], []), ([0], [0]), ([], []), ([2], [2]), ([], []), ([3, 4], [3, 4]), ([5], [5]), ([6], [6]), ([], []), ([7, 8], [7, 8]), ([9], [9]), ([1, 10], [1, 10]), ([0, 1, 2, 3, 4, 5, 6, 7, 8, 9, 10, 11], []), ([12, 11, 11, 0, 1, 2, 3, 4, 5, 6, 7, 8, 9, 10, 11], [11, 12])])
def order_Cut.B13 : List Nat := [0, 1, 0, 4, 0, 28, 60, 124, 0, 508, 1020, 2047, 4095, 8191]
theorem order_Cut.tab13 : rtab .any (opsOf Try.f19 13) = order_Cut.T13 := by kernel_rfl
theorem order_Cut.bits13 : waitsOk order_Cut.T13.2 order_Cut.B13 = true := by kernel_rfl
set_option maxHeartbeats 8000000 in
set_option maxRecDepth 100000 in
theorem order_Cut.calls (k : Nat) (a0_0 : ByteArray) (a0_1 : ByteArray) (a0_2 : ByteArray) (a0_3 : ByteArray) (a0_4 : ByteArray) (a0_5 : ByteArray) (a0_6 : Int) (A0_7 : Option Addr) (c0_7 : Nat) (l0_7 : List (S65)) (A1 : Option Addr) (c1 : Nat) (l1 : List Int) (A2 : Option Addr) (c2 : Nat) (l2 : List (List Int)) (r1 : List (S42)) (r2 : Int) (w : World) (hr0_7 : Kd.C k65 w A0_7 l0_7.length l0_7) (hc0_7 : l0_7.length ≤ c0_7) (hr1 : Kd.C (Kd.int .i64) w A1 l1.length l1) (hc1 : l1.length ≤ c1) (hr2 : Kd.C (Kd.slice 3 (Kd.int .i64)) w A2 l2.length l2) (hc2 : l2.length ≤ c2) (h : order_Cut.f k a0_0 a0_1 a0_2 a0_3 a0_4 a0_5 a0_6 l0_7 l1 l2 = some (r1, r2)) :
  Calls Try.prog 19 #[.agg #[.string a0_0, .string a0_1, .string a0_2, .string a0_3, .string a0_4, .string a0_5, .int .i64 a0_6, .slice A0_7 l0_7.length c0_7], .slice A1 l1.length c1, .slice A2 l2.length c2] w fun e w' => ∃ v0_ : Value, e = .returned (.tuple #[v0_, .int .i64 r2]) ∧ Kd.S k42 42 w' w.heap.size (fun _ => True) v0_ r1 ∧ Below w.heap.size w w' := by
 have hmf : ∀ (fn : Fn) (first cap : Array Value) (w : World), (Instr.makeFunc fn first cap).run Try.prog w = .ok (.func fn first cap) w := fun _ _ _ _ => rfl
 have hu24 := Try.underlying24
 have hu42 := Try.underlying42
 have hu67 := Try.underlying67
 have HR0_7 := Aside0.mk hr0_7
 have HC0_7 := Aside0.mk hc0_7
 clear hr0_7 hc0_7
 have HR1 := Aside0.mk hr1
 have HC1 := Aside0.mk hc1
 clear hr1 hc1
 have HR2 := Aside0.mk hr2
 have HC2 := Aside0.mk hc2
 clear hr2 hc2
 have HB := Aside0.mk (Below.refl w.heap.size w)
 have H : ((order_ask.f k a0_0 a0_1 a0_2 a0_3 a0_4 a0_5 a0_6 l0_7 l1 l2).bind fun t135 => (if t135 = 0 then (order_Cut.l0 k ([] : List (S42)) l2 (l2.length : Int) 0 a0_0 a0_1 a0_2 a0_3 a0_4 a0_5 a0_6 l0_7 l1) else (some (([] : List (S42)), t135)))) = some (r1, r2) := h
 clear h
 replace H := Option.bind_eq_some_iff.mp H
 obtain ⟨t135, A40, H⟩ := H
 replace H : (if t135 = 0 then (order_Cut.l0 k ([] : List (S42)) l2 (l2.length : Int) 0 a0_0 a0_1 a0_2 a0_3 a0_4 a0_5 a0_6 l0_7 l1) else (some (([] : List (S42)), t135))) = some (r1, r2) := H
 have A4 := Aside0.mk A40
 clear A40
 by_cases c5 : t135 = 0
 ·(
rw [if_pos c5] at H
have c5b0 : (t135 == 0) = true := beq_iff_eq.mpr c5
have c5b1 : (t135 != 0) = false := bne_eq_false_iff_eq.mpr c5
clear c5
have H' := Aside0.mk H
clear H
go_enter Try.func19, Try.ntmps19
go_wp2_with (first | ((with_reducible refine gate_dst (N := 3) rfl ?_); refine box_event ?hg (N := 3) ?hd (cs := #[.string a0_0, .string a0_1, .string a0_2, .string a0_3, .string a0_4, .string a0_5, .int .i64 a0_6, .slice A0_7 l0_7.length c0_7]) (t := 24) ?hr ?_; (case hd => rfl); (case hg => rfl); (case hr => first | (go_simp; done) | (go_simp; rfl)); intro gb132 hg w6 hbox hb; have n0_ := Aside0.mk (below_step (by repeat (first | (with_reducible first | exact HB.out | apply below_alloc | apply pw_below_drewN | apply below_drew1) | exact HB.out)) hb); have n1_ := Aside0.mk (hbox); have n2_ := Aside0.mk ((by rw [hg]; exact (below_size (by repeat (first | (with_reducible first | exact HB.out | apply below_alloc | apply pw_below_drewN | apply below_drew1) | exact HB.out))) : w.heap.size ≤ gb132)); have n3_ := Aside0.mk ((by rw [hg]; exact (below_size (by repeat (first | (with_reducible first | exact HB.out | apply below_alloc | apply pw_below_drewN | apply below_drew1) | exact HB.out))) : w.heap.size ≤ gb132)); clear HB; have HB := n0_; have BK132 := n1_; have GW132 := n2_; have GE132 := n3_; clear n0_ n1_ n2_ n3_; clear hb hbox hg) | ((with_reducible refine gate_dst (N := 4) rfl ?_); refine box_event ?hg (N := 4) ?hd (cs := #[.slice A1 l1.length c1]) (t := 32) ?hr ?_; (case hd => rfl); (case hg => rfl); (case hr => first | (go_simp; done) | (go_simp; rfl)); intro gb133 hg w7 hbox hb; have n0_ := Aside0.mk (blk_below (g := gb132) (o := .cells #[.string a0_0, .string a0_1, .string a0_2, .string a0_3, .string a0_4, .string a0_5, .int .i64 a0_6, .slice A0_7 l0_7.length c0_7] 24 (0, 0)) (by (with_reducible repeat (first | refine blk_drewN ?_ _ | refine blk_drew ?_ | refine blk_alloc ?_ _)); exact BK132.out) hb); have n1_ := Aside0.mk (below_step (by repeat (first | (with_reducible first | exact HB.out | apply below_alloc | apply pw_below_drewN | apply below_drew1 | refine below_set ?_ GE132.out) | exact HB.out)) hb); have n2_ := Aside0.mk (hbox); have n3_ := Aside0.mk ((by rw [hg]; exact (below_size (by repeat (first | (with_reducible first | exact HB.out | apply below_alloc | apply pw_below_drewN | apply below_drew1 | refine below_set ?_ GE132.out) | exact HB.out))) : w.heap.size ≤ gb133)); have n4_ := Aside0.mk ((by rw [hg]; exact (below_size (by repeat (first | (with_reducible first | exact HB.out | apply below_alloc | apply pw_below_drewN | apply below_drew1 | refine below_set ?_ GE132.out) | exact HB.out))) : w.heap.size ≤ gb133)); have n5_ := Aside0.mk ((by rw [hg]; exact Nat.ne_of_lt (blk_lt (g := gb132) (o := .cells #[.string a0_0, .string a0_1, .string a0_2, .string a0_3, .string a0_4, .string a0_5, .int .i64 a0_6, .slice A0_7 l0_7.length c0_7] 24 (0, 0)) (by (with_reducible repeat (first | refine blk_drewN ?_ _ | refine blk_drew ?_ | refine blk_alloc ?_ _)); exact BK132.out)) : gb132 ≠ gb133)); have n6_ := Aside0.mk ((by rw [hg]; exact Nat.ne_of_gt (blk_lt (g := gb132) (o := .cells #[.string a0_0, .string a0_1, .string a0_2, .string a0_3, .string a0_4, .string a0_5, .int .i64 a0_6, .slice A0_7 l0_7.length c0_7] 24 (0, 0)) (by (with_reducible repeat (first | refine blk_drewN ?_ _ | refine blk_drew ?_ | refine blk_alloc ?_ _)); exact BK132.out)) : gb133 ≠ gb132)); clear BK132; clear HB; have BK132 := n0_; have HB := n1_; have BK133 := n2_; have GW133 := n3_; have GE133 := n4_; have NB132_133 := n5_; have NB133_132 := n6_; clear n0_ n1_ n2_ n3_ n4_ n5_ n6_; clear hb hbox hg) | ((with_reducible refine gate_dst (N := 5) rfl ?_); refine box_event ?hg (N := 5) ?hd (cs := #[.slice A2 l2.length c2]) (t := 33) ?hr ?_; (case hd => rfl); (case hg => rfl); (case hr => first | (go_simp; done) | (go_simp; rfl)); intro gb134 hg w8 hbox hb; have n0_ := Aside0.mk (blk_below (g := gb132) (o := .cells #[.string a0_0, .string a0_1, .string a0_2, .string a0_3, .string a0_4, .string a0_5, .int .i64 a0_6, .slice A0_7 l0_7.length c0_7] 24 (0, 0)) (by (with_reducible repeat (first | refine blk_drewN ?_ _ | refine blk_drew ?_ | refine blk_alloc ?_ _)); exact BK132.out) hb); have n1_ := Aside0.mk (blk_below (g := gb133) (o := .cells #[.slice A1 l1.length c1] 32 (0, 0)) (by (with_reducible repeat (first | refine blk_drewN ?_ _ | refine blk_drew ?_ | refine blk_alloc ?_ _)); exact BK133.out) hb); have n2_ := Aside0.mk (below_step (by repeat (first | (with_reducible first | exact HB.out | apply below_alloc | apply pw_below_drewN | apply below_drew1 | refine below_set ?_ GE132.out | refine below_set ?_ GE133.out) | exact HB.out)) hb); have n3_ := Aside0.mk (hbox); have n4_ := Aside0.mk ((by rw [hg]; exact (below_size (by repeat (first | (with_reducible first | exact HB.out | apply below_alloc | apply pw_below_drewN | apply below_drew1 | refine below_set ?_ GE132.out | refine below_set ?_ GE133.out) | exact HB.out))) : w.heap.size ≤ gb134)); have n5_ := Aside0.mk ((by rw [hg]; exact (below_size (by repeat (first | (with_reducible first | exact HB.out | apply below_alloc | apply pw_below_drewN | apply below_drew1 | refine below_set ?_ GE132.out | refine below_set ?_ GE133.out) | exact HB.out))) : w.heap.size ≤ gb134)); have n6_ := Aside0.mk ((by rw [hg]; exact Nat.ne_of_lt (blk_lt (g := gb132) (o := .cells #[.string a0_0, .string a0_1, .string a0_2, .string a0_3, .string a0_4, .string a0_5, .int .i64 a0_6, .slice A0_7 l0_7.length c0_7] 24 (0, 0)) (by (with_reducible repeat (first | refine blk_drewN ?_ _ | refine blk_drew ?_ | refine blk_alloc ?_ _)); exact BK132.out)) : gb132 ≠ gb134)); have n7_ := Aside0.mk ((by rw [hg]; exact Nat.ne_of_gt (blk_lt (g := gb132) (o := .cells #[.string a0_0, .string a0_1, .string a0_2, .string a0_3, .string a0_4, .string a0_5, .int .i64 a0_6, .slice A0_7 l0_7.length c0_7] 24 (0, 0)) (by (with_reducible repeat (first | refine blk_drewN ?_ _ | refine blk_drew ?_ | refine blk_alloc ?_ _)); exact BK132.out)) : gb134 ≠ gb132)); have n8_ := Aside0.mk ((by rw [hg]; exact Nat.ne_of_lt (blk_lt (g := gb133) (o := .cells #[.slice A1 l1.length c1] 32 (0, 0)) (by (with_reducible repeat (first | refine blk_drewN ?_ _ | refine blk_drew ?_ | refine blk_alloc ?_ _)); exact BK133.out)) : gb133 ≠ gb134)); have n9_ := Aside0.mk ((by rw [hg]; exact Nat.ne_of_gt (blk_lt (g := gb133) (o := .cells #[.slice A1 l1.length c1] 32 (0, 0)) (by (with_reducible repeat (first | refine blk_drewN ?_ _ | refine blk_drew ?_ | refine blk_alloc ?_ _)); exact BK133.out)) : gb134 ≠ gb133)); clear BK132; clear BK133; clear HB; have BK132 := n0_; have BK133 := n1_; have HB := n2_; have BK134 := n3_; have GW134 := n4_; have GE134 := n5_; have NB132_134 := n6_; have NB134_132 := n7_; have NB133_134 := n8_; have NB134_133 := n9_; clear n0_ n1_ n2_ n3_ n4_ n5_ n6_ n7_ n8_ n9_; clear hb hbox hg; have hnb9 := NB132_133.out; have hnc9 := NB133_132.out; have hnb10 := NB132_134.out; have hnc10 := NB134_132.out; have hcz11_0 : w8.cell? ⟨gb132, 0, none⟩ = some (.string a0_0) := (blk_cell BK132.out 0).trans rfl; have hcz11_1 : w8.cell? ⟨gb132, 1, none⟩ = some (.string a0_1) := (blk_cell BK132.out 1).trans rfl; have hcz11_2 : w8.cell? ⟨gb132, 2, none⟩ = some (.string a0_2) := (blk_cell BK132.out 2).trans rfl; have hcz11_3 : w8.cell? ⟨gb132, 3, none⟩ = some (.string a0_3) := (blk_cell BK132.out 3).trans rfl; have hcz11_4 : w8.cell? ⟨gb132, 4, none⟩ = some (.string a0_4) := (blk_cell BK132.out 4).trans rfl; have hcz11_5 : w8.cell? ⟨gb132, 5, none⟩ = some (.string a0_5) := (blk_cell BK132.out 5).trans rfl; have hcz11_6 : w8.cell? ⟨gb132, 6, none⟩ = some (.int .i64 a0_6) := (blk_cell BK132.out 6).trans rfl; have hcz11_7 : w8.cell? ⟨gb132, 7, none⟩ = some (.slice A0_7 l0_7.length c0_7) := (blk_cell BK132.out 7).trans rfl; have hfz11_0 := blk_frozen BK132.out 0; have hfz11_1 := blk_frozen BK132.out 1; have hfz11_2 := blk_frozen BK132.out 2; have hfz11_3 := blk_frozen BK132.out 3; have hfz11_4 := blk_frozen BK132.out 4; have hfz11_5 := blk_frozen BK132.out 5; have hfz11_6 := blk_frozen BK132.out 6; have hfz11_7 := blk_frozen BK132.out 7; have hnb12 := NB133_134.out; have hnc12 := NB134_133.out; have hcz13_0 : w8.cell? ⟨gb133, 0, none⟩ = some (.slice A1 l1.length c1) := (blk_cell BK133.out 0).trans rfl; have hfz13_0 := blk_frozen BK133.out 0; have hcz14_0 : w8.cell? ⟨gb134, 0, none⟩ = some (.slice A2 l2.length c2) := (blk_cell BK134.out 0).trans rfl; have hfz14_0 := blk_frozen BK134.out 0) | (go_at_call 43; refine (ask_cut gb132 gb133 gb134 _ k a0_0 a0_1 a0_2 a0_3 a0_4 a0_5 a0_6 A0_7 c0_7 l0_7 A1 c1 l1 A2 c2 l2 t135 _ ?b0 ?b1 ?b2 ?bk ?side1 ?side2 ?side3 ?side4 ?side5 ?side6 A4.out).mono ?_; (case b0 => exact blk_alloc BK132.out _); (case b1 => exact blk_alloc BK133.out _); (case b2 => exact blk_alloc BK134.out _); (case bk => exact blk_new _ _); (case side1 => repeat (first | exact (Kd.C_below HR0_7.out HB.out) | (with_reducible refine Kd.C_alloc ?_ _) | (with_reducible refine Kd.C_drewN ?_ _) | (with_reducible refine Kd.C_drew ?_))); (case side2 => exact HC0_7.out); (case side3 => repeat (first | exact (Kd.C_below HR1.out HB.out) | (with_reducible refine Kd.C_alloc ?_ _) | (with_reducible refine Kd.C_drewN ?_ _) | (with_reducible refine Kd.C_drew ?_))); (case side4 => exact HC1.out); (case side5 => repeat (first | exact (Kd.C_below HR2.out HB.out) | (with_reducible refine Kd.C_alloc ?_ _) | (with_reducible refine Kd.C_drewN ?_ _) | (with_reducible refine Kd.C_drew ?_))); (case side6 => exact HC2.out); rintro e w15 ⟨rfl, hb⟩; have n0_ := Aside0.mk (blk_below (g := gb132) (o := .cells #[.string a0_0, .string a0_1, .string a0_2, .string a0_3, .string a0_4, .string a0_5, .int .i64 a0_6, .slice A0_7 l0_7.length c0_7] 24 (0, 0)) (by (with_reducible repeat (first | refine blk_drewN ?_ _ | refine blk_drew ?_ | refine blk_alloc ?_ _)); exact BK132.out) hb); have n1_ := Aside0.mk (blk_below (g := gb133) (o := .cells #[.slice A1 l1.length c1] 32 (0, 0)) (by (with_reducible repeat (first | refine blk_drewN ?_ _ | refine blk_drew ?_ | refine blk_alloc ?_ _)); exact BK133.out) hb); have n2_ := Aside0.mk (blk_below (g := gb134) (o := .cells #[.slice A2 l2.length c2] 33 (0, 0)) (by (with_reducible repeat (first | refine blk_drewN ?_ _ | refine blk_drew ?_ | refine blk_alloc ?_ _)); exact BK134.out) hb); have n3_ := Aside0.mk (below_step (by repeat (first | (with_reducible first | exact HB.out | apply below_alloc | apply pw_below_drewN | apply below_drew1 | refine below_set ?_ GE132.out | refine below_set ?_ GE133.out | refine below_set ?_ GE134.out) | exact HB.out)) hb); clear BK132; clear BK133; clear BK134; clear HB; have BK132 := n0_; have BK133 := n1_; have BK134 := n2_; have HB := n3_; clear n0_ n1_ n2_ n3_; (try clear hb); (try clear hb2); (try clear hk); (try clear hi); have hcz16_0 : w15.cell? ⟨gb134, 0, none⟩ = some (.slice A2 l2.length c2) := (blk_cell BK134.out 0).trans rfl; have hfz16_0 := blk_frozen BK134.out 0))
go_loopg [9, 34] k (fun kq v9 v34 w' => ∃ (x9_1 : List (S42)) (x34_1 : Int), v34 = .int .i64 x34_1 ∧ Aside0 (order_Cut.l0 kq x9_1 l2 (l2.length : Int) x34_1 a0_0 a0_1 a0_2 a0_3 a0_4 a0_5 a0_6 l0_7 l1 = some (r1, r2)) ∧ Aside0 (kq ≤ k) ∧ Aside0 (Kd.S k42 42 w' w.heap.size (fun _ => True) v9 x9_1) ∧ Aside0 (w'.heap[gb132]? = some (.cells #[.string a0_0, .string a0_1, .string a0_2, .string a0_3, .string a0_4, .string a0_5, .int .i64 a0_6, (.slice A0_7 l0_7.length c0_7)] 24 (0, 0))) ∧ Aside0 (w'.heap[gb133]? = some (.cells #[(.slice A1 l1.length c1)] 32 (0, 0))) ∧ Aside0 (w'.heap[gb134]? = some (.cells #[(.slice A2 l2.length c2)] 33 (0, 0))) ∧ Aside0 (Below w.heap.size w w'))
case atStart => exact ⟨(([] : List (S42))), (0), (by first | rfl | (simp; done) | (simp [*]; done)), H', ⟨Nat.le_refl _⟩, ⟨by first | exact Kd.S_nil _ _ _ _ _ | exact Kd.N_nil _ _ _ _ _ | exact Kd.V_nil _ _ _ _ _ | exact Kd.Q_nil _ _ _ _ _ | exact Kd.R_nil _ _ _ _ _⟩, ⟨by (with_reducible repeat (first | refine blk_drewN ?_ _ | refine blk_drew ?_ | refine blk_alloc ?_ _)); exact BK132.out⟩, ⟨by (with_reducible repeat (first | refine blk_drewN ?_ _ | refine blk_drew ?_ | refine blk_alloc ?_ _)); exact BK133.out⟩, ⟨by (with_reducible repeat (first | refine blk_drewN ?_ _ | refine blk_drew ?_ | refine blk_alloc ?_ _)); exact BK134.out⟩, ⟨by repeat (first | (with_reducible first | exact HB.out | apply below_alloc | apply pw_below_drewN | apply below_drew1 | refine below_set ?_ GE132.out | refine below_set ?_ GE133.out | refine below_set ?_ GE134.out) | exact HB.out)⟩⟩
case round => (
clear H'
try clear c1
try clear c2
try clear p2
try clear c4
try clear c5
try clear c5b0
try clear c5b1
try clear c9
try clear c10
try clear c12
try clear hcz11_0
try clear hcz11_1
try clear hcz11_2
try clear hcz11_3
try clear hcz11_4
try clear hcz11_5
try clear hcz11_6
try clear hcz11_7
try clear hcz13_0
try clear hcz14_0
try clear hcz16_0
try clear hfz11_0
try clear hfz11_1
try clear hfz11_2
try clear hfz11_3
try clear hfz11_4
try clear hfz11_5
try clear hfz11_6
try clear hfz11_7
try clear hfz13_0
try clear hfz14_0
try clear hfz16_0
obtain ⟨x9_1, x34_1, rfl, HA, HK1, HO_9, BK132, BK133, BK134, HB⟩ := hrel
cases gk with
| zero => exact absurd HA.out (by simp [order_Cut.l0])
| succ k1 => (
have H := HA.out
clear HA
simp only [order_Cut.l0] at H
by_cases c17 : x34_1 < (l2.length : Int)
·(
rw [if_pos c17] at H
have c17b0 : decide (x34_1 < (l2.length : Int)) = true := decide_eq_true c17
clear c17
by_cases c18 : 0 ≤ x34_1
·(
rw [if_pos c18] at H
have c18b0 : decide (0 ≤ x34_1) = true := decide_eq_true c18
clear c18
by_cases c19 : x34_1 < (l2.length : Int)
·(
rw [if_pos c19] at H
have c19b0 : decide (x34_1 < (l2.length : Int)) = true := decide_eq_true c19
clear c19
by_cases c20 : x34_1 < (l1.length : Int)
·(
rw [if_pos c20] at H
have c20b0 : decide (x34_1 < (l1.length : Int)) = true := decide_eq_true c20
clear c20
have H' := Aside0.mk H
clear H
have p136 : 0 ≤ (x34_1 : Int) := of_decide_eq_true (by first | (with_reducible assumption) | assumption)
have q136 : x34_1 < (l2.length : Int) := of_decide_eq_true (by first | (with_reducible assumption) | assumption)
obtain ⟨ad136, A136_0, c136_0, e136, hx136_0, hl136_0, hi136_0⟩ := at_L5 HR2.out x34_1 p136 q136
cases e136
replace hx136_0 := (HB.out.cell (World.block_lt_of_cell? w _ hx136_0)).trans hx136_0
have HR136_0 := Aside0.mk hi136_0
have HC136_0 := Aside0.mk hl136_0
clear hi136_0 hl136_0
replace p136 := eq_true p136
replace q136 := eq_true q136
try go_wp2
have n0_ := Aside0.mk (Kd.S_drew HO_9.out)
have n1_ := Aside0.mk (blk_drew BK132.out)
have n2_ := Aside0.mk (blk_drew BK133.out)
have n3_ := Aside0.mk (blk_drew BK134.out)
have n4_ := Aside0.mk (below_drew1 HB.out)
clear HO_9
clear BK132
clear BK133
clear BK134
clear HB
have HO_9 := n0_
have BK132 := n1_
have BK133 := n2_
have BK134 := n3_
have HB := n4_
clear n0_ n1_ n2_ n3_ n4_
have p137 : 0 ≤ (x34_1 : Int) := of_decide_eq_true (by first | (with_reducible assumption) | assumption)
have q137 : x34_1 < (l1.length : Int) := of_decide_eq_true (by first | (with_reducible assumption) | assumption)
obtain ⟨ad137, e137, hx137_0⟩ := Kd.at_int HR1.out x34_1 p137 q137
have hw137_0 := hx137_0
cases e137
replace hx137_0 := (HB.out.cell (World.block_lt_of_cell? w _ hx137_0)).trans hx137_0
replace p137 := eq_true p137
replace q137 := eq_true q137
refine start_ (n := 11) (S := fun w' => w'.cell? ⟨gb132, 0, none⟩ = some (.string a0_0) ∧ w'.cell? ⟨gb132, 1, none⟩ = some (.string a0_1) ∧ w'.cell? ⟨gb132, 2, none⟩ = some (.string a0_2) ∧ w'.cell? ⟨gb132, 3, none⟩ = some (.string a0_3) ∧ w'.cell? ⟨gb132, 4, none⟩ = some (.string a0_4) ∧ w'.cell? ⟨gb132, 5, none⟩ = some (.string a0_5) ∧ w'.cell? ⟨gb132, 6, none⟩ = some (.int .i64 a0_6) ∧ w'.cell? ⟨gb132, 7, none⟩ = some (.slice A0_7 l0_7.length c0_7) ∧ w'.cell? ⟨gb133, 0, none⟩ = some (.slice (some ad137) l1.length c1) ∧ w'.cell? (ad137.add (x34_1).toNat) = some (.int .i64 (rd l1 x34_1))) (ds := []) #[false, false, false, false, false, false, false, false, false, false, false] (by kernel_rfl) rfl rfl ⟨(blk_cell BK132.out 0).trans rfl, (blk_cell BK132.out 1).trans rfl, (blk_cell BK132.out 2).trans rfl, (blk_cell BK132.out 3).trans rfl, (blk_cell BK132.out 4).trans rfl, (blk_cell BK132.out 5).trans rfl, (blk_cell BK132.out 6).trans rfl, (blk_cell BK132.out 7).trans rfl, (blk_cell BK133.out 0).trans rfl, ((HB.out.cell (World.block_lt_of_cell? w _ hw137_0)).trans hw137_0)⟩ (fun hHeld => ?_); refine with_tabW order_Cut.tab8 order_Cut.bits8 (fun HT_ HW_ => ?_)
generalize wr.drew = w21 at HO_9 BK132 BK133 BK134 HB hx137_0 hHeld ⊢
refine pure_ (i := 0) (N := some 39) (v := ?_) (a' := ?_) #[true, false, false, false, false, false, false, false, false, false, false] rfl rfl (any_of HT_.out (by kernel_rfl)) (fun _ _ _ h => h) (Or.inl ⟨by rfl, ?_⟩) ?_ ?_
rotate_left
·(
intro w'
go_simp
with_reducible rfl
)
rotate_left
·(
simp only [Act.put, List.setIfInBounds_toArray, List.set_cons_zero, List.set_cons_succ, i64_w, i32_w]
rfl
)
refine pure_ (i := 2) (N := some 41) (v := ?_) (a' := ?_) #[true, false, true, false, false, false, false, false, false, false, false] rfl rfl (any_of HT_.out (by kernel_rfl)) (fun _ _ _ h => h) (Or.inl ⟨by rfl, ?_⟩) ?_ ?_
rotate_left
·(
intro w'
go_simp
with_reducible rfl
)
rotate_left
·(
simp only [Act.put, List.setIfInBounds_toArray, List.set_cons_zero, List.set_cons_succ, i64_w, i32_w]
rfl
)
refine pure_ (i := 3) (N := some 42) (v := ?_) (a' := ?_) #[true, false, true, true, false, false, false, false, false, false, false] rfl rfl (any_of HT_.out (by kernel_rfl)) (fun _ _ _ h => h) (Or.inl ⟨by rfl, ?_⟩) ?_ ?_
rotate_left
·(
intro w'
go_simp
with_reducible rfl
)
rotate_left
·(
simp only [Act.put, List.setIfInBounds_toArray, List.set_cons_zero, List.set_cons_succ, i64_w, i32_w]
rfl
)
refine pure_ (i := 5) (N := some 44) (v := ?_) (a' := ?_) #[true, false, true, true, false, true, false, false, false, false, false] rfl rfl (any_of HT_.out (by kernel_rfl)) (fun _ _ _ h => h) (Or.inl ⟨by rfl, ?_⟩) ?_ ?_
rotate_left
·(
intro w'
go_simp
with_reducible rfl
)
rotate_left
·(
simp only [Act.put, List.setIfInBounds_toArray, List.set_cons_zero, List.set_cons_succ, i64_w, i32_w]
rfl
)
refine take_ (i := 1) (N := some 40) (v := ?_) (a' := ?_) #[true, true, true, true, false, true, false, false, false, false, false] rfl rfl (take_ofW HT_.out HW_.out (by kernel_rfl)) (fun _ _ _ h => h) (Or.inl ⟨by rfl, ?_⟩) hHeld ?_ ?_
rotate_left
·(
rintro w' ⟨s0, s1, s2, s3, s4, s5, s6, s7, s8, s9⟩
go_simp
with_reducible rfl
)
rotate_left
·(
simp only [Act.put, List.setIfInBounds_toArray, List.set_cons_zero, List.set_cons_succ, i64_w, i32_w]
rfl
)
refine take_ (i := 4) (N := some 43) (v := ?_) (a' := ?_) #[true, true, true, true, true, true, false, false, false, false, false] rfl rfl (take_ofW HT_.out HW_.out (by kernel_rfl)) (fun _ _ _ h => h) (Or.inl ⟨by rfl, ?_⟩) hHeld ?_ ?_
rotate_left
·(
rintro w' ⟨s0, s1, s2, s3, s4, s5, s6, s7, s8, s9⟩
go_simp
with_reducible rfl
)
rotate_left
·(
simp only [Act.put, List.setIfInBounds_toArray, List.set_cons_zero, List.set_cons_succ, i64_w, i32_w]
rfl
)
refine pure_ (i := 6) (N := some 45) (v := ?_) (a' := ?_) #[true, true, true, true, true, true, true, false, false, false, false] rfl rfl (any_of HT_.out (by kernel_rfl)) (fun _ _ _ h => h) (Or.inl ⟨by rfl, ?_⟩) ?_ ?_
rotate_left
·(
intro w'
go_simp
with_reducible rfl
)
rotate_left
·(
simp only [Act.put, List.setIfInBounds_toArray, List.set_cons_zero, List.set_cons_succ, i64_w, i32_w]
rfl
)
refine take_ (i := 7) (N := some 46) (v := ?_) (a' := ?_) #[true, true, true, true, true, true, true, true, false, false, false] rfl rfl (take_ofW HT_.out HW_.out (by kernel_rfl)) (fun _ _ _ h => h) (Or.inl ⟨by rfl, ?_⟩) hHeld ?_ ?_
rotate_left
·(
rintro w' ⟨s0, s1, s2, s3, s4, s5, s6, s7, s8, s9⟩
go_simp
with_reducible rfl
)
rotate_left
·(
simp only [Act.put, List.setIfInBounds_toArray, List.set_cons_zero, List.set_cons_succ, i64_w, i32_w]
rfl
)
refine pure_ (i := 8) (N := some 47) (v := ?_) (a' := ?_) #[true, true, true, true, true, true, true, true, true, false, false] rfl rfl (any_of HT_.out (by kernel_rfl)) (fun _ _ _ h => h) (Or.inl ⟨by rfl, ?_⟩) ?_ ?_
rotate_left
·(
intro w'
go_simp
with_reducible rfl
)
rotate_left
·(
simp only [Act.put, List.setIfInBounds_toArray, List.set_cons_zero, List.set_cons_succ, i64_w, i32_w]
rfl
)
refine one_ (i := 9) (N := some 12) #[true, true, true, true, true, true, true, true, true, true, false] rfl rfl (one_of HT_.out (by kernel_rfl)) (by decide) (fun K hK => ?_)
refine box_step ?hg (N := 12) ?hd (cs := #[.string (⟨#[]⟩ : ByteArray), .int .i64 0, .int .i64 0, .slice none 0 0]) (t := 42) ?hr ?_; (case hd => rfl); (case hg => rfl); (case hr => first | (go_simp; done) | (go_simp; rfl))
intro gb138 hg w22 hbox hb
have n0_ := Aside0.mk (Kd.S_below (Kd.S_elderB (by (with_reducible repeat (first | apply Kd.S_alloc | apply Kd.S_drewN | apply Kd.S_drew)); exact HO_9.out) gb138 (Nat.le_of_eq hg.symm)) hb)
have n1_ := Aside0.mk (blk_below (g := gb132) (o := .cells #[.string a0_0, .string a0_1, .string a0_2, .string a0_3, .string a0_4, .string a0_5, .int .i64 a0_6, .slice A0_7 l0_7.length c0_7] 24 (0, 0)) (by (with_reducible repeat (first | refine blk_drewN ?_ _ | refine blk_drew ?_ | refine blk_alloc ?_ _)); exact BK132.out) hb)
have n2_ := Aside0.mk (blk_below (g := gb133) (o := .cells #[.slice (some ad137) l1.length c1] 32 (0, 0)) (by (with_reducible repeat (first | refine blk_drewN ?_ _ | refine blk_drew ?_ | refine blk_alloc ?_ _)); exact BK133.out) hb)
have n3_ := Aside0.mk (blk_below (g := gb134) (o := .cells #[.slice (some ad136) l2.length c2] 33 (0, 0)) (by (with_reducible repeat (first | refine blk_drewN ?_ _ | refine blk_drew ?_ | refine blk_alloc ?_ _)); exact BK134.out) hb)
have n4_ := Aside0.mk (below_step (by repeat (first | (with_reducible first | exact HB.out | apply below_alloc | apply pw_below_drewN | apply below_drew1 | refine below_set ?_ GE132.out | refine below_set ?_ GE133.out | refine below_set ?_ GE134.out) | exact HB.out)) hb)
have n5_ := Aside0.mk (hbox)
have n6_ := Aside0.mk ((by rw [hg]; exact (below_size (by repeat (first | (with_reducible first | exact HB.out | apply below_alloc | apply pw_below_drewN | apply below_drew1 | refine below_set ?_ GE132.out | refine below_set ?_ GE133.out | refine below_set ?_ GE134.out) | exact HB.out))) : w.heap.size ≤ gb138))
have n7_ := Aside0.mk ((by rw [hg]; exact (below_size (by repeat (first | (with_reducible first | exact HB.out | apply below_alloc | apply pw_below_drewN | apply below_drew1 | refine below_set ?_ GE132.out | refine below_set ?_ GE133.out | refine below_set ?_ GE134.out) | exact HB.out))) : w.heap.size ≤ gb138))
have n8_ := Aside0.mk ((by rw [hg]; exact Nat.ne_of_lt (blk_lt (g := gb132) (o := .cells #[.string a0_0, .string a0_1, .string a0_2, .string a0_3, .string a0_4, .string a0_5, .int .i64 a0_6, .slice A0_7 l0_7.length c0_7] 24 (0, 0)) (by (with_reducible repeat (first | refine blk_drewN ?_ _ | refine blk_drew ?_ | refine blk_alloc ?_ _)); exact BK132.out)) : gb132 ≠ gb138))
have n9_ := Aside0.mk ((by rw [hg]; exact Nat.ne_of_gt (blk_lt (g := gb132) (o := .cells #[.string a0_0, .string a0_1, .string a0_2, .string a0_3, .string a0_4, .string a0_5, .int .i64 a0_6, .slice A0_7 l0_7.length c0_7] 24 (0, 0)) (by (with_reducible repeat (first | refine blk_drewN ?_ _ | refine blk_drew ?_ | refine blk_alloc ?_ _)); exact BK132.out)) : gb138 ≠ gb132))
have n10_ := Aside0.mk ((by rw [hg]; exact Nat.ne_of_lt (blk_lt (g := gb133) (o := .cells #[.slice (some ad137) l1.length c1] 32 (0, 0)) (by (with_reducible repeat (first | refine blk_drewN ?_ _ | refine blk_drew ?_ | refine blk_alloc ?_ _)); exact BK133.out)) : gb133 ≠ gb138))
have n11_ := Aside0.mk ((by rw [hg]; exact Nat.ne_of_gt (blk_lt (g := gb133) (o := .cells #[.slice (some ad137) l1.length c1] 32 (0, 0)) (by (with_reducible repeat (first | refine blk_drewN ?_ _ | refine blk_drew ?_ | refine blk_alloc ?_ _)); exact BK133.out)) : gb138 ≠ gb133))
have n12_ := Aside0.mk ((by rw [hg]; exact Nat.ne_of_lt (blk_lt (g := gb134) (o := .cells #[.slice (some ad136) l2.length c2] 33 (0, 0)) (by (with_reducible repeat (first | refine blk_drewN ?_ _ | refine blk_drew ?_ | refine blk_alloc ?_ _)); exact BK134.out)) : gb134 ≠ gb138))
have n13_ := Aside0.mk ((by rw [hg]; exact Nat.ne_of_gt (blk_lt (g := gb134) (o := .cells #[.slice (some ad136) l2.length c2] 33 (0, 0)) (by (with_reducible repeat (first | refine blk_drewN ?_ _ | refine blk_drew ?_ | refine blk_alloc ?_ _)); exact BK134.out)) : gb138 ≠ gb134))
clear HO_9
clear BK132
clear BK133
clear BK134
clear HB
have HO_9 := n0_
have BK132 := n1_
have BK133 := n2_
have BK134 := n3_
have HB := n4_
have BK138 := n5_
have GW138 := n6_
have GE138 := n7_
have NB132_138 := n8_
have NB138_132 := n9_
have NB133_138 := n10_
have NB138_133 := n11_
have NB134_138 := n12_
have NB138_134 := n13_
clear n0_ n1_ n2_ n3_ n4_ n5_ n6_ n7_ n8_ n9_ n10_ n11_ n12_ n13_
clear hb hbox hg
refine hK.out _ _ ⟨(blk_cell BK132.out 0).trans rfl, (blk_cell BK132.out 1).trans rfl, (blk_cell BK132.out 2).trans rfl, (blk_cell BK132.out 3).trans rfl, (blk_cell BK132.out 4).trans rfl, (blk_cell BK132.out 5).trans rfl, (blk_cell BK132.out 6).trans rfl, (blk_cell BK132.out 7).trans rfl, (blk_cell BK133.out 0).trans rfl, ((HB.out.cell (World.block_lt_of_cell? w _ hw137_0)).trans hw137_0)⟩ (fun hHeld => ?_)
clear hK K
refine norm_ (a' := ?_) ?_ ?_
rotate_left
·(
show Act.put _ (some 12) _ = _
simp only [Act.put, List.setIfInBounds_toArray, List.set_cons_zero, List.set_cons_succ, i64_w, i32_w]
rfl
)
refine one_ (i := 10) (N := none) #[true, true, true, true, true, true, true, true, true, true, true] rfl rfl (one_of HT_.out (by kernel_rfl)) (by decide) (fun K hK => ?_)
have hs23 : w22.cell? ⟨gb138, 0, none⟩ = some (.string (⟨#[]⟩ : ByteArray)) := (blk_cell BK138.out 0).trans rfl
have hfs23 := blk_frozen BK138.out 0
have hns23_0 := NB132_138.out
have hns23_1 := NB133_138.out
have hns23_2 := NB134_138.out
have hms23_0 := NB138_132.out
have hms23_1 := NB138_133.out
have hms23_2 := NB138_134.out
have hs24 : w22.cell? ⟨gb138, 1, none⟩ = some (.int .i64 0) := (blk_cell BK138.out 1).trans rfl
have hfs24 := blk_frozen BK138.out 1
have hns24_0 := NB132_138.out
have hns24_1 := NB133_138.out
have hns24_2 := NB134_138.out
have hms24_0 := NB138_132.out
have hms24_1 := NB138_133.out
have hms24_2 := NB138_134.out
have hs25 : w22.cell? ⟨gb138, 2, none⟩ = some (.int .i64 0) := (blk_cell BK138.out 2).trans rfl
have hfs25 := blk_frozen BK138.out 2
have hns25_0 := NB132_138.out
have hns25_1 := NB133_138.out
have hns25_2 := NB134_138.out
have hms25_0 := NB138_132.out
have hms25_1 := NB138_133.out
have hms25_2 := NB138_134.out
have hs26 : w22.cell? ⟨gb138, 3, none⟩ = some (.slice none 0 0) := (blk_cell BK138.out 3).trans rfl
have hfs26 := blk_frozen BK138.out 3
have hns26_0 := NB132_138.out
have hns26_1 := NB133_138.out
have hns26_2 := NB134_138.out
have hms26_0 := NB138_132.out
have hms26_1 := NB138_133.out
have hms26_2 := NB138_134.out
refine skip_ (w1 := ?_) (by rfl) rfl ?_ ?_
rotate_left
·(
go_simp
rfl
)
refine hK.out _ _ ⟨((cell_far (p := ⟨gb138, _, none⟩) NB132_138.out _).trans (((cell_far (p := ⟨gb138, _, none⟩) NB132_138.out _).trans (((cell_far (p := ⟨gb138, _, none⟩) NB132_138.out _).trans (((cell_far (p := ⟨gb138, _, none⟩) NB132_138.out _).trans (hHeld.1)))))))), ((cell_far (p := ⟨gb138, _, none⟩) NB132_138.out _).trans (((cell_far (p := ⟨gb138, _, none⟩) NB132_138.out _).trans (((cell_far (p := ⟨gb138, _, none⟩) NB132_138.out _).trans (((cell_far (p := ⟨gb138, _, none⟩) NB132_138.out _).trans (hHeld.2.1)))))))), ((cell_far (p := ⟨gb138, _, none⟩) NB132_138.out _).trans (((cell_far (p := ⟨gb138, _, none⟩) NB132_138.out _).trans (((cell_far (p := ⟨gb138, _, none⟩) NB132_138.out _).trans (((cell_far (p := ⟨gb138, _, none⟩) NB132_138.out _).trans (hHeld.2.2.1)))))))), ((cell_far (p := ⟨gb138, _, none⟩) NB132_138.out _).trans (((cell_far (p := ⟨gb138, _, none⟩) NB132_138.out _).trans (((cell_far (p := ⟨gb138, _, none⟩) NB132_138.out _).trans (((cell_far (p := ⟨gb138, _, none⟩) NB132_138.out _).trans (hHeld.2.2.2.1)))))))), ((cell_far (p := ⟨gb138, _, none⟩) NB132_138.out _).trans (((cell_far (p := ⟨gb138, _, none⟩) NB132_138.out _).trans (((cell_far (p := ⟨gb138, _, none⟩) NB132_138.out _).trans (((cell_far (p := ⟨gb138, _, none⟩) NB132_138.out _).trans (hHeld.2.2.2.2.1)))))))), ((cell_far (p := ⟨gb138, _, none⟩) NB132_138.out _).trans (((cell_far (p := ⟨gb138, _, none⟩) NB132_138.out _).trans (((cell_far (p := ⟨gb138, _, none⟩) NB132_138.out _).trans (((cell_far (p := ⟨gb138, _, none⟩) NB132_138.out _).trans (hHeld.2.2.2.2.2.1)))))))), ((cell_far (p := ⟨gb138, _, none⟩) NB132_138.out _).trans (((cell_far (p := ⟨gb138, _, none⟩) NB132_138.out _).trans (((cell_far (p := ⟨gb138, _, none⟩) NB132_138.out _).trans (((cell_far (p := ⟨gb138, _, none⟩) NB132_138.out _).trans (hHeld.2.2.2.2.2.2.1)))))))), ((cell_far (p := ⟨gb138, _, none⟩) NB132_138.out _).trans (((cell_far (p := ⟨gb138, _, none⟩) NB132_138.out _).trans (((cell_far (p := ⟨gb138, _, none⟩) NB132_138.out _).trans (((cell_far (p := ⟨gb138, _, none⟩) NB132_138.out _).trans (hHeld.2.2.2.2.2.2.2.1)))))))), ((cell_far (p := ⟨gb138, _, none⟩) NB133_138.out _).trans (((cell_far (p := ⟨gb138, _, none⟩) NB133_138.out _).trans (((cell_far (p := ⟨gb138, _, none⟩) NB133_138.out _).trans (((cell_far (p := ⟨gb138, _, none⟩) NB133_138.out _).trans (hHeld.2.2.2.2.2.2.2.2.1)))))))), ((cell_far (p := ⟨gb138, _, none⟩) (by first | exact Nat.ne_of_lt (Nat.lt_of_lt_of_le (by have := World.block_lt_of_cell? _ _ hw137_0; first | rwa [add_block] at this | exact this) GW138.out) | (rw [add_block]; exact Nat.ne_of_lt (Nat.lt_of_lt_of_le (by have := World.block_lt_of_cell? _ _ hw137_0; first | rwa [add_block] at this | exact this) GW138.out)) | (show (Addr.add _ _).block ≠ _; rw [add_block]; exact Nat.ne_of_lt (Nat.lt_of_lt_of_le (by have := World.block_lt_of_cell? _ _ hw137_0; first | rwa [add_block] at this | exact this) GW138.out)) | (dsimp only; exact Nat.ne_of_lt (Nat.lt_of_lt_of_le (by have := World.block_lt_of_cell? _ _ hw137_0; first | rwa [add_block] at this | exact this) GW138.out))) _).trans (((cell_far (p := ⟨gb138, _, none⟩) (by first | exact Nat.ne_of_lt (Nat.lt_of_lt_of_le (by have := World.block_lt_of_cell? _ _ hw137_0; first | rwa [add_block] at this | exact this) GW138.out) | (rw [add_block]; exact Nat.ne_of_lt (Nat.lt_of_lt_of_le (by have := World.block_lt_of_cell? _ _ hw137_0; first | rwa [add_block] at this | exact this) GW138.out)) | (show (Addr.add _ _).block ≠ _; rw [add_block]; exact Nat.ne_of_lt (Nat.lt_of_lt_of_le (by have := World.block_lt_of_cell? _ _ hw137_0; first | rwa [add_block] at this | exact this) GW138.out)) | (dsimp only; exact Nat.ne_of_lt (Nat.lt_of_lt_of_le (by have := World.block_lt_of_cell? _ _ hw137_0; first | rwa [add_block] at this | exact this) GW138.out))) _).trans (((cell_far (p := ⟨gb138, _, none⟩) (by first | exact Nat.ne_of_lt (Nat.lt_of_lt_of_le (by have := World.block_lt_of_cell? _ _ hw137_0; first | rwa [add_block] at this | exact this) GW138.out) | (rw [add_block]; exact Nat.ne_of_lt (Nat.lt_of_lt_of_le (by have := World.block_lt_of_cell? _ _ hw137_0; first | rwa [add_block] at this | exact this) GW138.out)) | (show (Addr.add _ _).block ≠ _; rw [add_block]; exact Nat.ne_of_lt (Nat.lt_of_lt_of_le (by have := World.block_lt_of_cell? _ _ hw137_0; first | rwa [add_block] at this | exact this) GW138.out)) | (dsimp only; exact Nat.ne_of_lt (Nat.lt_of_lt_of_le (by have := World.block_lt_of_cell? _ _ hw137_0; first | rwa [add_block] at this | exact this) GW138.out))) _).trans (((cell_far (p := ⟨gb138, _, none⟩) (by first | exact Nat.ne_of_lt (Nat.lt_of_lt_of_le (by have := World.block_lt_of_cell? _ _ hw137_0; first | rwa [add_block] at this | exact this) GW138.out) | (rw [add_block]; exact Nat.ne_of_lt (Nat.lt_of_lt_of_le (by have := World.block_lt_of_cell? _ _ hw137_0; first | rwa [add_block] at this | exact this) GW138.out)) | (show (Addr.add _ _).block ≠ _; rw [add_block]; exact Nat.ne_of_lt (Nat.lt_of_lt_of_le (by have := World.block_lt_of_cell? _ _ hw137_0; first | rwa [add_block] at this | exact this) GW138.out)) | (dsimp only; exact Nat.ne_of_lt (Nat.lt_of_lt_of_le (by have := World.block_lt_of_cell? _ _ hw137_0; first | rwa [add_block] at this | exact this) GW138.out))) _).trans (hHeld.2.2.2.2.2.2.2.2.2))))))))⟩ (fun hHeld => ?_)
clear hK K
refine done_ (done_of HT_.out (by kernel_rfl)) ?_
try go_wp2
go_loopg [50] k1 (fun kq v50 w' => ∃ (x50_2 : Int) (x139003_2 : List (S67)) (u139003 : Value), v50 = .int .i64 x50_2 ∧ Aside0 (order_Cut.l1 kq x9_1 l2 (l2.length : Int) x34_1 (rd_L5 l2 x34_1) ((rd_L5 l2 x34_1).length : Int) x50_2 a0_0 a0_1 a0_2 a0_3 a0_4 a0_5 a0_6 l0_7 l1 a0_0 (wrap64 (x34_1 + 1)) (rd l1 x34_1) x139003_2 = some (r1, r2)) ∧ Aside0 (kq ≤ k1) ∧ Aside0 (Kd.S k42 42 w' w.heap.size (fun k_ => some k_ ≠ (u139003 : Value).ownBlock ∧ k_ ≠ gb138) u9 x9_1) ∧ Aside0 (Kd.R k67 67 w' w.heap.size (fun _ => True) u139003 x139003_2) ∧ Aside0 (w'.heap[gb132]? = some (.cells #[.string a0_0, .string a0_1, .string a0_2, .string a0_3, .string a0_4, .string a0_5, .int .i64 a0_6, (.slice A0_7 l0_7.length c0_7)] 24 (0, 0))) ∧ Aside0 (w'.heap[gb133]? = some (.cells #[(.slice (some ad137) l1.length c1)] 32 (0, 0))) ∧ Aside0 (w'.heap[gb134]? = some (.cells #[(.slice (some ad136) l2.length c2)] 33 (0, 0))) ∧ Aside0 (w'.heap[gb138]? = some (.cells #[.string a0_0, .int .i64 (wrap64 (x34_1 + 1)), .int .i64 (rd l1 x34_1), u139003] 42 (0, 0))) ∧ Aside0 (Below w.heap.size w w'))
case atStart => exact ⟨(0), (([] : List (S67))), (.slice none 0 0), (by first | rfl | (simp; done) | (simp [*]; done)), H', ⟨Nat.le_refl _⟩, ⟨by (with_reducible repeat (first | apply Kd.S_alloc | apply Kd.S_drewN | apply Kd.S_drew)); exact Kd.S_mono (Kd.S_far (p := ⟨gb138, 3, none⟩) (Kd.S_far (p := ⟨gb138, 2, none⟩) (Kd.S_far (p := ⟨gb138, 1, none⟩) (Kd.S_far (p := ⟨gb138, 0, none⟩) (Kd.S_mono HO_9.out (fun k_ hk => (⟨hk, hk.2⟩ : _ ∧ k_ ≠ gb138))) (fun _ hk => hk.2) (.string a0_0)) (fun _ hk => hk.2) (.int .i64 (wrap64 (x34_1 + 1)))) (fun _ hk => hk.2) (.int .i64 (rd l1 x34_1))) (fun _ hk => hk.2) (.slice none 0 0)) (fun _ hk => ⟨(by simp [Value.ownBlock]), hk.1.2⟩)⟩, ⟨by first | exact Kd.R_nil _ _ _ _ _ | exact Kd.N_nil _ _ _ _ _ | exact Kd.V_nil _ _ _ _ _ | exact Kd.Q_nil _ _ _ _ _ | exact Kd.S_nil _ _ _ _ _⟩, ⟨by (with_reducible repeat (first | refine blk_drewN ?_ _ | refine blk_drew ?_ | refine blk_alloc ?_ _)); refine blk_far ?_ NB132_138.out _; (with_reducible repeat (first | refine blk_drewN ?_ _ | refine blk_drew ?_ | refine blk_alloc ?_ _)); refine blk_far ?_ NB132_138.out _; (with_reducible repeat (first | refine blk_drewN ?_ _ | refine blk_drew ?_ | refine blk_alloc ?_ _)); refine blk_far ?_ NB132_138.out _; (with_reducible repeat (first | refine blk_drewN ?_ _ | refine blk_drew ?_ | refine blk_alloc ?_ _)); refine blk_far ?_ NB132_138.out _; (with_reducible repeat (first | refine blk_drewN ?_ _ | refine blk_drew ?_ | refine blk_alloc ?_ _)); exact BK132.out⟩, ⟨by (with_reducible repeat (first | refine blk_drewN ?_ _ | refine blk_drew ?_ | refine blk_alloc ?_ _)); refine blk_far ?_ NB133_138.out _; (with_reducible repeat (first | refine blk_drewN ?_ _ | refine blk_drew ?_ | refine blk_alloc ?_ _)); refine blk_far ?_ NB133_138.out _; (with_reducible repeat (first | refine blk_drewN ?_ _ | refine blk_drew ?_ | refine blk_alloc ?_ _)); refine blk_far ?_ NB133_138.out _; (with_reducible repeat (first | refine blk_drewN ?_ _ | refine blk_drew ?_ | refine blk_alloc ?_ _)); refine blk_far ?_ NB133_138.out _; (with_reducible repeat (first | refine blk_drewN ?_ _ | refine blk_drew ?_ | refine blk_alloc ?_ _)); exact BK133.out⟩, ⟨by (with_reducible repeat (first | refine blk_drewN ?_ _ | refine blk_drew ?_ | refine blk_alloc ?_ _)); refine blk_far ?_ NB134_138.out _; (with_reducible repeat (first | refine blk_drewN ?_ _ | refine blk_drew ?_ | refine blk_alloc ?_ _)); refine blk_far ?_ NB134_138.out _; (with_reducible repeat (first | refine blk_drewN ?_ _ | refine blk_drew ?_ | refine blk_alloc ?_ _)); refine blk_far ?_ NB134_138.out _; (with_reducible repeat (first | refine blk_drewN ?_ _ | refine blk_drew ?_ | refine blk_alloc ?_ _)); refine blk_far ?_ NB134_138.out _; (with_reducible repeat (first | refine blk_drewN ?_ _ | refine blk_drew ?_ | refine blk_alloc ?_ _)); exact BK134.out⟩, ⟨by (with_reducible repeat (first | refine blk_drewN ?_ _ | refine blk_drew ?_ | refine blk_alloc ?_ _)); refine blk_put (cs := #[.string a0_0, .int .i64 (wrap64 (x34_1 + 1)), .int .i64 (rd l1 x34_1), .slice none 0 0]) ?_ 3 _ rfl; (with_reducible repeat (first | refine blk_drewN ?_ _ | refine blk_drew ?_ | refine blk_alloc ?_ _)); refine blk_put (cs := #[.string a0_0, .int .i64 (wrap64 (x34_1 + 1)), .int .i64 0, .slice none 0 0]) ?_ 2 _ rfl; (with_reducible repeat (first | refine blk_drewN ?_ _ | refine blk_drew ?_ | refine blk_alloc ?_ _)); refine blk_put (cs := #[.string a0_0, .int .i64 0, .int .i64 0, .slice none 0 0]) ?_ 1 _ rfl; (with_reducible repeat (first | refine blk_drewN ?_ _ | refine blk_drew ?_ | refine blk_alloc ?_ _)); refine blk_put (cs := #[.string (⟨#[]⟩ : ByteArray), .int .i64 0, .int .i64 0, .slice none 0 0]) ?_ 0 _ rfl; (with_reducible repeat (first | refine blk_drewN ?_ _ | refine blk_drew ?_ | refine blk_alloc ?_ _)); exact BK138.out⟩, ⟨by repeat (first | (with_reducible first | exact HB.out | apply below_alloc | apply pw_below_drewN | apply below_drew1 | refine below_set ?_ GE132.out | refine below_set ?_ GE133.out | refine below_set ?_ GE134.out | refine below_set ?_ GE138.out) | exact HB.out)⟩⟩
case round => (
clear H'
try clear c1
try clear p1
try clear q1
try clear hx1
try clear c2
try clear p2
try clear c4
try clear c5
try clear c5b0
try clear c5b1
try clear p6
try clear c9
try clear c10
try clear c12
try clear c13
try clear p13
try clear q13
try clear hx13
try clear c17
try clear c17b0
try clear c18
try clear c18b0
try clear c19
try clear c19b0
try clear c20
try clear c20b0
try clear hcz11_0
try clear hcz11_1
try clear hcz11_2
try clear hcz11_3
try clear hcz11_4
try clear hcz11_5
try clear hcz11_6
try clear hcz11_7
try clear hcz13_0
try clear hcz14_0
try clear hcz16_0
try clear hfz11_0
try clear hfz11_1
try clear hfz11_2
try clear hfz11_3
try clear hfz11_4
try clear hfz11_5
try clear hfz11_6
try clear hfz11_7
try clear hfz13_0
try clear hfz14_0
try clear hfz16_0
try clear hx136_0
try clear hx137_0
try clear p136
try clear p137
try clear p2
try clear q136
try clear q137
obtain ⟨x50_2, x139003_2, u139003, rfl, HA, HK2, HO_9, HO_139003, BK132, BK133, BK134, BK138, HB⟩ := hrel
cases gk with
| zero => exact absurd HA.out (by simp [order_Cut.l1])
| succ k2 => (
have H := HA.out
clear HA
simp only [order_Cut.l1] at H
by_cases c27 : x50_2 < ((rd_L5 l2 x34_1).length : Int)
·(
rw [if_pos c27] at H
have c27b0 : decide (x50_2 < ((rd_L5 l2 x34_1).length : Int)) = true := decide_eq_true c27
clear c27
by_cases c28 : 0 ≤ x50_2
·(
rw [if_pos c28] at H
have c28b0 : decide (0 ≤ x50_2) = true := decide_eq_true c28
clear c28
by_cases c29 : x50_2 < ((rd_L5 l2 x34_1).length : Int)
·(
rw [if_pos c29] at H
have c29b0 : decide (x50_2 < ((rd_L5 l2 x34_1).length : Int)) = true := decide_eq_true c29
clear c29
by_cases c30 : (rd (rd_L5 l2 x34_1) x50_2) > 0
·(
rw [if_pos c30] at H
have c30b0 : decide (0 < (rd (rd_L5 l2 x34_1) x50_2)) = true := decide_eq_true c30
clear c30
by_cases c31 : x50_2 < (l0_7.length : Int)
·(
rw [if_pos c31] at H
have c31b0 : decide (x50_2 < (l0_7.length : Int)) = true := decide_eq_true c31
clear c31
by_cases c32 : x139003_2.length < 5864062014805
·(
rw [if_pos c32] at H
have LMc32 := Aside0.mk c32
clear c32
obtain ⟨y141, hy141⟩ : ∃ y_ : List (S67), y_ = (x139003_2 ++ [(⟨(rd_T65 l0_7 x50_2).f0, rd (rd_L5 l2 x34_1) x50_2⟩ : S67)]) := ⟨_, rfl⟩
replace H : (order_Cut.l1 k2 x9_1 l2 (l2.length : Int) x34_1 (rd_L5 l2 x34_1) ((rd_L5 l2 x34_1).length : Int) (wrap64 (x50_2 + 1)) a0_0 a0_1 a0_2 a0_3 a0_4 a0_5 a0_6 l0_7 l1 a0_0 (wrap64 (x34_1 + 1)) (rd l1 x34_1) y141) = some (r1, r2) := by first | (rw [hy141]; with_reducible exact H) | (have H2_ := (Option.bind_some _ _).symm.trans H; rw [hy141]; with_reducible exact H2_) | (have H2_ := (Option.bind_some _ _).symm.trans H; with_reducible exact H2_) | with_reducible exact H | (rw [hy141]; exact H) | exact H
have Ny141 := Aside0.mk hy141
clear hy141
have H' := Aside0.mk H
clear H
have p139 : 0 ≤ (x50_2 : Int) := of_decide_eq_true (by first | (with_reducible assumption) | assumption)
have q139 : x50_2 < ((rd_L5 l2 x34_1).length : Int) := of_decide_eq_true (by first | (with_reducible assumption) | assumption)
obtain ⟨ad139, e139, hx139_0⟩ := Kd.at_int HR136_0.out x50_2 p139 q139
cases e139
replace hx139_0 := (HB.out.cell (World.block_lt_of_cell? w _ hx139_0)).trans hx139_0
replace p139 := eq_true p139
replace q139 := eq_true q139
try go_wp2
have n0_ := Aside0.mk (Kd.S_drew HO_9.out)
have n1_ := Aside0.mk (Kd.R_drew HO_139003.out)
have n2_ := Aside0.mk (blk_drew BK132.out)
have n3_ := Aside0.mk (blk_drew BK133.out)
have n4_ := Aside0.mk (blk_drew BK134.out)
have n5_ := Aside0.mk (blk_drew BK138.out)
have n6_ := Aside0.mk (below_drew1 HB.out)
clear HO_9
clear HO_139003
clear BK132
clear BK133
clear BK134
clear BK138
clear HB
have HO_9 := n0_
have HO_139003 := n1_
have BK132 := n2_
have BK133 := n3_
have BK134 := n4_
have BK138 := n5_
have HB := n6_
clear n0_ n1_ n2_ n3_ n4_ n5_ n6_
have p140 : 0 ≤ (x50_2 : Int) := of_decide_eq_true (by first | (with_reducible assumption) | assumption)
have q140 : x50_2 < (l0_7.length : Int) := of_decide_eq_true (by first | (with_reducible assumption) | assumption)
obtain ⟨ad140, e140, hx140_0, hx140_1, hx140_2⟩ := at_T65 HR0_7.out x50_2 p140 q140
have hw140_2 := hx140_2
have hw140_1 := hx140_1
have hw140_0 := hx140_0
cases e140
replace hx140_0 := (HB.out.cell (World.block_lt_of_cell? w _ hx140_0)).trans hx140_0
replace hx140_1 := (HB.out.cell (World.block_lt_of_cell? w _ hx140_1)).trans hx140_1
replace hx140_2 := (HB.out.cell (World.block_lt_of_cell? w _ hx140_2)).trans hx140_2
replace p140 := eq_true p140
replace q140 := eq_true q140
refine start_ (n := 14) (S := fun w' => w'.cell? ⟨gb138, 0, none⟩ = some (.string a0_0) ∧ w'.cell? ⟨gb138, 1, none⟩ = some (.int .i64 (wrap64 (x34_1 + 1))) ∧ w'.cell? ⟨gb138, 2, none⟩ = some (.int .i64 (rd l1 x34_1)) ∧ w'.cell? ⟨gb138, 3, none⟩ = some (u139003) ∧ w'.cell? ⟨gb132, 0, none⟩ = some (.string a0_0) ∧ w'.cell? ⟨gb132, 1, none⟩ = some (.string a0_1) ∧ w'.cell? ⟨gb132, 2, none⟩ = some (.string a0_2) ∧ w'.cell? ⟨gb132, 3, none⟩ = some (.string a0_3) ∧ w'.cell? ⟨gb132, 4, none⟩ = some (.string a0_4) ∧ w'.cell? ⟨gb132, 5, none⟩ = some (.string a0_5) ∧ w'.cell? ⟨gb132, 6, none⟩ = some (.int .i64 a0_6) ∧ w'.cell? ⟨gb132, 7, none⟩ = some (.slice (some ad140) l0_7.length c0_7) ∧ w'.cell? (ad140.add ((x50_2).toNat * 3)) = some (.string ((rd_T65 l0_7 x50_2).f0)) ∧ w'.cell? ⟨(ad140.add ((x50_2).toNat * 3)).block, (ad140.add ((x50_2).toNat * 3)).off + 1, none⟩ = some (.int .i64 ((rd_T65 l0_7 x50_2).f1)) ∧ w'.cell? ⟨(ad140.add ((x50_2).toNat * 3)).block, (ad140.add ((x50_2).toNat * 3)).off + 2, none⟩ = some (.int .i64 ((rd_T65 l0_7 x50_2).f2))) (ds := [13]) #[false, false, false, false, false, false, false, false, false, false, false, false, false, false] (by kernel_rfl) rfl rfl ⟨(blk_cell BK138.out 0).trans rfl, (blk_cell BK138.out 1).trans rfl, (blk_cell BK138.out 2).trans rfl, (blk_cell BK138.out 3).trans rfl, (blk_cell BK132.out 0).trans rfl, (blk_cell BK132.out 1).trans rfl, (blk_cell BK132.out 2).trans rfl, (blk_cell BK132.out 3).trans rfl, (blk_cell BK132.out 4).trans rfl, (blk_cell BK132.out 5).trans rfl, (blk_cell BK132.out 6).trans rfl, (blk_cell BK132.out 7).trans rfl, ((HB.out.cell (World.block_lt_of_cell? w _ hw140_0)).trans hw140_0), ((HB.out.cell (World.block_lt_of_cell? w _ hw140_1)).trans hw140_1), ((HB.out.cell (World.block_lt_of_cell? w _ hw140_2)).trans hw140_2)⟩ (fun hHeld => ?_); refine with_tabW order_Cut.tab13 order_Cut.bits13 (fun HT_ HW_ => ?_)
generalize wr.drew = w33 at HO_9 HO_139003 BK132 BK133 BK134 BK138 HB hx140_0 hx140_1 hx140_2 hHeld ⊢
refine pure_ (i := 0) (N := some 57) (v := ?_) (a' := ?_) #[true, false, false, false, false, false, false, false, false, false, false, false, false, false] rfl rfl (any_of HT_.out (by kernel_rfl)) (fun _ _ _ h => h) (Or.inl ⟨by rfl, ?_⟩) ?_ ?_
rotate_left
·(
intro w'
go_simp
with_reducible rfl
)
rotate_left
·(
simp only [Act.put, List.setIfInBounds_toArray, List.set_cons_zero, List.set_cons_succ, i64_w, i32_w]
rfl
)
refine pure_ (i := 2) (N := some 59) (v := ?_) (a' := ?_) #[true, false, true, false, false, false, false, false, false, false, false, false, false, false] rfl rfl (any_of HT_.out (by kernel_rfl)) (fun _ _ _ h => h) (Or.inl ⟨by rfl, ?_⟩) ?_ ?_
rotate_left
·(
intro w'
go_simp
with_reducible rfl
)
rotate_left
·(
simp only [Act.put, List.setIfInBounds_toArray, List.set_cons_zero, List.set_cons_succ, i64_w, i32_w]
rfl
)
refine pure_ (i := 4) (N := some 61) (v := ?_) (a' := ?_) #[true, false, true, false, true, false, false, false, false, false, false, false, false, false] rfl rfl (any_of HT_.out (by kernel_rfl)) (fun _ _ _ h => h) (Or.inl ⟨by rfl, ?_⟩) ?_ ?_
rotate_left
·(
intro w'
go_simp
with_reducible rfl
)
rotate_left
·(
simp only [Act.put, List.setIfInBounds_toArray, List.set_cons_zero, List.set_cons_succ, i64_w, i32_w]
rfl
)
refine pure_ (i := 8) (N := some 65) (v := ?_) (a' := ?_) #[true, false, true, false, true, false, false, false, true, false, false, false, false, false] rfl rfl (any_of HT_.out (by kernel_rfl)) (fun _ _ _ h => h) (Or.inl ⟨by rfl, ?_⟩) ?_ ?_
rotate_left
·(
intro w'
go_simp
with_reducible rfl
)
rotate_left
·(
simp only [Act.put, List.setIfInBounds_toArray, List.set_cons_zero, List.set_cons_succ, i64_w, i32_w]
rfl
)
refine take_ (i := 1) (N := some 58) (v := ?_) (a' := ?_) #[true, true, true, false, true, false, false, false, true, false, false, false, false, false] rfl rfl (take_ofW HT_.out HW_.out (by kernel_rfl)) (fun _ _ _ h => h) (Or.inl ⟨by rfl, ?_⟩) hHeld ?_ ?_
rotate_left
·(
rintro w' ⟨s0, s1, s2, s3, s4, s5, s6, s7, s8, s9, s10, s11, s12, s13, s14⟩
go_simp
with_reducible rfl
)
rotate_left
·(
simp only [Act.put, List.setIfInBounds_toArray, List.set_cons_zero, List.set_cons_succ, i64_w, i32_w]
rfl
)
refine take_ (i := 3) (N := some 60) (v := ?_) (a' := ?_) #[true, true, true, true, true, false, false, false, true, false, false, false, false, false] rfl rfl (take_ofW HT_.out HW_.out (by kernel_rfl)) (fun _ _ _ h => h) (Or.inl ⟨by rfl, ?_⟩) hHeld ?_ ?_
rotate_left
·(
rintro w' ⟨s0, s1, s2, s3, s4, s5, s6, s7, s8, s9, s10, s11, s12, s13, s14⟩
go_simp
with_reducible rfl
)
rotate_left
·(
simp only [Act.put, List.setIfInBounds_toArray, List.set_cons_zero, List.set_cons_succ, i64_w, i32_w]
rfl
)
refine pure_ (i := 5) (N := some 62) (v := ?_) (a' := ?_) #[true, true, true, true, true, true, false, false, true, false, false, false, false, false] rfl rfl (any_of HT_.out (by kernel_rfl)) (fun _ _ _ h => h) (Or.inl ⟨by rfl, ?_⟩) ?_ ?_
rotate_left
·(
intro w'
go_simp
with_reducible rfl
)
rotate_left
·(
simp only [Act.put, List.setIfInBounds_toArray, List.set_cons_zero, List.set_cons_succ, i64_w, i32_w]
rfl
)
refine pure_ (i := 6) (N := some 63) (v := ?_) (a' := ?_) #[true, true, true, true, true, true, true, false, true, false, false, false, false, false] rfl rfl (any_of HT_.out (by kernel_rfl)) (fun _ _ _ h => h) (Or.inl ⟨by rfl, ?_⟩) ?_ ?_
rotate_left
·(
intro w'
go_simp
with_reducible rfl
)
rotate_left
·(
simp only [Act.put, List.setIfInBounds_toArray, List.set_cons_zero, List.set_cons_succ, i64_w, i32_w]
rfl
)
refine take_ (i := 7) (N := some 64) (v := ?_) (a' := ?_) #[true, true, true, true, true, true, true, true, true, false, false, false, false, false] rfl rfl (take_ofW HT_.out HW_.out (by kernel_rfl)) (fun _ _ _ h => h) (Or.inl ⟨by rfl, ?_⟩) hHeld ?_ ?_
rotate_left
·(
rintro w' ⟨s0, s1, s2, s3, s4, s5, s6, s7, s8, s9, s10, s11, s12, s13, s14⟩
go_simp
with_reducible rfl
)
rotate_left
·(
simp only [Act.put, List.setIfInBounds_toArray, List.set_cons_zero, List.set_cons_succ, i64_w, i32_w]
rfl
)
refine pure_ (i := 9) (N := some 66) (v := ?_) (a' := ?_) #[true, true, true, true, true, true, true, true, true, true, false, false, false, false] rfl rfl (any_of HT_.out (by kernel_rfl)) (fun _ _ _ h => h) (Or.inl ⟨by rfl, ?_⟩) ?_ ?_
rotate_left
·(
intro w'
go_simp
with_reducible rfl
)
rotate_left
·(
simp only [Act.put, List.setIfInBounds_toArray, List.set_cons_zero, List.set_cons_succ, i64_w, i32_w]
rfl
)
refine one_ (i := 10) (N := some 67) #[true, true, true, true, true, true, true, true, true, true, true, false, false, false] rfl rfl (one_of HT_.out (by kernel_rfl)) (by decide) (fun K hK => ?_)
refine value_ (w1 := ?_) (v := ?_) (by rfl) rfl ?_ ?_
rotate_left 2
·(
go_simp
constructor
·rfl
·rfl
)
refine hK.out _ _ ⟨(blk_cell (blk_alloc BK138.out _) 0).trans rfl, (blk_cell (blk_alloc BK138.out _) 1).trans rfl, (blk_cell (blk_alloc BK138.out _) 2).trans rfl, (blk_cell (blk_alloc BK138.out _) 3).trans rfl, (blk_cell (blk_alloc BK132.out _) 0).trans rfl, (blk_cell (blk_alloc BK132.out _) 1).trans rfl, (blk_cell (blk_alloc BK132.out _) 2).trans rfl, (blk_cell (blk_alloc BK132.out _) 3).trans rfl, (blk_cell (blk_alloc BK132.out _) 4).trans rfl, (blk_cell (blk_alloc BK132.out _) 5).trans rfl, (blk_cell (blk_alloc BK132.out _) 6).trans rfl, (blk_cell (blk_alloc BK132.out _) 7).trans rfl, (World.cell?_alloc_lt _ _ _ (World.block_lt_of_cell? _ _ (((HB.out.cell (World.block_lt_of_cell? w _ hw140_0)).trans hw140_0)))).trans (((HB.out.cell (World.block_lt_of_cell? w _ hw140_0)).trans hw140_0)), (World.cell?_alloc_lt _ _ _ (World.block_lt_of_cell? _ _ (((HB.out.cell (World.block_lt_of_cell? w _ hw140_1)).trans hw140_1)))).trans (((HB.out.cell (World.block_lt_of_cell? w _ hw140_1)).trans hw140_1)), (World.cell?_alloc_lt _ _ _ (World.block_lt_of_cell? _ _ (((HB.out.cell (World.block_lt_of_cell? w _ hw140_2)).trans hw140_2)))).trans (((HB.out.cell (World.block_lt_of_cell? w _ hw140_2)).trans hw140_2))⟩ (fun hHeld => ?_)
clear hK K
refine norm_ (a' := ?_) ?_ ?_
rotate_left
·(
show Act.put _ (some 67) _ = _
simp only [Act.put, List.setIfInBounds_toArray, List.set_cons_zero, List.set_cons_succ, i64_w, i32_w]
rfl
)
refine one_ (i := 11) (N := some 68) #[true, true, true, true, true, true, true, true, true, true, true, true, false, false] rfl rfl (one_of HT_.out (by kernel_rfl)) (by decide) (fun K hK => ?_)
refine Kd.R_append_step k67 (w0 := w) w.heap.size (by rfl) (.tmp 58) (.tmp 67) 40 67 (.agg #[(.string ⟨#[]⟩), (.int .i64 0)]) 24 rfl Try.underlying40 info67 rfl (by decide) (by omega) u139003 x139003_2 (⟨(rd_T65 l0_7 x50_2).f0, rd (rd_L5 l2 x34_1) x50_2⟩ : S67) [.string ((rd_T65 l0_7 x50_2).f0), .int .i64 (rd (rd_L5 l2 x34_1) x50_2)] (fun _ => True) (fun _ => False) rfl rfl ?aP (fun _ hk => hk.elim) ?aF ?aO ?aB ?aS ?aL ?_
(case aP => exact k67_mkM _ _ _ (⟨(rd_T65 l0_7 x50_2).f0, rd (rd_L5 l2 x34_1) x50_2⟩ : S67))
(case aB => exact (by repeat (first | (with_reducible first | exact HB.out | apply below_alloc | apply pw_below_drewN | apply below_drew1 | refine below_set ?_ GE132.out | refine below_set ?_ GE133.out | refine below_set ?_ GE134.out | refine below_set ?_ GE138.out) | exact HB.out)))
(case aF => exact (fun _ _ => trivial))
(case aO => exact (by (with_reducible repeat (first | apply Kd.R_alloc | apply Kd.R_drewN | apply Kd.R_drew)); exact HO_139003.out))
(case aS => exact (below_size (by repeat (first | (with_reducible first | exact HB.out | apply below_alloc | apply pw_below_drewN | apply below_drew1 | refine below_set ?_ GE132.out | refine below_set ?_ GE133.out | refine below_set ?_ GE134.out | refine below_set ?_ GE138.out) | exact HB.out))))
(case aL => have := LMc32.out; omega)
intro v142 w34 ho hb hg hat
rw [← Ny141.out] at ho
have n0_ := Aside0.mk (Kd.S_after (ok := (fun k_ => k_ ≠ gb138)) (by (with_reducible repeat (first | apply Kd.S_alloc | apply Kd.S_drewN | apply Kd.S_drew)); exact Kd.S_mono HO_9.out (fun _ hk => ⟨hk.2, hk.1⟩)) hg hat)
have n1_ := Aside0.mk (blk_grown (g := gb132) (o := .cells #[.string a0_0, .string a0_1, .string a0_2, .string a0_3, .string a0_4, .string a0_5, .int .i64 a0_6, .slice (some ad140) l0_7.length c0_7] 24 (0, 0)) (by (with_reducible repeat (first | refine blk_drewN ?_ _ | refine blk_drew ?_ | refine blk_alloc ?_ _)); exact BK132.out) hg (Kd.R_ne HO_139003.out BK132.out (by decide)))
have n2_ := Aside0.mk (blk_grown (g := gb133) (o := .cells #[.slice (some ad137) l1.length c1] 32 (0, 0)) (by (with_reducible repeat (first | refine blk_drewN ?_ _ | refine blk_drew ?_ | refine blk_alloc ?_ _)); exact BK133.out) hg (Kd.R_ne HO_139003.out BK133.out (by decide)))
have n3_ := Aside0.mk (blk_grown (g := gb134) (o := .cells #[.slice (some ad136) l2.length c2] 33 (0, 0)) (by (with_reducible repeat (first | refine blk_drewN ?_ _ | refine blk_drew ?_ | refine blk_alloc ?_ _)); exact BK134.out) hg (Kd.R_ne HO_139003.out BK134.out (by decide)))
have n4_ := Aside0.mk (blk_grown (g := gb138) (o := .cells #[.string a0_0, .int .i64 (wrap64 (x34_1 + 1)), .int .i64 (rd l1 x34_1), u139003] 42 (0, 0)) (by (with_reducible repeat (first | refine blk_drewN ?_ _ | refine blk_drew ?_ | refine blk_alloc ?_ _)); exact BK138.out) hg (Kd.R_ne HO_139003.out BK138.out (by decide)))
have n5_ := Aside0.mk (hb)
have n6_ := Aside0.mk (ho)
clear HO_9
clear BK132
clear BK133
clear BK134
clear BK138
clear HB
clear HO_139003
have HO_9 := n0_
have BK132 := n1_
have BK133 := n2_
have BK134 := n3_
have BK138 := n4_
have HB := n5_
have HO143 := n6_
clear n0_ n1_ n2_ n3_ n4_ n5_ n6_
clear ho hb hg hat
obtain ⟨Ao35, co35, eo35⟩ := Kd.R_slice HO143.out
(first | subst eo35 | (injection eo35 with f1_ f2_ f3_; have f4_ := f1_.symm; have f5_ := f3_.symm; clear f1_ f2_ f3_; subst f4_; subst f5_))
refine hK.out _ _ ⟨(blk_cell BK138.out 0).trans rfl, (blk_cell BK138.out 1).trans rfl, (blk_cell BK138.out 2).trans rfl, (blk_cell BK138.out 3).trans rfl, (blk_cell BK132.out 0).trans rfl, (blk_cell BK132.out 1).trans rfl, (blk_cell BK132.out 2).trans rfl, (blk_cell BK132.out 3).trans rfl, (blk_cell BK132.out 4).trans rfl, (blk_cell BK132.out 5).trans rfl, (blk_cell BK132.out 6).trans rfl, (blk_cell BK132.out 7).trans rfl, ((HB.out.cell (World.block_lt_of_cell? w _ hw140_0)).trans hw140_0), ((HB.out.cell (World.block_lt_of_cell? w _ hw140_1)).trans hw140_1), ((HB.out.cell (World.block_lt_of_cell? w _ hw140_2)).trans hw140_2)⟩ (fun hHeld => ?_)
clear hK K
refine norm_ (a' := ?_) ?_ ?_
rotate_left
·(
show Act.put _ (some 68) _ = _
simp only [Act.put, List.setIfInBounds_toArray, List.set_cons_zero, List.set_cons_succ, i64_w, i32_w]
rfl
)
refine pure_ (i := 12) (N := some 69) (v := ?_) (a' := ?_) #[true, true, true, true, true, true, true, true, true, true, true, true, true, false] rfl rfl (any_of HT_.out (by kernel_rfl)) (fun _ _ _ h => h) (Or.inl ⟨by rfl, ?_⟩) ?_ ?_
rotate_left
·(
intro w'
go_simp
with_reducible rfl
)
rotate_left
·(
simp only [Act.put, List.setIfInBounds_toArray, List.set_cons_zero, List.set_cons_succ, i64_w, i32_w]
rfl
)
refine last_ (i := 13) (N := none) #[true, true, true, true, true, true, true, true, true, true, true, true, true, true] rfl rfl (one_of HT_.out (by kernel_rfl)) (by decide) (fun K hK => ?_)
have hs36 : w34.cell? ⟨gb138, 3, none⟩ = some (u139003) := (blk_cell BK138.out 3).trans rfl
have hfs36 := blk_frozen BK138.out 3
have hns36_0 := NB132_138.out
have hns36_1 := NB133_138.out
have hns36_2 := NB134_138.out
have hms36_0 := NB138_132.out
have hms36_1 := NB138_133.out
have hms36_2 := NB138_134.out
refine skip_ (w1 := ?_) (by rfl) rfl ?_ ?_
rotate_left
·(
go_simp
rfl
)
refine hK.out _ _ ?_
clear hK K
refine done_ (done_of HT_.out (by kernel_rfl)) ?_
try go_wp2
go_roundg k2
case measure => have := HK1.out; have := HK2.out; omega
case rel => exact ⟨(wrap64 (x50_2 + 1)), (y141), (.slice Ao35 y141.length co35), (by first | rfl | (simp; done) | (simp [*]; done)), H', ⟨by have := HK1.out; have := HK2.out; omega⟩, ⟨by (with_reducible repeat (first | apply Kd.S_alloc | apply Kd.S_drewN | apply Kd.S_drew)); exact Kd.S_mono (Kd.S_far (p := ⟨gb138, 3, none⟩) (Kd.S_mono HO_9.out (fun k_ hk => (⟨hk, hk.1⟩ : _ ∧ k_ ≠ gb138))) (fun _ hk => hk.2) (.slice Ao35 y141.length co35)) (fun _ hk => ⟨hk.1.2, hk.1.1⟩)⟩, ⟨by (with_reducible repeat (first | apply Kd.R_alloc | apply Kd.R_drewN | apply Kd.R_drew)); exact Kd.R_mono (Kd.R_far (p := ⟨gb138, 3, none⟩) (Kd.R_types HO143.out BK138.out (by decide)) (fun _ hk => hk.2) (.slice Ao35 y141.length co35)) (fun _ hk => trivial)⟩, ⟨by (with_reducible repeat (first | refine blk_drewN ?_ _ | refine blk_drew ?_ | refine blk_alloc ?_ _)); refine blk_far ?_ NB132_138.out _; (with_reducible repeat (first | refine blk_drewN ?_ _ | refine blk_drew ?_ | refine blk_alloc ?_ _)); exact BK132.out⟩, ⟨by (with_reducible repeat (first | refine blk_drewN ?_ _ | refine blk_drew ?_ | refine blk_alloc ?_ _)); refine blk_far ?_ NB133_138.out _; (with_reducible repeat (first | refine blk_drewN ?_ _ | refine blk_drew ?_ | refine blk_alloc ?_ _)); exact BK133.out⟩, ⟨by (with_reducible repeat (first | refine blk_drewN ?_ _ | refine blk_drew ?_ | refine blk_alloc ?_ _)); refine blk_far ?_ NB134_138.out _; (with_reducible repeat (first | refine blk_drewN ?_ _ | refine blk_drew ?_ | refine blk_alloc ?_ _)); exact BK134.out⟩, ⟨by (with_reducible repeat (first | refine blk_drewN ?_ _ | refine blk_drew ?_ | refine blk_alloc ?_ _)); refine blk_put (cs := #[.string a0_0, .int .i64 (wrap64 (x34_1 + 1)), .int .i64 (rd l1 x34_1), u139003]) ?_ 3 _ rfl; (with_reducible repeat (first | refine blk_drewN ?_ _ | refine blk_drew ?_ | refine blk_alloc ?_ _)); exact BK138.out⟩, ⟨by repeat (first | (with_reducible first | exact HB.out | apply below_alloc | apply pw_below_drewN | apply below_drew1 | refine below_set ?_ GE132.out | refine below_set ?_ GE133.out | refine below_set ?_ GE134.out | refine below_set ?_ GE138.out) | exact HB.out)⟩⟩
)
·(
rw [if_neg c32] at H
exact absurd H (by simp)
)
)
·(
rw [if_neg c31] at H
exact absurd H (by simp)
)
)
·(
rw [if_neg c30] at H
have c30b0 : decide (0 < (rd (rd_L5 l2 x34_1) x50_2)) = false := decide_eq_false c30
clear c30
have H' := Aside0.mk H
clear H
have p139 : 0 ≤ (x50_2 : Int) := of_decide_eq_true (by first | (with_reducible assumption) | assumption)
have q139 : x50_2 < ((rd_L5 l2 x34_1).length : Int) := of_decide_eq_true (by first | (with_reducible assumption) | assumption)
obtain ⟨ad139, e139, hx139_0⟩ := Kd.at_int HR136_0.out x50_2 p139 q139
cases e139
replace hx139_0 := (HB.out.cell (World.block_lt_of_cell? w _ hx139_0)).trans hx139_0
replace p139 := eq_true p139
replace q139 := eq_true q139
go_wp2
go_roundg k2
case measure => have := HK1.out; have := HK2.out; omega
case rel => exact ⟨(wrap64 (x50_2 + 1)), (x139003_2), (u139003), (by first | rfl | (simp; done) | (simp [*]; done)), H', ⟨by have := HK1.out; have := HK2.out; omega⟩, ⟨by (with_reducible repeat (first | apply Kd.S_alloc | apply Kd.S_drewN | apply Kd.S_drew)); exact HO_9.out⟩, ⟨by (with_reducible repeat (first | apply Kd.R_alloc | apply Kd.R_drewN | apply Kd.R_drew)); exact HO_139003.out⟩, ⟨by (with_reducible repeat (first | refine blk_drewN ?_ _ | refine blk_drew ?_ | refine blk_alloc ?_ _)); exact BK132.out⟩, ⟨by (with_reducible repeat (first | refine blk_drewN ?_ _ | refine blk_drew ?_ | refine blk_alloc ?_ _)); exact BK133.out⟩, ⟨by (with_reducible repeat (first | refine blk_drewN ?_ _ | refine blk_drew ?_ | refine blk_alloc ?_ _)); exact BK134.out⟩, ⟨by (with_reducible repeat (first | refine blk_drewN ?_ _ | refine blk_drew ?_ | refine blk_alloc ?_ _)); exact BK138.out⟩, ⟨by repeat (first | (with_reducible first | exact HB.out | apply below_alloc | apply pw_below_drewN | apply below_drew1 | refine below_set ?_ GE132.out | refine below_set ?_ GE133.out | refine below_set ?_ GE134.out | refine below_set ?_ GE138.out) | exact HB.out)⟩⟩
)
)
·(
rw [if_neg c29] at H
exact absurd H (by simp)
)
)
·(
rw [if_neg c28] at H
exact absurd H (by simp)
)
)
·(
rw [if_neg c27] at H
have c27b0 : decide (x50_2 < ((rd_L5 l2 x34_1).length : Int)) = false := decide_eq_false c27
clear c27
by_cases c37 : x9_1.length < 2513169434916
·(
rw [if_pos c37] at H
have LMc37 := Aside0.mk c37
clear c37
obtain ⟨y144, hy144⟩ : ∃ y_ : List (S42), y_ = (x9_1 ++ [(⟨a0_0, (wrap64 (x34_1 + 1)), (rd l1 x34_1), x139003_2⟩ : S42)]) := ⟨_, rfl⟩
replace H : (order_Cut.l0 k2 y144 l2 (l2.length : Int) (wrap64 (x34_1 + 1)) a0_0 a0_1 a0_2 a0_3 a0_4 a0_5 a0_6 l0_7 l1) = some (r1, r2) := by first | (rw [hy144]; with_reducible exact H) | (have H2_ := (Option.bind_some _ _).symm.trans H; rw [hy144]; with_reducible exact H2_) | (have H2_ := (Option.bind_some _ _).symm.trans H; with_reducible exact H2_) | with_reducible exact H | (rw [hy144]; exact H) | exact H
have Ny144 := Aside0.mk hy144
clear hy144
have H' := Aside0.mk H
clear H
have hnb38 := NB138_132.out
have hnc38 := NB132_138.out
have hnb39 := NB138_133.out
have hnc39 := NB133_138.out
have hnb40 := NB138_134.out
have hnc40 := NB134_138.out
have hcz41_0 : wr.cell? ⟨gb138, 0, none⟩ = some (.string a0_0) := (blk_cell BK138.out 0).trans rfl
have hcz41_1 : wr.cell? ⟨gb138, 1, none⟩ = some (.int .i64 (wrap64 (x34_1 + 1))) := (blk_cell BK138.out 1).trans rfl
have hcz41_2 : wr.cell? ⟨gb138, 2, none⟩ = some (.int .i64 (rd l1 x34_1)) := (blk_cell BK138.out 2).trans rfl
have hcz41_3 : wr.cell? ⟨gb138, 3, none⟩ = some (u139003) := (blk_cell BK138.out 3).trans rfl
have hfz41_0 := blk_frozen BK138.out 0
have hfz41_1 := blk_frozen BK138.out 1
have hfz41_2 := blk_frozen BK138.out 2
have hfz41_3 := blk_frozen BK138.out 3
obtain ⟨Ao43, co43, eo43⟩ := Kd.R_slice HO_139003.out
subst eo43
go_wp2_with (first | ((with_reducible refine gate_builtin (b := .append) (xs := #[.tmp 71, .tmp 73]) rfl ?_); at_builtin; refine Kd.S_append k42 (w0 := w) w.heap.size rfl (.tmp 71) (.tmp 73) 34 42 (.agg #[(.string ⟨#[]⟩), (.int .i64 0), (.int .i64 0), (.slice none 0 0)]) 56 rfl Try.underlying34 info42 rfl (by decide) (by omega) u9 x9_1 (⟨a0_0, (wrap64 (x34_1 + 1)), (rd l1 x34_1), x139003_2⟩ : S42) [.string a0_0, .int .i64 (wrap64 (x34_1 + 1)), .int .i64 (rd l1 x34_1), .slice Ao43 x139003_2.length co43] (fun k_ => k_ ≠ gb138) (fun k_ => some k_ = (.slice Ao43 x139003_2.length co43 : Value).ownBlock) rfl rfl ?aP (fun k_ hk_ => ((Kd.R_mono (ok' := fun k_ => ((fun k_ => k_ ≠ gb138)) k_ ∧ some k_ ≠ (u9 : Value).ownBlock) (Kd.R_types (Kd.R_apart' (HO_139003.out) (Kd.S_typed HO_9.out) (by decide)) BK138.out (by decide)) (fun k_ hk => ⟨hk.2, hk.1.2⟩))).1 k_ hk_.symm) ?aF ?aO ?aB ?aS ?aL ?_; (case aP => exact k42_mkM _ _ _ (⟨a0_0, (wrap64 (x34_1 + 1)), (rd l1 x34_1), x139003_2⟩ : S42) (Kd.R_mono (Kd.R_tight rfl (Kd.R_mono (ok' := fun k_ => ((fun k_ => k_ ≠ gb138)) k_ ∧ some k_ ≠ (u9 : Value).ownBlock) (Kd.R_types (Kd.R_apart' (HO_139003.out) (Kd.S_typed HO_9.out) (by decide)) BK138.out (by decide)) (fun k_ hk => ⟨hk.2, hk.1.2⟩))) (fun _ h_ => h_))); (case aB => exact (by repeat (first | (with_reducible first | exact HB.out | apply below_alloc | apply pw_below_drewN | apply below_drew1 | refine below_set ?_ GE132.out | refine below_set ?_ GE133.out | refine below_set ?_ GE134.out | refine below_set ?_ GE138.out) | exact HB.out))); (case aF => exact (fun k_ hk => Kd.freshB (g := gb138) (o := .cells #[.string a0_0, .int .i64 (wrap64 (x34_1 + 1)), .int .i64 (rd l1 x34_1), .slice Ao43 x139003_2.length co43] 42 (0, 0)) (by (with_reducible repeat (first | refine blk_drewN ?_ _ | refine blk_drew ?_ | refine blk_alloc ?_ _)); exact BK138.out) k_ hk)); (case aO => exact (by (with_reducible repeat (first | apply Kd.S_alloc | apply Kd.S_drewN | apply Kd.S_drew)); exact Kd.S_mono HO_9.out (fun k_ hk => ⟨hk.2, fun e_ => hk.1 e_⟩))); (case aS => exact (below_size (by repeat (first | (with_reducible first | exact HB.out | apply below_alloc | apply pw_below_drewN | apply below_drew1 | refine below_set ?_ GE132.out | refine below_set ?_ GE133.out | refine below_set ?_ GE134.out | refine below_set ?_ GE138.out) | exact HB.out)))); (case aL => have := LMc37.out; omega); intro v145 w42 ho hb hg hat; rw [← Ny144.out] at ho; have n0_ := Aside0.mk (blk_grown (g := gb132) (o := .cells #[.string a0_0, .string a0_1, .string a0_2, .string a0_3, .string a0_4, .string a0_5, .int .i64 a0_6, .slice A0_7 l0_7.length c0_7] 24 (0, 0)) (by (with_reducible repeat (first | refine blk_drewN ?_ _ | refine blk_drew ?_ | refine blk_alloc ?_ _)); exact BK132.out) hg (Kd.S_ne HO_9.out BK132.out (by decide))); have n1_ := Aside0.mk (blk_grown (g := gb133) (o := .cells #[.slice (some ad137) l1.length c1] 32 (0, 0)) (by (with_reducible repeat (first | refine blk_drewN ?_ _ | refine blk_drew ?_ | refine blk_alloc ?_ _)); exact BK133.out) hg (Kd.S_ne HO_9.out BK133.out (by decide))); have n2_ := Aside0.mk (blk_grown (g := gb134) (o := .cells #[.slice (some ad136) l2.length c2] 33 (0, 0)) (by (with_reducible repeat (first | refine blk_drewN ?_ _ | refine blk_drew ?_ | refine blk_alloc ?_ _)); exact BK134.out) hg (Kd.S_ne HO_9.out BK134.out (by decide))); have n3_ := Aside0.mk (blk_grown (g := gb138) (o := .cells #[.string a0_0, .int .i64 (wrap64 (x34_1 + 1)), .int .i64 (rd l1 x34_1), .slice Ao43 x139003_2.length co43] 42 (0, 0)) (by (with_reducible repeat (first | refine blk_drewN ?_ _ | refine blk_drew ?_ | refine blk_alloc ?_ _)); exact BK138.out) hg (Kd.S_away HO_9.out (fun _ hk => hk.2))); have n4_ := Aside0.mk (hb); have n5_ := Aside0.mk (ho); clear BK132; clear BK133; clear BK134; clear BK138; clear HB; clear HO_9; clear HO_139003; have BK132 := n0_; have BK133 := n1_; have BK134 := n2_; have BK138 := n3_; have HB := n4_; have HO146 := n5_; clear n0_ n1_ n2_ n3_ n4_ n5_; clear ho hb hg hat))
go_roundg k2
case measure => have := HK1.out; have := HK2.out; omega
case rel => exact ⟨(y144), (wrap64 (x34_1 + 1)), (by first | rfl | (simp; done) | (simp [*]; done)), H', ⟨by have := HK1.out; have := HK2.out; omega⟩, ⟨by (with_reducible repeat (first | apply Kd.S_alloc | apply Kd.S_drewN | apply Kd.S_drew)); exact Kd.S_mono HO146.out (fun _ hk => trivial)⟩, ⟨by (with_reducible repeat (first | refine blk_drewN ?_ _ | refine blk_drew ?_ | refine blk_alloc ?_ _)); exact BK132.out⟩, ⟨by (with_reducible repeat (first | refine blk_drewN ?_ _ | refine blk_drew ?_ | refine blk_alloc ?_ _)); exact BK133.out⟩, ⟨by (with_reducible repeat (first | refine blk_drewN ?_ _ | refine blk_drew ?_ | refine blk_alloc ?_ _)); exact BK134.out⟩, ⟨by repeat (first | (with_reducible first | exact HB.out | apply below_alloc | apply pw_below_drewN | apply below_drew1 | refine below_set ?_ GE132.out | refine below_set ?_ GE133.out | refine below_set ?_ GE134.out | refine below_set ?_ GE138.out) | exact HB.out)⟩⟩
)
·(
rw [if_neg c37] at H
exact absurd H (by simp)
)
)
)
)
)
·(
rw [if_neg c20] at H
exact absurd H (by simp)
)
)
·(
rw [if_neg c19] at H
exact absurd H (by simp)
)
)
·(
rw [if_neg c18] at H
exact absurd H (by simp)
)
)
·(
rw [if_neg c17] at H
have c17b0 : decide (x34_1 < (l2.length : Int)) = false := decide_eq_false c17
clear c17
simp only [Option.some.injEq, Prod.mk.injEq] at H
obtain ⟨rfl, rfl⟩ := H
go_wp2
go_ret2
exact ⟨_, by first | rfl | (simp [errW_none, errW_some] <;> rfl) | (simp [*, errW_none, errW_some] <;> rfl), by (with_reducible repeat (first | apply Kd.S_alloc | apply Kd.S_drewN | apply Kd.S_drew)); exact HO_9.out, by repeat (first | (with_reducible first | exact HB.out | apply below_alloc | apply pw_below_drewN | apply below_drew1 | refine below_set ?_ GE132.out | refine below_set ?_ GE133.out | refine below_set ?_ GE134.out) | exact HB.out)⟩
)
)
)
)
 ·(
rw [if_neg c5] at H
have c5b0 : (t135 == 0) = false := beq_eq_false_iff_ne.mpr c5
have c5b1 : (t135 != 0) = true := bne_iff_ne.mpr c5
simp only [Option.some.injEq, Prod.mk.injEq] at H
obtain ⟨rfl, rfl⟩ := H
go_enter Try.func19, Try.ntmps19
go_wp2_with (first | ((with_reducible refine gate_dst (N := 3) rfl ?_); refine box_event ?hg (N := 3) ?hd (cs := #[.string a0_0, .string a0_1, .string a0_2, .string a0_3, .string a0_4, .string a0_5, .int .i64 a0_6, .slice A0_7 l0_7.length c0_7]) (t := 24) ?hr ?_; (case hd => rfl); (case hg => rfl); (case hr => first | (go_simp; done) | (go_simp; rfl)); intro gb132 hg w44 hbox hb; have n0_ := Aside0.mk (below_step (by repeat (first | (with_reducible first | exact HB.out | apply below_alloc | apply pw_below_drewN | apply below_drew1) | exact HB.out)) hb); have n1_ := Aside0.mk (hbox); have n2_ := Aside0.mk ((by rw [hg]; exact (below_size (by repeat (first | (with_reducible first | exact HB.out | apply below_alloc | apply pw_below_drewN | apply below_drew1) | exact HB.out))) : w.heap.size ≤ gb132)); have n3_ := Aside0.mk ((by rw [hg]; exact (below_size (by repeat (first | (with_reducible first | exact HB.out | apply below_alloc | apply pw_below_drewN | apply below_drew1) | exact HB.out))) : w.heap.size ≤ gb132)); clear HB; have HB := n0_; have BK132 := n1_; have GW132 := n2_; have GE132 := n3_; clear n0_ n1_ n2_ n3_; clear hb hbox hg) | ((with_reducible refine gate_dst (N := 4) rfl ?_); refine box_event ?hg (N := 4) ?hd (cs := #[.slice A1 l1.length c1]) (t := 32) ?hr ?_; (case hd => rfl); (case hg => rfl); (case hr => first | (go_simp; done) | (go_simp; rfl)); intro gb133 hg w45 hbox hb; have n0_ := Aside0.mk (blk_below (g := gb132) (o := .cells #[.string a0_0, .string a0_1, .string a0_2, .string a0_3, .string a0_4, .string a0_5, .int .i64 a0_6, .slice A0_7 l0_7.length c0_7] 24 (0, 0)) (by (with_reducible repeat (first | refine blk_drewN ?_ _ | refine blk_drew ?_ | refine blk_alloc ?_ _)); exact BK132.out) hb); have n1_ := Aside0.mk (below_step (by repeat (first | (with_reducible first | exact HB.out | apply below_alloc | apply pw_below_drewN | apply below_drew1 | refine below_set ?_ GE132.out) | exact HB.out)) hb); have n2_ := Aside0.mk (hbox); have n3_ := Aside0.mk ((by rw [hg]; exact (below_size (by repeat (first | (with_reducible first | exact HB.out | apply below_alloc | apply pw_below_drewN | apply below_drew1 | refine below_set ?_ GE132.out) | exact HB.out))) : w.heap.size ≤ gb133)); have n4_ := Aside0.mk ((by rw [hg]; exact (below_size (by repeat (first | (with_reducible first | exact HB.out | apply below_alloc | apply pw_below_drewN | apply below_drew1 | refine below_set ?_ GE132.out) | exact HB.out))) : w.heap.size ≤ gb133)); have n5_ := Aside0.mk ((by rw [hg]; exact Nat.ne_of_lt (blk_lt (g := gb132) (o := .cells #[.string a0_0, .string a0_1, .string a0_2, .string a0_3, .string a0_4, .string a0_5, .int .i64 a0_6, .slice A0_7 l0_7.length c0_7] 24 (0, 0)) (by (with_reducible repeat (first | refine blk_drewN ?_ _ | refine blk_drew ?_ | refine blk_alloc ?_ _)); exact BK132.out)) : gb132 ≠ gb133)); have n6_ := Aside0.mk ((by rw [hg]; exact Nat.ne_of_gt (blk_lt (g := gb132) (o := .cells #[.string a0_0, .string a0_1, .string a0_2, .string a0_3, .string a0_4, .string a0_5, .int .i64 a0_6, .slice A0_7 l0_7.length c0_7] 24 (0, 0)) (by (with_reducible repeat (first | refine blk_drewN ?_ _ | refine blk_drew ?_ | refine blk_alloc ?_ _)); exact BK132.out)) : gb133 ≠ gb132)); clear BK132; clear HB; have BK132 := n0_; have HB := n1_; have BK133 := n2_; have GW133 := n3_; have GE133 := n4_; have NB132_133 := n5_; have NB133_132 := n6_; clear n0_ n1_ n2_ n3_ n4_ n5_ n6_; clear hb hbox hg) | ((with_reducible refine gate_dst (N := 5) rfl ?_); refine box_event ?hg (N := 5) ?hd (cs := #[.slice A2 l2.length c2]) (t := 33) ?hr ?_; (case hd => rfl); (case hg => rfl); (case hr => first | (go_simp; done) | (go_simp; rfl)); intro gb134 hg w46 hbox hb; have n0_ := Aside0.mk (blk_below (g := gb132) (o := .cells #[.string a0_0, .string a0_1, .string a0_2, .string a0_3, .string a0_4, .string a0_5, .int .i64 a0_6, .slice A0_7 l0_7.length c0_7] 24 (0, 0)) (by (with_reducible repeat (first | refine blk_drewN ?_ _ | refine blk_drew ?_ | refine blk_alloc ?_ _)); exact BK132.out) hb); have n1_ := Aside0.mk (blk_below (g := gb133) (o := .cells #[.slice A1 l1.length c1] 32 (0, 0)) (by (with_reducible repeat (first | refine blk_drewN ?_ _ | refine blk_drew ?_ | refine blk_alloc ?_ _)); exact BK133.out) hb); have n2_ := Aside0.mk (below_step (by repeat (first | (with_reducible first | exact HB.out | apply below_alloc | apply pw_below_drewN | apply below_drew1 | refine below_set ?_ GE132.out | refine below_set ?_ GE133.out) | exact HB.out)) hb); have n3_ := Aside0.mk (hbox); have n4_ := Aside0.mk ((by rw [hg]; exact (below_size (by repeat (first | (with_reducible first | exact HB.out | apply below_alloc | apply pw_below_drewN | apply below_drew1 | refine below_set ?_ GE132.out | refine below_set ?_ GE133.out) | exact HB.out))) : w.heap.size ≤ gb134)); have n5_ := Aside0.mk ((by rw [hg]; exact (below_size (by repeat (first | (with_reducible first | exact HB.out | apply below_alloc | apply pw_below_drewN | apply below_drew1 | refine below_set ?_ GE132.out | refine below_set ?_ GE133.out) | exact HB.out))) : w.heap.size ≤ gb134)); have n6_ := Aside0.mk ((by rw [hg]; exact Nat.ne_of_lt (blk_lt (g := gb132) (o := .cells #[.string a0_0, .string a0_1, .string a0_2, .string a0_3, .string a0_4, .string a0_5, .int .i64 a0_6, .slice A0_7 l0_7.length c0_7] 24 (0, 0)) (by (with_reducible repeat (first | refine blk_drewN ?_ _ | refine blk_drew ?_ | refine blk_alloc ?_ _)); exact BK132.out)) : gb132 ≠ gb134)); have n7_ := Aside0.mk ((by rw [hg]; exact Nat.ne_of_gt (blk_lt (g := gb132) (o := .cells #[.string a0_0, .string a0_1, .string a0_2, .string a0_3, .string a0_4, .string a0_5, .int .i64 a0_6, .slice A0_7 l0_7.length c0_7] 24 (0, 0)) (by (with_reducible repeat (first | refine blk_drewN ?_ _ | refine blk_drew ?_ | refine blk_alloc ?_ _)); exact BK132.out)) : gb134 ≠ gb132)); have n8_ := Aside0.mk ((by rw [hg]; exact Nat.ne_of_lt (blk_lt (g := gb133) (o := .cells #[.slice A1 l1.length c1] 32 (0, 0)) (by (with_reducible repeat (first | refine blk_drewN ?_ _ | refine blk_drew ?_ | refine blk_alloc ?_ _)); exact BK133.out)) : gb133 ≠ gb134)); have n9_ := Aside0.mk ((by rw [hg]; exact Nat.ne_of_gt (blk_lt (g := gb133) (o := .cells #[.slice A1 l1.length c1] 32 (0, 0)) (by (with_reducible repeat (first | refine blk_drewN ?_ _ | refine blk_drew ?_ | refine blk_alloc ?_ _)); exact BK133.out)) : gb134 ≠ gb133)); clear BK132; clear BK133; clear HB; have BK132 := n0_; have BK133 := n1_; have HB := n2_; have BK134 := n3_; have GW134 := n4_; have GE134 := n5_; have NB132_134 := n6_; have NB134_132 := n7_; have NB133_134 := n8_; have NB134_133 := n9_; clear n0_ n1_ n2_ n3_ n4_ n5_ n6_ n7_ n8_ n9_; clear hb hbox hg; have hnb47 := NB132_133.out; have hnc47 := NB133_132.out; have hnb48 := NB132_134.out; have hnc48 := NB134_132.out; have hcz49_0 : w46.cell? ⟨gb132, 0, none⟩ = some (.string a0_0) := (blk_cell BK132.out 0).trans rfl; have hcz49_1 : w46.cell? ⟨gb132, 1, none⟩ = some (.string a0_1) := (blk_cell BK132.out 1).trans rfl; have hcz49_2 : w46.cell? ⟨gb132, 2, none⟩ = some (.string a0_2) := (blk_cell BK132.out 2).trans rfl; have hcz49_3 : w46.cell? ⟨gb132, 3, none⟩ = some (.string a0_3) := (blk_cell BK132.out 3).trans rfl; have hcz49_4 : w46.cell? ⟨gb132, 4, none⟩ = some (.string a0_4) := (blk_cell BK132.out 4).trans rfl; have hcz49_5 : w46.cell? ⟨gb132, 5, none⟩ = some (.string a0_5) := (blk_cell BK132.out 5).trans rfl; have hcz49_6 : w46.cell? ⟨gb132, 6, none⟩ = some (.int .i64 a0_6) := (blk_cell BK132.out 6).trans rfl; have hcz49_7 : w46.cell? ⟨gb132, 7, none⟩ = some (.slice A0_7 l0_7.length c0_7) := (blk_cell BK132.out 7).trans rfl; have hfz49_0 := blk_frozen BK132.out 0; have hfz49_1 := blk_frozen BK132.out 1; have hfz49_2 := blk_frozen BK132.out 2; have hfz49_3 := blk_frozen BK132.out 3; have hfz49_4 := blk_frozen BK132.out 4; have hfz49_5 := blk_frozen BK132.out 5; have hfz49_6 := blk_frozen BK132.out 6; have hfz49_7 := blk_frozen BK132.out 7; have hnb50 := NB133_134.out; have hnc50 := NB134_133.out; have hcz51_0 : w46.cell? ⟨gb133, 0, none⟩ = some (.slice A1 l1.length c1) := (blk_cell BK133.out 0).trans rfl; have hfz51_0 := blk_frozen BK133.out 0; have hcz52_0 : w46.cell? ⟨gb134, 0, none⟩ = some (.slice A2 l2.length c2) := (blk_cell BK134.out 0).trans rfl; have hfz52_0 := blk_frozen BK134.out 0) | (go_at_call 43; refine (ask_cut gb132 gb133 gb134 _ k a0_0 a0_1 a0_2 a0_3 a0_4 a0_5 a0_6 A0_7 c0_7 l0_7 A1 c1 l1 A2 c2 l2 t135 _ ?b0 ?b1 ?b2 ?bk ?side1 ?side2 ?side3 ?side4 ?side5 ?side6 A4.out).mono ?_; (case b0 => exact blk_alloc BK132.out _); (case b1 => exact blk_alloc BK133.out _); (case b2 => exact blk_alloc BK134.out _); (case bk => exact blk_new _ _); (case side1 => repeat (first | exact (Kd.C_below HR0_7.out HB.out) | (with_reducible refine Kd.C_alloc ?_ _) | (with_reducible refine Kd.C_drewN ?_ _) | (with_reducible refine Kd.C_drew ?_))); (case side2 => exact HC0_7.out); (case side3 => repeat (first | exact (Kd.C_below HR1.out HB.out) | (with_reducible refine Kd.C_alloc ?_ _) | (with_reducible refine Kd.C_drewN ?_ _) | (with_reducible refine Kd.C_drew ?_))); (case side4 => exact HC1.out); (case side5 => repeat (first | exact (Kd.C_below HR2.out HB.out) | (with_reducible refine Kd.C_alloc ?_ _) | (with_reducible refine Kd.C_drewN ?_ _) | (with_reducible refine Kd.C_drew ?_))); (case side6 => exact HC2.out); rintro e w53 ⟨rfl, hb⟩; have n0_ := Aside0.mk (blk_below (g := gb132) (o := .cells #[.string a0_0, .string a0_1, .string a0_2, .string a0_3, .string a0_4, .string a0_5, .int .i64 a0_6, .slice A0_7 l0_7.length c0_7] 24 (0, 0)) (by (with_reducible repeat (first | refine blk_drewN ?_ _ | refine blk_drew ?_ | refine blk_alloc ?_ _)); exact BK132.out) hb); have n1_ := Aside0.mk (blk_below (g := gb133) (o := .cells #[.slice A1 l1.length c1] 32 (0, 0)) (by (with_reducible repeat (first | refine blk_drewN ?_ _ | refine blk_drew ?_ | refine blk_alloc ?_ _)); exact BK133.out) hb); have n2_ := Aside0.mk (blk_below (g := gb134) (o := .cells #[.slice A2 l2.length c2] 33 (0, 0)) (by (with_reducible repeat (first | refine blk_drewN ?_ _ | refine blk_drew ?_ | refine blk_alloc ?_ _)); exact BK134.out) hb); have n3_ := Aside0.mk (below_step (by repeat (first | (with_reducible first | exact HB.out | apply below_alloc | apply pw_below_drewN | apply below_drew1 | refine below_set ?_ GE132.out | refine below_set ?_ GE133.out | refine below_set ?_ GE134.out) | exact HB.out)) hb); clear BK132; clear BK133; clear BK134; clear HB; have BK132 := n0_; have BK133 := n1_; have BK134 := n2_; have HB := n3_; clear n0_ n1_ n2_ n3_; (try clear hb); (try clear hb2); (try clear hk); (try clear hi)))
go_ret2
exact ⟨_, by first | rfl | (simp [errW_none, errW_some] <;> rfl) | (simp [*, errW_none, errW_some] <;> rfl), by first | exact Kd.S_nil _ _ _ _ _ | exact Kd.N_nil _ _ _ _ _ | exact Kd.V_nil _ _ _ _ _ | exact Kd.Q_nil _ _ _ _ _ | exact Kd.R_nil _ _ _ _ _, by repeat (first | (with_reducible first | exact HB.out | apply below_alloc | apply pw_below_drewN | apply below_drew1 | refine below_set ?_ GE132.out | refine below_set ?_ GE133.out | refine below_set ?_ GE134.out) | exact HB.out)⟩
)

end Go.Proofs.Ytlhaaccdiienbaa.X
