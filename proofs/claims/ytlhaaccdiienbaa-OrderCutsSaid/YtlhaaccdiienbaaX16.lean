-- Written for this claim by a program of this session (wip/tools/xprint.py) out of the translation.
import Derived.Test.YtlhaaccdiienbaaX0
import Derived.Test.YtlhaaccdiienbaaX6
import Derived.Test.YtlhaaccdiienbaaX13
import Derived.Test.YtlhaaccdiienbaaX15
import Derived.Test.YtlhaaccdiienbaaEAwake
import Derived.Test.YtlhaaccdiienbaaECut
namespace Go.Proofs.Ytlhaaccdiienbaa.X
open Go.RowKit Go.Proofs.YtlhaaccdiienbaaW.PrintWords Go.Proofs.YtlhaaccdiienbaaW.PrintLast Go.Proofs.YtlhaaccdiienbaaW.PrintMore
attribute [local go_sem] max2_int min2_int max_two min_two max_three min_three max_four min_four   -- for this text's walks alone
set_option linter.unusedVariables false
set_option linter.unusedSimpArgs false

mutual
def supercargolaw19_OrderCuts.j0 : Nat → List Int → List (List Int) → Bool → ByteArray → ByteArray → ByteArray → ByteArray → ByteArray → ByteArray → Int → List (S65) → Option (Bool)
 | 0, _, _, _, _, _, _, _, _, _, _, _ => none
 | k + 1, x1, x2, x26, x230000, x230001, x230002, x230003, x230004, x230005, x230006, x230007 => if x26 = true then (some true) else (supercargolaw19_OrderCuts.l0 k x1 x2 0 x230000 x230001 x230002 x230003 x230004 x230005 x230006 x230007)
def supercargolaw19_OrderCuts.l0 : Nat → List Int → List (List Int) → Int → ByteArray → ByteArray → ByteArray → ByteArray → ByteArray → ByteArray → Int → List (S65) → Option (Bool)
 | 0, _, _, _, _, _, _, _, _, _, _, _ => none
 | k + 1, x1, x2, x7, x230000, x230001, x230002, x230003, x230004, x230005, x230006, x230007 => if x7 < (x2.length : Int) then (if 0 ≤ x7 then (if ((rd_L5 x2 x7).length : Int) > 70 then (some true) else (supercargolaw19_OrderCuts.l0 k x1 x2 (wrap64 (x7 + 1)) x230000 x230001 x230002 x230003 x230004 x230005 x230006 x230007)) else (none)) else ((order_Cut.f k x230000 x230001 x230002 x230003 x230004 x230005 x230006 x230007 x1 x2).bind fun bt233 => ((sr19_Cut.f k x230000 x230001 x230002 x230003 x230004 x230005 x230006 x230007 x1 x2).bind fun bt237 => ((sr19_Cuts.f k bt233.1 bt237.1).bind fun t241 => (if t241 = true then (some (bt233.2 == bt237.2)) else (some false)))))
end
def supercargolaw19_OrderCuts.f (k : Nat) (a0_0 : ByteArray) (a0_1 : ByteArray) (a0_2 : ByteArray) (a0_3 : ByteArray) (a0_4 : ByteArray) (a0_5 : ByteArray) (a0_6 : Int) (l0_7 : List (S65)) (l1 : List Int) (l2 : List (List Int)) : Option (Bool) := (supercargolaw19_awake.f k).bind fun t230 => (if t230 = true then ((sr19_Few.f k a0_0 a0_1 a0_2 a0_3 a0_4 a0_5 a0_6 l0_7 ([] : List (S42))).bind fun t231 => (if t231 = true then (if (l1.length : Int) > 70 then (supercargolaw19_OrderCuts.j0 k l1 l2 true a0_0 a0_1 a0_2 a0_3 a0_4 a0_5 a0_6 l0_7) else (supercargolaw19_OrderCuts.j0 k l1 l2 (decide ((l2.length : Int) > 70)) a0_0 a0_1 a0_2 a0_3 a0_4 a0_5 a0_6 l0_7)) else (supercargolaw19_OrderCuts.j0 k l1 l2 true a0_0 a0_1 a0_2 a0_3 a0_4 a0_5 a0_6 l0_7))) else (some false))
theorem supercargolaw19_OrderCuts.mono_l : ∀ k, (∀ y0 y1 y2 y3 y4 y5 y6 y7 y8 y9 y10, LeO (supercargolaw19_OrderCuts.j0 k y0 y1 y2 y3 y4 y5 y6 y7 y8 y9 y10) (supercargolaw19_OrderCuts.j0 (k + 1) y0 y1 y2 y3 y4 y5 y6 y7 y8 y9 y10)) ∧ (∀ y0 y1 y2 y3 y4 y5 y6 y7 y8 y9 y10, LeO (supercargolaw19_OrderCuts.l0 k y0 y1 y2 y3 y4 y5 y6 y7 y8 y9 y10) (supercargolaw19_OrderCuts.l0 (k + 1) y0 y1 y2 y3 y4 y5 y6 y7 y8 y9 y10))
 | 0 => ⟨fun _ _ _ _ _ _ _ _ _ _ _ r h => by simp [supercargolaw19_OrderCuts.j0] at h, fun _ _ _ _ _ _ _ _ _ _ _ r h => by simp [supercargolaw19_OrderCuts.l0] at h⟩
 | k + 1 => by
  obtain ⟨ih0, ih1⟩ := supercargolaw19_OrderCuts.mono_l k
  refine ⟨?_, ?_⟩
  ·intro y0 y1 y2 y3 y4 y5 y6 y7 y8 y9 y10
   unfold supercargolaw19_OrderCuts.j0
   repeat' first
   | (with_reducible exact ih0 _ _ _ _ _ _ _ _ _ _ _)
   | (with_reducible exact ih1 _ _ _ _ _ _ _ _ _ _ _)
   | (with_reducible exact order_Cut.mono _ _ _ _ _ _ _ _ _ _ _)
   | (with_reducible exact supercargolaw19_awake.mono _)
   | (with_reducible exact sr19_Cut.mono _ _ _ _ _ _ _ _ _ _ _)
   | (with_reducible exact sr19_Cuts.mono _ _ _)
   | (with_reducible exact sr19_Few.mono _ _ _ _ _ _ _ _ _ _)
   | (with_reducible exact LeO.refl _)
   | (with_reducible exact LeO.none _)
   | (with_reducible refine LeO.ite ?_ ?_)
   | (with_reducible refine LeO.bind ?_ (fun _ => ?_))
   | exact ih0 _ _ _ _ _ _ _ _ _ _ _
   | exact ih1 _ _ _ _ _ _ _ _ _ _ _
   | exact order_Cut.mono _ _ _ _ _ _ _ _ _ _ _
   | exact supercargolaw19_awake.mono _
   | exact sr19_Cut.mono _ _ _ _ _ _ _ _ _ _ _
   | exact sr19_Cuts.mono _ _ _
   | exact sr19_Few.mono _ _ _ _ _ _ _ _ _ _
   | exact LeO.none _
   | refine LeO.ite ?_ ?_
   | refine LeO.bind ?_ (fun _ => ?_)
  ·intro y0 y1 y2 y3 y4 y5 y6 y7 y8 y9 y10
   unfold supercargolaw19_OrderCuts.l0
   repeat' first
   | (with_reducible exact ih0 _ _ _ _ _ _ _ _ _ _ _)
   | (with_reducible exact ih1 _ _ _ _ _ _ _ _ _ _ _)
   | (with_reducible exact order_Cut.mono _ _ _ _ _ _ _ _ _ _ _)
   | (with_reducible exact supercargolaw19_awake.mono _)
   | (with_reducible exact sr19_Cut.mono _ _ _ _ _ _ _ _ _ _ _)
   | (with_reducible exact sr19_Cuts.mono _ _ _)
   | (with_reducible exact sr19_Few.mono _ _ _ _ _ _ _ _ _ _)
   | (with_reducible exact LeO.refl _)
   | (with_reducible exact LeO.none _)
   | (with_reducible refine LeO.ite ?_ ?_)
   | (with_reducible refine LeO.bind ?_ (fun _ => ?_))
   | exact ih0 _ _ _ _ _ _ _ _ _ _ _
   | exact ih1 _ _ _ _ _ _ _ _ _ _ _
   | exact order_Cut.mono _ _ _ _ _ _ _ _ _ _ _
   | exact supercargolaw19_awake.mono _
   | exact sr19_Cut.mono _ _ _ _ _ _ _ _ _ _ _
   | exact sr19_Cuts.mono _ _ _
   | exact sr19_Few.mono _ _ _ _ _ _ _ _ _ _
   | exact LeO.none _
   | refine LeO.ite ?_ ?_
   | refine LeO.bind ?_ (fun _ => ?_)
theorem supercargolaw19_OrderCuts.mono : ∀ a0 a1 a2 a3 a4 a5 a6 a7 a8 a9 k, LeO (supercargolaw19_OrderCuts.f k a0 a1 a2 a3 a4 a5 a6 a7 a8 a9) (supercargolaw19_OrderCuts.f (k + 1) a0 a1 a2 a3 a4 a5 a6 a7 a8 a9) := by
 intro a0 a1 a2 a3 a4 a5 a6 a7 a8 a9 k
 obtain ⟨ih0, ih1⟩ := supercargolaw19_OrderCuts.mono_l k
 unfold supercargolaw19_OrderCuts.f
 repeat' first
   | (with_reducible exact ih0 _ _ _ _ _ _ _ _ _ _ _)
   | (with_reducible exact ih1 _ _ _ _ _ _ _ _ _ _ _)
   | (with_reducible exact order_Cut.mono _ _ _ _ _ _ _ _ _ _ _)
   | (with_reducible exact supercargolaw19_awake.mono _)
   | (with_reducible exact sr19_Cut.mono _ _ _ _ _ _ _ _ _ _ _)
   | (with_reducible exact sr19_Cuts.mono _ _ _)
   | (with_reducible exact sr19_Few.mono _ _ _ _ _ _ _ _ _ _)
   | (with_reducible exact LeO.refl _)
   | (with_reducible exact LeO.none _)
   | (with_reducible refine LeO.ite ?_ ?_)
   | (with_reducible refine LeO.bind ?_ (fun _ => ?_))
   | exact ih0 _ _ _ _ _ _ _ _ _ _ _
   | exact ih1 _ _ _ _ _ _ _ _ _ _ _
   | exact order_Cut.mono _ _ _ _ _ _ _ _ _ _ _
   | exact supercargolaw19_awake.mono _
   | exact sr19_Cut.mono _ _ _ _ _ _ _ _ _ _ _
   | exact sr19_Cuts.mono _ _ _
   | exact sr19_Few.mono _ _ _ _ _ _ _ _ _ _
   | exact LeO.none _
   | refine LeO.ite ?_ ?_
   | refine LeO.bind ?_ (fun _ => ?_)
set_option maxHeartbeats 8000000 in
set_option maxRecDepth 100000 in
theorem supercargolaw19_OrderCuts.calls (k : Nat) (a0_0 : ByteArray) (a0_1 : ByteArray) (a0_2 : ByteArray) (a0_3 : ByteArray) (a0_4 : ByteArray) (a0_5 : ByteArray) (a0_6 : Int) (A0_7 : Option Addr) (c0_7 : Nat) (l0_7 : List (S65)) (A1 : Option Addr) (c1 : Nat) (l1 : List Int) (A2 : Option Addr) (c2 : Nat) (l2 : List (List Int)) (r : Bool) (w : World) (hr0_7 : Kd.C k65 w A0_7 l0_7.length l0_7) (hc0_7 : l0_7.length ≤ c0_7) (hr1 : Kd.C (Kd.int .i64) w A1 l1.length l1) (hc1 : l1.length ≤ c1) (hr2 : Kd.C (Kd.slice 3 (Kd.int .i64)) w A2 l2.length l2) (hc2 : l2.length ≤ c2) (h : supercargolaw19_OrderCuts.f k a0_0 a0_1 a0_2 a0_3 a0_4 a0_5 a0_6 l0_7 l1 l2 = some r) (hT : Aside0 (r = true)) :
  Calls Try.prog 4 #[.agg #[.string a0_0, .string a0_1, .string a0_2, .string a0_3, .string a0_4, .string a0_5, .int .i64 a0_6, .slice A0_7 l0_7.length c0_7], .slice A1 l1.length c1, .slice A2 l2.length c2] w fun e w' => e = .returned (.bool r) ∧ Below w.heap.size w w' := by
 have hu24 := Try.underlying24
 have HR0_7 := Aside0.mk hr0_7
 have HC0_7 := Aside0.mk hc0_7
 clear hr0_7 hc0_7
 have HR1 := Aside0.mk hr1
 have HC1 := Aside0.mk hc1
 clear hr1 hc1
 have HR2 := Aside0.mk hr2
 have HC2 := Aside0.mk hc2
 clear hr2 hc2
 have HB := Aside0.mk (Below.refl w.heap.size w)
 have H : ((supercargolaw19_awake.f k).bind fun t230 => (if t230 = true then ((sr19_Few.f k a0_0 a0_1 a0_2 a0_3 a0_4 a0_5 a0_6 l0_7 ([] : List (S42))).bind fun t231 => (if t231 = true then (if (l1.length : Int) > 70 then (supercargolaw19_OrderCuts.j0 k l1 l2 true a0_0 a0_1 a0_2 a0_3 a0_4 a0_5 a0_6 l0_7) else (supercargolaw19_OrderCuts.j0 k l1 l2 (decide ((l2.length : Int) > 70)) a0_0 a0_1 a0_2 a0_3 a0_4 a0_5 a0_6 l0_7)) else (supercargolaw19_OrderCuts.j0 k l1 l2 true a0_0 a0_1 a0_2 a0_3 a0_4 a0_5 a0_6 l0_7))) else (some false))) = some r := h
 clear h
 replace H := Option.bind_eq_some_iff.mp H
 obtain ⟨t230, A40, H⟩ := H
 replace H : (if t230 = true then ((sr19_Few.f k a0_0 a0_1 a0_2 a0_3 a0_4 a0_5 a0_6 l0_7 ([] : List (S42))).bind fun t231 => (if t231 = true then (if (l1.length : Int) > 70 then (supercargolaw19_OrderCuts.j0 k l1 l2 true a0_0 a0_1 a0_2 a0_3 a0_4 a0_5 a0_6 l0_7) else (supercargolaw19_OrderCuts.j0 k l1 l2 (decide ((l2.length : Int) > 70)) a0_0 a0_1 a0_2 a0_3 a0_4 a0_5 a0_6 l0_7)) else (supercargolaw19_OrderCuts.j0 k l1 l2 true a0_0 a0_1 a0_2 a0_3 a0_4 a0_5 a0_6 l0_7))) else (some false)) = some r := H
 have A4 := Aside0.mk A40
 clear A40
 by_cases c5 : t230 = true
 ·(
subst c5
have H1 : ((sr19_Few.f k a0_0 a0_1 a0_2 a0_3 a0_4 a0_5 a0_6 l0_7 ([] : List (S42))).bind fun t231 => (if t231 = true then (if (l1.length : Int) > 70 then (supercargolaw19_OrderCuts.j0 k l1 l2 true a0_0 a0_1 a0_2 a0_3 a0_4 a0_5 a0_6 l0_7) else (supercargolaw19_OrderCuts.j0 k l1 l2 (decide ((l2.length : Int) > 70)) a0_0 a0_1 a0_2 a0_3 a0_4 a0_5 a0_6 l0_7)) else (supercargolaw19_OrderCuts.j0 k l1 l2 true a0_0 a0_1 a0_2 a0_3 a0_4 a0_5 a0_6 l0_7))) = some r := by rw [if_pos rfl] at H; exact H
clear H
have H := H1
clear H1
have HC6 := Aside0.mk H
clear H
go_enter Try.func4, Try.ntmps4
go_upto_region 3 with (first | ((with_reducible refine gate_dst (N := 3) rfl ?_); (try (refine gate_guard (by rfl) ?_; dsimp only)); refine box_event ?hg (N := 3) ?hd (cs := #[.string a0_0, .string a0_1, .string a0_2, .string a0_3, .string a0_4, .string a0_5, .int .i64 a0_6, .slice A0_7 l0_7.length c0_7]) (t := 24) ?hr ?_; (case hd => rfl); (case hg => rfl); (case hr => first | (go_simp; done) | (go_simp; rfl)); intro gb229 hg w7 hbox hb; have n0_ := Aside0.mk (below_step (by repeat (first | (with_reducible first | exact HB.out | apply below_alloc | apply pw_below_drewN | apply below_drew1) | exact HB.out)) hb); have n1_ := Aside0.mk (hbox); have n2_ := Aside0.mk ((by rw [hg]; exact (below_size (by repeat (first | (with_reducible first | exact HB.out | apply below_alloc | apply pw_below_drewN | apply below_drew1) | exact HB.out))) : w.heap.size ≤ gb229)); have n3_ := Aside0.mk ((by rw [hg]; exact (below_size (by repeat (first | (with_reducible first | exact HB.out | apply below_alloc | apply pw_below_drewN | apply below_drew1) | exact HB.out))) : w.heap.size ≤ gb229)); clear HB; have HB := n0_; have BK229 := n1_; have GW229 := n2_; have GE229 := n3_; clear n0_ n1_ n2_ n3_; clear hb hbox hg) | ((with_reducible refine gate_callee (f := 11) rfl ?_); refine goesL_ (some 12) rfl rfl Try.func11 (by kernel_rfl) rfl #[] rfl (by (try simp only [List.map_toArray, List.map_cons, List.map_nil]); first | done | rfl | (simp only [List.length_drop, List.length_take]; rfl)) ?_; (with_reducible refine (supercargolaw19_awake.calls k  true _ A4.out).mono ?_); rintro e w8 ⟨rfl, hb⟩; refine ⟨_, rfl, ?_⟩; have n0_ := Aside0.mk (blk_below (g := gb229) (o := .cells #[.string a0_0, .string a0_1, .string a0_2, .string a0_3, .string a0_4, .string a0_5, .int .i64 a0_6, .slice A0_7 l0_7.length c0_7] 24 (0, 0)) (by (with_reducible repeat (first | refine blk_drewN ?_ _ | refine blk_drew ?_ | refine blk_alloc ?_ _)); exact BK229.out) hb); have n1_ := Aside0.mk (below_step (by repeat (first | (with_reducible first | exact HB.out | apply below_alloc | apply pw_below_drewN | apply below_drew1 | refine below_set ?_ GE229.out) | exact HB.out)) hb); clear BK229; clear HB; have BK229 := n0_; have HB := n1_; clear n0_ n1_; (try clear hb); (try clear hb2); (try clear hk); (try clear hi)))
(try simp only [Act.put, List.setIfInBounds_toArray, List.set_cons_zero, List.set_cons_succ])
go_cut [26] (fun v26 wc => ∃ (kq : Nat) (x26_5 : Bool), v26 = .bool x26_5 ∧ Aside0 (supercargolaw19_OrderCuts.j0 kq l1 l2 x26_5 a0_0 a0_1 a0_2 a0_3 a0_4 a0_5 a0_6 l0_7 = some r) ∧ Aside0 (kq ≤ k) ∧ Aside0 (wc.heap[gb229]? = some (.cells #[.string a0_0, .string a0_1, .string a0_2, .string a0_3, .string a0_4, .string a0_5, .int .i64 a0_6, (.slice A0_7 l0_7.length c0_7)] 24 (0, 0))) ∧ Aside0 (Below w.heap.size w wc))
case first => (
have H := HC6.out
clear HC6
replace H := Option.bind_eq_some_iff.mp H
obtain ⟨t231, A90, H⟩ := H
replace H : (if t231 = true then (if (l1.length : Int) > 70 then (supercargolaw19_OrderCuts.j0 k l1 l2 true a0_0 a0_1 a0_2 a0_3 a0_4 a0_5 a0_6 l0_7) else (supercargolaw19_OrderCuts.j0 k l1 l2 (decide ((l2.length : Int) > 70)) a0_0 a0_1 a0_2 a0_3 a0_4 a0_5 a0_6 l0_7)) else (supercargolaw19_OrderCuts.j0 k l1 l2 true a0_0 a0_1 a0_2 a0_3 a0_4 a0_5 a0_6 l0_7)) = some r := H
have A9 := Aside0.mk A90
clear A90
by_cases c10 : t231 = true
·(
subst c10
have H1 : (if (l1.length : Int) > 70 then (supercargolaw19_OrderCuts.j0 k l1 l2 true a0_0 a0_1 a0_2 a0_3 a0_4 a0_5 a0_6 l0_7) else (supercargolaw19_OrderCuts.j0 k l1 l2 (decide ((l2.length : Int) > 70)) a0_0 a0_1 a0_2 a0_3 a0_4 a0_5 a0_6 l0_7)) = some r := by rw [if_pos rfl] at H; exact H
clear H
have H := H1
clear H1
by_cases c11 : (l1.length : Int) > 70
·(
rw [if_pos c11] at H
have c11b0 : decide (70 < (l1.length : Int)) = true := decide_eq_true c11
have c11b1 : decide (70 < l1.length) = true := decide_eq_true (by omega)
clear c11
(first | rw [c11b0] | (simp only [i64_w, i32_w]; rw [c11b0]) | skip)
have H' := Aside0.mk H
clear H
have hcz12_0 : w8.cell? ⟨gb229, 0, none⟩ = some (.string a0_0) := (blk_cell BK229.out 0).trans rfl
have hcz12_1 : w8.cell? ⟨gb229, 1, none⟩ = some (.string a0_1) := (blk_cell BK229.out 1).trans rfl
have hcz12_2 : w8.cell? ⟨gb229, 2, none⟩ = some (.string a0_2) := (blk_cell BK229.out 2).trans rfl
have hcz12_3 : w8.cell? ⟨gb229, 3, none⟩ = some (.string a0_3) := (blk_cell BK229.out 3).trans rfl
have hcz12_4 : w8.cell? ⟨gb229, 4, none⟩ = some (.string a0_4) := (blk_cell BK229.out 4).trans rfl
have hcz12_5 : w8.cell? ⟨gb229, 5, none⟩ = some (.string a0_5) := (blk_cell BK229.out 5).trans rfl
have hcz12_6 : w8.cell? ⟨gb229, 6, none⟩ = some (.int .i64 a0_6) := (blk_cell BK229.out 6).trans rfl
have hcz12_7 : w8.cell? ⟨gb229, 7, none⟩ = some (.slice A0_7 l0_7.length c0_7) := (blk_cell BK229.out 7).trans rfl
have hfz12_0 := blk_frozen BK229.out 0
have hfz12_1 := blk_frozen BK229.out 1
have hfz12_2 := blk_frozen BK229.out 2
have hfz12_3 := blk_frozen BK229.out 3
have hfz12_4 := blk_frozen BK229.out 4
have hfz12_5 := blk_frozen BK229.out 5
have hfz12_6 := blk_frozen BK229.out 6
have hfz12_7 := blk_frozen BK229.out 7
go_wp2_with (first | ((with_reducible refine gate_callee (f := 12) rfl ?_); refine goesL_ (some 15) rfl rfl Try.func12 (by kernel_rfl) rfl #[.agg #[.string a0_0, .string a0_1, .string a0_2, .string a0_3, .string a0_4, .string a0_5, .int .i64 a0_6, .slice A0_7 l0_7.length c0_7], .slice none 0 0] rfl (by (try simp only [List.map_toArray, List.map_cons, List.map_nil]); first | done | rfl | (simp only [List.length_drop, List.length_take]; rfl)) ?_; (refine (sr19_Few.calls k a0_0 a0_1 a0_2 a0_3 a0_4 a0_5 a0_6 _ _ l0_7 _ _ ([] : List (S42)) true _ ?side1 ?side2 ?side3 ?side4 A9.out).mono ?_); (case side1 => repeat (first | exact (Kd.C_below HR0_7.out HB.out) | (with_reducible refine Kd.C_alloc ?_ _) | (with_reducible refine Kd.C_drewN ?_ _) | (with_reducible refine Kd.C_drew ?_))); (case side2 => exact HC0_7.out); (case side3 => exact Kd.C_nil _ _); (case side4 => exact Nat.le_refl _); rintro e w13 ⟨rfl, hb⟩; refine ⟨_, rfl, ?_⟩; have n0_ := Aside0.mk (blk_below (g := gb229) (o := .cells #[.string a0_0, .string a0_1, .string a0_2, .string a0_3, .string a0_4, .string a0_5, .int .i64 a0_6, .slice A0_7 l0_7.length c0_7] 24 (0, 0)) (by (with_reducible repeat (first | refine blk_drewN ?_ _ | refine blk_drew ?_ | refine blk_alloc ?_ _)); exact BK229.out) hb); have n1_ := Aside0.mk (below_step (by repeat (first | (with_reducible first | exact HB.out | apply below_alloc | apply pw_below_drewN | apply below_drew1 | refine below_set ?_ GE229.out) | exact HB.out)) hb); clear BK229; clear HB; have BK229 := n0_; have HB := n1_; clear n0_ n1_; (try clear hb); (try clear hb2); (try clear hk); (try clear hi)))
go_meet
case rel => exact ⟨_, (true), (by first | rfl | (simp; done) | (simp [*]; done)), H', ⟨by first | omega | exact Nat.le_refl _⟩, ⟨by (with_reducible repeat (first | refine blk_drewN ?_ _ | refine blk_drew ?_ | refine blk_alloc ?_ _)); exact BK229.out⟩, ⟨by repeat (first | (with_reducible first | exact HB.out | apply below_alloc | apply pw_below_drewN | apply below_drew1 | refine below_set ?_ GE229.out) | exact HB.out)⟩⟩
)
·(
rw [if_neg c11] at H
have c11b0 : decide (70 < (l1.length : Int)) = false := decide_eq_false c11
have c11b1 : decide (70 < l1.length) = false := decide_eq_false (by omega)
clear c11
(first | rw [c11b0] | (simp only [i64_w, i32_w]; rw [c11b0]) | skip)
have H' := Aside0.mk H
clear H
have hcz14_0 : w8.cell? ⟨gb229, 0, none⟩ = some (.string a0_0) := (blk_cell BK229.out 0).trans rfl
have hcz14_1 : w8.cell? ⟨gb229, 1, none⟩ = some (.string a0_1) := (blk_cell BK229.out 1).trans rfl
have hcz14_2 : w8.cell? ⟨gb229, 2, none⟩ = some (.string a0_2) := (blk_cell BK229.out 2).trans rfl
have hcz14_3 : w8.cell? ⟨gb229, 3, none⟩ = some (.string a0_3) := (blk_cell BK229.out 3).trans rfl
have hcz14_4 : w8.cell? ⟨gb229, 4, none⟩ = some (.string a0_4) := (blk_cell BK229.out 4).trans rfl
have hcz14_5 : w8.cell? ⟨gb229, 5, none⟩ = some (.string a0_5) := (blk_cell BK229.out 5).trans rfl
have hcz14_6 : w8.cell? ⟨gb229, 6, none⟩ = some (.int .i64 a0_6) := (blk_cell BK229.out 6).trans rfl
have hcz14_7 : w8.cell? ⟨gb229, 7, none⟩ = some (.slice A0_7 l0_7.length c0_7) := (blk_cell BK229.out 7).trans rfl
have hfz14_0 := blk_frozen BK229.out 0
have hfz14_1 := blk_frozen BK229.out 1
have hfz14_2 := blk_frozen BK229.out 2
have hfz14_3 := blk_frozen BK229.out 3
have hfz14_4 := blk_frozen BK229.out 4
have hfz14_5 := blk_frozen BK229.out 5
have hfz14_6 := blk_frozen BK229.out 6
have hfz14_7 := blk_frozen BK229.out 7
go_wp2_with (first | ((with_reducible refine gate_callee (f := 12) rfl ?_); refine goesL_ (some 15) rfl rfl Try.func12 (by kernel_rfl) rfl #[.agg #[.string a0_0, .string a0_1, .string a0_2, .string a0_3, .string a0_4, .string a0_5, .int .i64 a0_6, .slice A0_7 l0_7.length c0_7], .slice none 0 0] rfl (by (try simp only [List.map_toArray, List.map_cons, List.map_nil]); first | done | rfl | (simp only [List.length_drop, List.length_take]; rfl)) ?_; (refine (sr19_Few.calls k a0_0 a0_1 a0_2 a0_3 a0_4 a0_5 a0_6 _ _ l0_7 _ _ ([] : List (S42)) true _ ?side1 ?side2 ?side3 ?side4 A9.out).mono ?_); (case side1 => repeat (first | exact (Kd.C_below HR0_7.out HB.out) | (with_reducible refine Kd.C_alloc ?_ _) | (with_reducible refine Kd.C_drewN ?_ _) | (with_reducible refine Kd.C_drew ?_))); (case side2 => exact HC0_7.out); (case side3 => exact Kd.C_nil _ _); (case side4 => exact Nat.le_refl _); rintro e w15 ⟨rfl, hb⟩; refine ⟨_, rfl, ?_⟩; have n0_ := Aside0.mk (blk_below (g := gb229) (o := .cells #[.string a0_0, .string a0_1, .string a0_2, .string a0_3, .string a0_4, .string a0_5, .int .i64 a0_6, .slice A0_7 l0_7.length c0_7] 24 (0, 0)) (by (with_reducible repeat (first | refine blk_drewN ?_ _ | refine blk_drew ?_ | refine blk_alloc ?_ _)); exact BK229.out) hb); have n1_ := Aside0.mk (below_step (by repeat (first | (with_reducible first | exact HB.out | apply below_alloc | apply pw_below_drewN | apply below_drew1 | refine below_set ?_ GE229.out) | exact HB.out)) hb); clear BK229; clear HB; have BK229 := n0_; have HB := n1_; clear n0_ n1_; (try clear hb); (try clear hb2); (try clear hk); (try clear hi)))
go_meet
case rel => exact ⟨_, (decide ((l2.length : Int) > 70)), (by first | rfl | (simp; done) | (simp [*]; done)), H', ⟨by first | omega | exact Nat.le_refl _⟩, ⟨by (with_reducible repeat (first | refine blk_drewN ?_ _ | refine blk_drew ?_ | refine blk_alloc ?_ _)); exact BK229.out⟩, ⟨by repeat (first | (with_reducible first | exact HB.out | apply below_alloc | apply pw_below_drewN | apply below_drew1 | refine below_set ?_ GE229.out) | exact HB.out)⟩⟩
)
)
·(
replace c10 := Bool.eq_false_iff.mpr c10
subst c10
have H1 : (supercargolaw19_OrderCuts.j0 k l1 l2 true a0_0 a0_1 a0_2 a0_3 a0_4 a0_5 a0_6 l0_7) = some r := by rw [if_neg (show ¬ (false = true) by decide)] at H; exact H
clear H
have H := H1
clear H1
have H' := Aside0.mk H
clear H
have hcz16_0 : w8.cell? ⟨gb229, 0, none⟩ = some (.string a0_0) := (blk_cell BK229.out 0).trans rfl
have hcz16_1 : w8.cell? ⟨gb229, 1, none⟩ = some (.string a0_1) := (blk_cell BK229.out 1).trans rfl
have hcz16_2 : w8.cell? ⟨gb229, 2, none⟩ = some (.string a0_2) := (blk_cell BK229.out 2).trans rfl
have hcz16_3 : w8.cell? ⟨gb229, 3, none⟩ = some (.string a0_3) := (blk_cell BK229.out 3).trans rfl
have hcz16_4 : w8.cell? ⟨gb229, 4, none⟩ = some (.string a0_4) := (blk_cell BK229.out 4).trans rfl
have hcz16_5 : w8.cell? ⟨gb229, 5, none⟩ = some (.string a0_5) := (blk_cell BK229.out 5).trans rfl
have hcz16_6 : w8.cell? ⟨gb229, 6, none⟩ = some (.int .i64 a0_6) := (blk_cell BK229.out 6).trans rfl
have hcz16_7 : w8.cell? ⟨gb229, 7, none⟩ = some (.slice A0_7 l0_7.length c0_7) := (blk_cell BK229.out 7).trans rfl
have hfz16_0 := blk_frozen BK229.out 0
have hfz16_1 := blk_frozen BK229.out 1
have hfz16_2 := blk_frozen BK229.out 2
have hfz16_3 := blk_frozen BK229.out 3
have hfz16_4 := blk_frozen BK229.out 4
have hfz16_5 := blk_frozen BK229.out 5
have hfz16_6 := blk_frozen BK229.out 6
have hfz16_7 := blk_frozen BK229.out 7
go_wp2_with (first | ((with_reducible refine gate_callee (f := 12) rfl ?_); refine goesL_ (some 15) rfl rfl Try.func12 (by kernel_rfl) rfl #[.agg #[.string a0_0, .string a0_1, .string a0_2, .string a0_3, .string a0_4, .string a0_5, .int .i64 a0_6, .slice A0_7 l0_7.length c0_7], .slice none 0 0] rfl (by (try simp only [List.map_toArray, List.map_cons, List.map_nil]); first | done | rfl | (simp only [List.length_drop, List.length_take]; rfl)) ?_; (refine (sr19_Few.calls k a0_0 a0_1 a0_2 a0_3 a0_4 a0_5 a0_6 _ _ l0_7 _ _ ([] : List (S42)) false _ ?side1 ?side2 ?side3 ?side4 A9.out).mono ?_); (case side1 => repeat (first | exact (Kd.C_below HR0_7.out HB.out) | (with_reducible refine Kd.C_alloc ?_ _) | (with_reducible refine Kd.C_drewN ?_ _) | (with_reducible refine Kd.C_drew ?_))); (case side2 => exact HC0_7.out); (case side3 => exact Kd.C_nil _ _); (case side4 => exact Nat.le_refl _); rintro e w17 ⟨rfl, hb⟩; refine ⟨_, rfl, ?_⟩; have n0_ := Aside0.mk (blk_below (g := gb229) (o := .cells #[.string a0_0, .string a0_1, .string a0_2, .string a0_3, .string a0_4, .string a0_5, .int .i64 a0_6, .slice A0_7 l0_7.length c0_7] 24 (0, 0)) (by (with_reducible repeat (first | refine blk_drewN ?_ _ | refine blk_drew ?_ | refine blk_alloc ?_ _)); exact BK229.out) hb); have n1_ := Aside0.mk (below_step (by repeat (first | (with_reducible first | exact HB.out | apply below_alloc | apply pw_below_drewN | apply below_drew1 | refine below_set ?_ GE229.out) | exact HB.out)) hb); clear BK229; clear HB; have BK229 := n0_; have HB := n1_; clear n0_ n1_; (try clear hb); (try clear hb2); (try clear hk); (try clear hi)))
go_meet
case rel => exact ⟨_, (true), (by first | rfl | (simp; done) | (simp [*]; done)), H', ⟨by first | omega | exact Nat.le_refl _⟩, ⟨by (with_reducible repeat (first | refine blk_drewN ?_ _ | refine blk_drew ?_ | refine blk_alloc ?_ _)); exact BK229.out⟩, ⟨by repeat (first | (with_reducible first | exact HB.out | apply below_alloc | apply pw_below_drewN | apply below_drew1 | refine below_set ?_ GE229.out) | exact HB.out)⟩⟩
)
)
case rest => (
clear HC6
try clear c1
try clear c2
try clear p2
try clear c4
try clear c5
try clear c10
try clear c11
try clear c11b0
try clear c11b1
try clear c12
try clear hcz12_0
try clear hcz12_1
try clear hcz12_2
try clear hcz12_3
try clear hcz12_4
try clear hcz12_5
try clear hcz12_6
try clear hcz12_7
try clear hcz14_0
try clear hcz14_1
try clear hcz14_2
try clear hcz14_3
try clear hcz14_4
try clear hcz14_5
try clear hcz14_6
try clear hcz14_7
try clear hcz16_0
try clear hcz16_1
try clear hcz16_2
try clear hcz16_3
try clear hcz16_4
try clear hcz16_5
try clear hcz16_6
try clear hcz16_7
try clear hfz12_0
try clear hfz12_1
try clear hfz12_2
try clear hfz12_3
try clear hfz12_4
try clear hfz12_5
try clear hfz12_6
try clear hfz12_7
try clear hfz14_0
try clear hfz14_1
try clear hfz14_2
try clear hfz14_3
try clear hfz14_4
try clear hfz14_5
try clear hfz14_6
try clear hfz14_7
try clear hfz16_0
try clear hfz16_1
try clear hfz16_2
try clear hfz16_3
try clear hfz16_4
try clear hfz16_5
try clear hfz16_6
try clear hfz16_7
obtain ⟨kq, x26_5, rfl, HA, HJ5, BK229, HB⟩ := hcut
cases kq with
| zero => exact absurd HA.out (by simp [supercargolaw19_OrderCuts.j0])
| succ kj5 => (
have H := HA.out
clear HA
simp only [supercargolaw19_OrderCuts.j0] at H
by_cases c18 : x26_5 = true
·(
subst c18
have H1 : (some true) = some r := by rw [if_pos rfl] at H; exact H
clear H
have H := H1
clear H1
clear hT; obtain rfl := Option.some.inj H
go_wp2
go_ret
exact ⟨by first | rfl | (simp [errW_none, errW_some] <;> rfl) | (simp [*, errW_none, errW_some] <;> rfl), by repeat (first | (with_reducible first | exact HB.out | apply below_alloc | apply pw_below_drewN | apply below_drew1 | refine below_set ?_ GE229.out) | exact HB.out)⟩
)
·(
replace c18 := Bool.eq_false_iff.mpr c18
subst c18
have H1 : (supercargolaw19_OrderCuts.l0 kj5 l1 l2 0 a0_0 a0_1 a0_2 a0_3 a0_4 a0_5 a0_6 l0_7) = some r := by rw [if_neg (show ¬ (false = true) by decide)] at H; exact H
clear H
have H := H1
clear H1
have H' := Aside0.mk H
clear H
go_wp2
go_loopg [7] kj5 (fun kq v7 w' => ∃ (x7_2 : Int), v7 = .int .i64 x7_2 ∧ Aside0 (supercargolaw19_OrderCuts.l0 kq l1 l2 x7_2 a0_0 a0_1 a0_2 a0_3 a0_4 a0_5 a0_6 l0_7 = some r) ∧ Aside0 (kq ≤ kj5) ∧ Aside0 (w'.heap[gb229]? = some (.cells #[.string a0_0, .string a0_1, .string a0_2, .string a0_3, .string a0_4, .string a0_5, .int .i64 a0_6, (.slice A0_7 l0_7.length c0_7)] 24 (0, 0))) ∧ Aside0 (Below w.heap.size w w'))
case atStart => exact ⟨(0), (by first | rfl | (simp; done) | (simp [*]; done)), H', ⟨Nat.le_refl _⟩, ⟨by (with_reducible repeat (first | refine blk_drewN ?_ _ | refine blk_drew ?_ | refine blk_alloc ?_ _)); exact BK229.out⟩, ⟨by repeat (first | (with_reducible first | exact HB.out | apply below_alloc | apply pw_below_drewN | apply below_drew1 | refine below_set ?_ GE229.out) | exact HB.out)⟩⟩
case round => (
clear H'
try clear c1
try clear c2
try clear p2
try clear c4
try clear c5
try clear c10
try clear c11
try clear c11b0
try clear c11b1
try clear c12
try clear c18
try clear hcz12_0
try clear hcz12_1
try clear hcz12_2
try clear hcz12_3
try clear hcz12_4
try clear hcz12_5
try clear hcz12_6
try clear hcz12_7
try clear hcz14_0
try clear hcz14_1
try clear hcz14_2
try clear hcz14_3
try clear hcz14_4
try clear hcz14_5
try clear hcz14_6
try clear hcz14_7
try clear hcz16_0
try clear hcz16_1
try clear hcz16_2
try clear hcz16_3
try clear hcz16_4
try clear hcz16_5
try clear hcz16_6
try clear hcz16_7
try clear hfz12_0
try clear hfz12_1
try clear hfz12_2
try clear hfz12_3
try clear hfz12_4
try clear hfz12_5
try clear hfz12_6
try clear hfz12_7
try clear hfz14_0
try clear hfz14_1
try clear hfz14_2
try clear hfz14_3
try clear hfz14_4
try clear hfz14_5
try clear hfz14_6
try clear hfz14_7
try clear hfz16_0
try clear hfz16_1
try clear hfz16_2
try clear hfz16_3
try clear hfz16_4
try clear hfz16_5
try clear hfz16_6
try clear hfz16_7
try clear p2
obtain ⟨x7_2, rfl, HA, HK2, BK229, HB⟩ := hrel
cases gk with
| zero => exact absurd HA.out (by simp [supercargolaw19_OrderCuts.l0])
| succ k2 => (
have H := HA.out
clear HA
simp only [supercargolaw19_OrderCuts.l0] at H
by_cases c19 : x7_2 < (l2.length : Int)
·(
rw [if_pos c19] at H
have c19b0 : decide (x7_2 < (l2.length : Int)) = true := decide_eq_true c19
clear c19
by_cases c20 : 0 ≤ x7_2
·(
rw [if_pos c20] at H
have c20b0 : decide (0 ≤ x7_2) = true := decide_eq_true c20
clear c20
by_cases c21 : ((rd_L5 l2 x7_2).length : Int) > 70
·(
rw [if_pos c21] at H
have c21b0 : decide (70 < ((rd_L5 l2 x7_2).length : Int)) = true := decide_eq_true c21
have c21b1 : decide (70 < (rd_L5 l2 x7_2).length) = true := decide_eq_true (by omega)
clear c21
clear hT; obtain rfl := Option.some.inj H
have p232 : 0 ≤ (x7_2 : Int) := of_decide_eq_true (by first | (with_reducible assumption) | assumption)
have q232 : x7_2 < (l2.length : Int) := of_decide_eq_true (by first | (with_reducible assumption) | assumption)
obtain ⟨ad232, A232_0, c232_0, e232, hx232_0, hl232_0, hi232_0⟩ := at_L5 HR2.out x7_2 p232 q232
cases e232
replace hx232_0 := (HB.out.cell (World.block_lt_of_cell? w _ hx232_0)).trans hx232_0
have HR232_0 := Aside0.mk hi232_0
have HC232_0 := Aside0.mk hl232_0
clear hi232_0 hl232_0
replace p232 := eq_true p232
replace q232 := eq_true q232
go_wp2
go_ret
exact ⟨by first | rfl | (simp [errW_none, errW_some] <;> rfl) | (simp [*, errW_none, errW_some] <;> rfl), by repeat (first | (with_reducible first | exact HB.out | apply below_alloc | apply pw_below_drewN | apply below_drew1 | refine below_set ?_ GE229.out) | exact HB.out)⟩
)
·(
rw [if_neg c21] at H
have c21b0 : decide (70 < ((rd_L5 l2 x7_2).length : Int)) = false := decide_eq_false c21
have c21b1 : decide (70 < (rd_L5 l2 x7_2).length) = false := decide_eq_false (by omega)
clear c21
have H' := Aside0.mk H
clear H
have p232 : 0 ≤ (x7_2 : Int) := of_decide_eq_true (by first | (with_reducible assumption) | assumption)
have q232 : x7_2 < (l2.length : Int) := of_decide_eq_true (by first | (with_reducible assumption) | assumption)
obtain ⟨ad232, A232_0, c232_0, e232, hx232_0, hl232_0, hi232_0⟩ := at_L5 HR2.out x7_2 p232 q232
cases e232
replace hx232_0 := (HB.out.cell (World.block_lt_of_cell? w _ hx232_0)).trans hx232_0
have HR232_0 := Aside0.mk hi232_0
have HC232_0 := Aside0.mk hl232_0
clear hi232_0 hl232_0
replace p232 := eq_true p232
replace q232 := eq_true q232
go_wp2
go_roundg k2
case measure => have := HJ5.out; have := HK2.out; omega
case rel => exact ⟨(wrap64 (x7_2 + 1)), (by first | rfl | (simp; done) | (simp [*]; done)), H', ⟨by have := HJ5.out; have := HK2.out; omega⟩, ⟨by (with_reducible repeat (first | refine blk_drewN ?_ _ | refine blk_drew ?_ | refine blk_alloc ?_ _)); exact BK229.out⟩, ⟨by repeat (first | (with_reducible first | exact HB.out | apply below_alloc | apply pw_below_drewN | apply below_drew1 | refine below_set ?_ GE229.out) | exact HB.out)⟩⟩
)
)
·(
rw [if_neg c20] at H
exact absurd H (by simp)
)
)
·(
rw [if_neg c19] at H
have c19b0 : decide (x7_2 < (l2.length : Int)) = false := decide_eq_false c19
clear c19
replace H := Option.bind_eq_some_iff.mp H
obtain ⟨⟨t233, t236⟩, A220, H⟩ := H
replace H : ((sr19_Cut.f k2 a0_0 a0_1 a0_2 a0_3 a0_4 a0_5 a0_6 l0_7 l1 l2).bind fun bt237 => ((sr19_Cuts.f k2 t233 bt237.1).bind fun t241 => (if t241 = true then (some (t236 == bt237.2)) else (some false)))) = some r := H
have A22 := Aside0.mk A220
clear A220
replace H := Option.bind_eq_some_iff.mp H
obtain ⟨⟨t237, t240⟩, A230, H⟩ := H
replace H : ((sr19_Cuts.f k2 t233 t237).bind fun t241 => (if t241 = true then (some (t236 == t240)) else (some false))) = some r := H
have A23 := Aside0.mk A230
clear A230
replace H := Option.bind_eq_some_iff.mp H
obtain ⟨t241, A240, H⟩ := H
replace H : (if t241 = true then (some (t236 == t240)) else (some false)) = some r := H
have A24 := Aside0.mk A240
clear A240
by_cases c25 : t241 = true
·(
subst c25
have H1 : (some (t236 == t240)) = some r := by rw [if_pos rfl] at H; exact H
clear H
have H := H1
clear H1
clear hT; obtain rfl := Option.some.inj H
have hcz26_0 : wr.cell? ⟨gb229, 0, none⟩ = some (.string a0_0) := (blk_cell BK229.out 0).trans rfl
have hcz26_1 : wr.cell? ⟨gb229, 1, none⟩ = some (.string a0_1) := (blk_cell BK229.out 1).trans rfl
have hcz26_2 : wr.cell? ⟨gb229, 2, none⟩ = some (.string a0_2) := (blk_cell BK229.out 2).trans rfl
have hcz26_3 : wr.cell? ⟨gb229, 3, none⟩ = some (.string a0_3) := (blk_cell BK229.out 3).trans rfl
have hcz26_4 : wr.cell? ⟨gb229, 4, none⟩ = some (.string a0_4) := (blk_cell BK229.out 4).trans rfl
have hcz26_5 : wr.cell? ⟨gb229, 5, none⟩ = some (.string a0_5) := (blk_cell BK229.out 5).trans rfl
have hcz26_6 : wr.cell? ⟨gb229, 6, none⟩ = some (.int .i64 a0_6) := (blk_cell BK229.out 6).trans rfl
have hcz26_7 : wr.cell? ⟨gb229, 7, none⟩ = some (.slice A0_7 l0_7.length c0_7) := (blk_cell BK229.out 7).trans rfl
have hfz26_0 := blk_frozen BK229.out 0
have hfz26_1 := blk_frozen BK229.out 1
have hfz26_2 := blk_frozen BK229.out 2
have hfz26_3 := blk_frozen BK229.out 3
have hfz26_4 := blk_frozen BK229.out 4
have hfz26_5 := blk_frozen BK229.out 5
have hfz26_6 := blk_frozen BK229.out 6
have hfz26_7 := blk_frozen BK229.out 7
go_wp2_with (first | ((with_reducible refine gate_callee (f := 19) rfl ?_); refine goesL_ (some 43) rfl rfl Try.func19 (by kernel_rfl) rfl #[.agg #[.string a0_0, .string a0_1, .string a0_2, .string a0_3, .string a0_4, .string a0_5, .int .i64 a0_6, .slice A0_7 l0_7.length c0_7], .slice A1 l1.length c1, .slice A2 l2.length c2] rfl (by (try simp only [List.map_toArray, List.map_cons, List.map_nil]); first | done | rfl | (simp only [List.length_drop, List.length_take]; rfl)) ?_; (with_reducible refine (order_Cut.calls k2 a0_0 a0_1 a0_2 a0_3 a0_4 a0_5 a0_6 _ _ l0_7 _ _ l1 _ _ l2 t233 t236 _ ?side1 ?side2 ?side3 ?side4 ?side5 ?side6 A22.out).mono ?_); (case side1 => repeat (first | exact (Kd.C_below HR0_7.out HB.out) | (with_reducible refine Kd.C_alloc ?_ _) | (with_reducible refine Kd.C_drewN ?_ _) | (with_reducible refine Kd.C_drew ?_))); (case side2 => exact HC0_7.out); (case side3 => repeat (first | exact (Kd.C_below HR1.out HB.out) | (with_reducible refine Kd.C_alloc ?_ _) | (with_reducible refine Kd.C_drewN ?_ _) | (with_reducible refine Kd.C_drew ?_))); (case side4 => exact HC1.out); (case side5 => repeat (first | exact (Kd.C_below HR2.out HB.out) | (with_reducible refine Kd.C_alloc ?_ _) | (with_reducible refine Kd.C_drewN ?_ _) | (with_reducible refine Kd.C_drew ?_))); (case side6 => exact HC2.out); rintro e w27 ⟨v234, rfl, ho0, hb⟩; refine ⟨_, rfl, ?_⟩; have n0_ := Aside0.mk (Kd.S_lower ho0 (below_size (by repeat (first | (with_reducible first | exact HB.out | apply below_alloc | apply pw_below_drewN | apply below_drew1 | refine below_set ?_ GE229.out) | exact HB.out)))); have n1_ := Aside0.mk (blk_below (g := gb229) (o := .cells #[.string a0_0, .string a0_1, .string a0_2, .string a0_3, .string a0_4, .string a0_5, .int .i64 a0_6, .slice A0_7 l0_7.length c0_7] 24 (0, 0)) (by (with_reducible repeat (first | refine blk_drewN ?_ _ | refine blk_drew ?_ | refine blk_alloc ?_ _)); exact BK229.out) hb); have n2_ := Aside0.mk (below_step (by repeat (first | (with_reducible first | exact HB.out | apply below_alloc | apply pw_below_drewN | apply below_drew1 | refine below_set ?_ GE229.out) | exact HB.out)) hb); clear BK229; clear HB; have HO235 := n0_; have BK229 := n1_; have HB := n2_; clear n0_ n1_ n2_; (try clear hb); (try clear hb2); (try clear hk); (try clear hi); (try clear ho0); have hcz28_0 : w27.cell? ⟨gb229, 0, none⟩ = some (.string a0_0) := (blk_cell BK229.out 0).trans rfl; have hcz28_1 : w27.cell? ⟨gb229, 1, none⟩ = some (.string a0_1) := (blk_cell BK229.out 1).trans rfl; have hcz28_2 : w27.cell? ⟨gb229, 2, none⟩ = some (.string a0_2) := (blk_cell BK229.out 2).trans rfl; have hcz28_3 : w27.cell? ⟨gb229, 3, none⟩ = some (.string a0_3) := (blk_cell BK229.out 3).trans rfl; have hcz28_4 : w27.cell? ⟨gb229, 4, none⟩ = some (.string a0_4) := (blk_cell BK229.out 4).trans rfl; have hcz28_5 : w27.cell? ⟨gb229, 5, none⟩ = some (.string a0_5) := (blk_cell BK229.out 5).trans rfl; have hcz28_6 : w27.cell? ⟨gb229, 6, none⟩ = some (.int .i64 a0_6) := (blk_cell BK229.out 6).trans rfl; have hcz28_7 : w27.cell? ⟨gb229, 7, none⟩ = some (.slice A0_7 l0_7.length c0_7) := (blk_cell BK229.out 7).trans rfl; have hfz28_0 := blk_frozen BK229.out 0; have hfz28_1 := blk_frozen BK229.out 1; have hfz28_2 := blk_frozen BK229.out 2; have hfz28_3 := blk_frozen BK229.out 3; have hfz28_4 := blk_frozen BK229.out 4; have hfz28_5 := blk_frozen BK229.out 5; have hfz28_6 := blk_frozen BK229.out 6; have hfz28_7 := blk_frozen BK229.out 7) | ((with_reducible refine gate_callee (f := 20) rfl ?_); refine goesL_ (some 50) rfl rfl Try.func20 (by kernel_rfl) rfl #[.agg #[.string a0_0, .string a0_1, .string a0_2, .string a0_3, .string a0_4, .string a0_5, .int .i64 a0_6, .slice A0_7 l0_7.length c0_7], .slice A1 l1.length c1, .slice A2 l2.length c2] rfl (by (try simp only [List.map_toArray, List.map_cons, List.map_nil]); first | done | rfl | (simp only [List.length_drop, List.length_take]; rfl)) ?_; (with_reducible refine (sr19_Cut.calls k2 a0_0 a0_1 a0_2 a0_3 a0_4 a0_5 a0_6 _ _ l0_7 _ _ l1 _ _ l2 t237 t240 _ ?side1 ?side2 ?side3 ?side4 ?side5 ?side6 A23.out).mono ?_); (case side1 => repeat (first | exact (Kd.C_below HR0_7.out HB.out) | (with_reducible refine Kd.C_alloc ?_ _) | (with_reducible refine Kd.C_drewN ?_ _) | (with_reducible refine Kd.C_drew ?_))); (case side2 => exact HC0_7.out); (case side3 => repeat (first | exact (Kd.C_below HR1.out HB.out) | (with_reducible refine Kd.C_alloc ?_ _) | (with_reducible refine Kd.C_drewN ?_ _) | (with_reducible refine Kd.C_drew ?_))); (case side4 => exact HC1.out); (case side5 => repeat (first | exact (Kd.C_below HR2.out HB.out) | (with_reducible refine Kd.C_alloc ?_ _) | (with_reducible refine Kd.C_drewN ?_ _) | (with_reducible refine Kd.C_drew ?_))); (case side6 => exact HC2.out); rintro e w29 ⟨v238, rfl, ho0, hb⟩; refine ⟨_, rfl, ?_⟩; have n0_ := Aside0.mk (Kd.S_elder' (by (with_reducible repeat (first | apply Kd.S_alloc | apply Kd.S_drewN | apply Kd.S_drew)); exact HO235.out) (Kd.S_base ho0) hb); have n1_ := Aside0.mk (Kd.S_lower (Kd.S_new' ho0 (Kd.S_lt (by (with_reducible repeat (first | apply Kd.S_alloc | apply Kd.S_drewN | apply Kd.S_drew)); exact HO235.out))) (below_size (by repeat (first | (with_reducible first | exact HB.out | apply below_alloc | apply pw_below_drewN | apply below_drew1 | refine below_set ?_ GE229.out) | exact HB.out)))); have n2_ := Aside0.mk (blk_below (g := gb229) (o := .cells #[.string a0_0, .string a0_1, .string a0_2, .string a0_3, .string a0_4, .string a0_5, .int .i64 a0_6, .slice A0_7 l0_7.length c0_7] 24 (0, 0)) (by (with_reducible repeat (first | refine blk_drewN ?_ _ | refine blk_drew ?_ | refine blk_alloc ?_ _)); exact BK229.out) hb); have n3_ := Aside0.mk (below_step (by repeat (first | (with_reducible first | exact HB.out | apply below_alloc | apply pw_below_drewN | apply below_drew1 | refine below_set ?_ GE229.out) | exact HB.out)) hb); clear HO235; clear BK229; clear HB; have HO235 := n0_; have HO239 := n1_; have BK229 := n2_; have HB := n3_; clear n0_ n1_ n2_ n3_; (try clear hb); (try clear hb2); (try clear hk); (try clear hi); (try clear ho0); obtain ⟨Ao30, co30, eo30⟩ := Kd.S_slice HO235.out; subst eo30; obtain ⟨Ao31, co31, eo31⟩ := Kd.S_slice HO239.out; subst eo31) | ((with_reducible refine gate_callee (f := 21) rfl ?_); refine goesL_ (some 55) rfl rfl Try.func21 (by kernel_rfl) rfl #[.slice Ao30 t233.length co30, .slice Ao31 t237.length co31] rfl (by (try simp only [List.map_toArray, List.map_cons, List.map_nil]); first | done | rfl | (simp only [List.length_drop, List.length_take]; rfl)) ?_; (with_reducible refine (sr19_Cuts.calls k2 _ _ t233 _ _ t237 true _ ?side1 ?side2 ?side3 ?side4 A24.out).mono ?_); (case side1 => repeat (first | exact (Kd.S_reads' HO235.out).2.2 | (with_reducible refine Kd.C_alloc ?_ _) | (with_reducible refine Kd.C_drewN ?_ _) | (with_reducible refine Kd.C_drew ?_))); (case side2 => exact (Kd.S_reads' HO235.out).2.1); (case side3 => repeat (first | exact (Kd.S_reads' HO239.out).2.2 | (with_reducible refine Kd.C_alloc ?_ _) | (with_reducible refine Kd.C_drewN ?_ _) | (with_reducible refine Kd.C_drew ?_))); (case side4 => exact (Kd.S_reads' HO239.out).2.1); rintro e w32 ⟨rfl, hb⟩; refine ⟨_, rfl, ?_⟩; have n0_ := Aside0.mk (Kd.S_below (by (with_reducible repeat (first | apply Kd.S_alloc | apply Kd.S_drewN | apply Kd.S_drew)); exact HO235.out) hb); have n1_ := Aside0.mk (Kd.S_below (by (with_reducible repeat (first | apply Kd.S_alloc | apply Kd.S_drewN | apply Kd.S_drew)); exact HO239.out) hb); have n2_ := Aside0.mk (blk_below (g := gb229) (o := .cells #[.string a0_0, .string a0_1, .string a0_2, .string a0_3, .string a0_4, .string a0_5, .int .i64 a0_6, .slice A0_7 l0_7.length c0_7] 24 (0, 0)) (by (with_reducible repeat (first | refine blk_drewN ?_ _ | refine blk_drew ?_ | refine blk_alloc ?_ _)); exact BK229.out) hb); have n3_ := Aside0.mk (below_step (by repeat (first | (with_reducible first | exact HB.out | apply below_alloc | apply pw_below_drewN | apply below_drew1 | refine below_set ?_ GE229.out) | exact HB.out)) hb); clear HO235; clear HO239; clear BK229; clear HB; have HO235 := n0_; have HO239 := n1_; have BK229 := n2_; have HB := n3_; clear n0_ n1_ n2_ n3_; (try clear hb); (try clear hb2); (try clear hk); (try clear hi)))
go_ret
exact ⟨by first | rfl | (simp [errW_none, errW_some] <;> rfl) | (simp [*, errW_none, errW_some] <;> rfl), by repeat (first | (with_reducible first | exact HB.out | apply below_alloc | apply pw_below_drewN | apply below_drew1 | refine below_set ?_ GE229.out) | exact HB.out)⟩
)
·(
replace c25 := Bool.eq_false_iff.mpr c25
subst c25
have H1 : (some false) = some r := by rw [if_neg (show ¬ (false = true) by decide)] at H; exact H
clear H
have H := H1
clear H1
exact absurd (Option.some.inj H) (by rw [hT.out]; decide)
)
)
)
)
)
)
)
)
 ·(
replace c5 := Bool.eq_false_iff.mpr c5
subst c5
have H1 : (some false) = some r := by rw [if_neg (show ¬ (false = true) by decide)] at H; exact H
clear H
have H := H1
clear H1
exact absurd (Option.some.inj H) (by rw [hT.out]; decide)
)

end Go.Proofs.Ytlhaaccdiienbaa.X
