-- Written for this claim by a program of this session (wip/tools/xprint.py) out of the translation.
import Derived.Test.YtlhaaccdiienbaaX0
import Derived.Test.YtlhaaccdiienbaaX6
import Derived.Test.YtlhaaccdiienbaaX14
import Derived.Test.YtlhaaccdiienbaaEAwake
import Derived.Test.YtlhaaccdiienbaaECut
import Derived.Test.YtlhaaccdiienbaaEJoin
import Derived.Test.YtlhaaccdiienbaaELeft
namespace Go.Proofs.Ytlhaaccdiienbaa.X
open Go.RowKit Go.Proofs.YtlhaaccdiienbaaW.PrintWords Go.Proofs.YtlhaaccdiienbaaW.PrintLast Go.Proofs.YtlhaaccdiienbaaW.PrintMore
attribute [local go_sem] max2_int min2_int max_two min_two max_three min_three max_four min_four   -- for this text's walks alone
set_option linter.unusedVariables false
set_option linter.unusedSimpArgs false

mutual
def supercargolaw19_OrderSent.j0 : Nat → List Int → List (List Int) → List Bool → Bool → ByteArray → ByteArray → ByteArray → ByteArray → ByteArray → ByteArray → Int → List (S65) → Option (Bool)
 | 0, _, _, _, _, _, _, _, _, _, _, _, _ => none
 | k + 1, x1, x2, x3, x30, x307000, x307001, x307002, x307003, x307004, x307005, x307006, x307007 => if x30 = true then (some true) else ((order_Cut.f k x307000 x307001 x307002 x307003 x307004 x307005 x307006 x307007 x1 x2).bind fun bt309 => (if bt309.2 = 0 then (supercargolaw19_OrderSent.l0 k x3 bt309.1 ([] : List (S42)) ([] : List (S67)) 0 x307000 x307001 x307002 x307003 x307004 x307005 x307006 x307007) else (some true)))
def supercargolaw19_OrderSent.l0 : Nat → List Bool → List (S42) → List (S42) → List (S67) → Int → ByteArray → ByteArray → ByteArray → ByteArray → ByteArray → ByteArray → Int → List (S65) → Option (Bool)
 | 0, _, _, _, _, _, _, _, _, _, _, _, _, _ => none
 | k + 1, x3, x9, x11, x12, x13, x307000, x307001, x307002, x307003, x307004, x307005, x307006, x307007 => if x13 < (x9.length : Int) then (if x13 < (x3.length : Int) then (if 0 ≤ x13 then (if rdOf false x3 x13 = true then (if x11.length < 2513169434916 then (supercargolaw19_OrderSent.l0 k x3 x9 (x11 ++ [(⟨(rd_T42 x9 x13).f0, (rd_T42 x9 x13).f1, (rd_T42 x9 x13).f2, (rd_T42 x9 x13).f3⟩ : S42)]) x12 (wrap64 (x13 + 1)) x307000 x307001 x307002 x307003 x307004 x307005 x307006 x307007) else (none)) else (if x12.length + ((rd_T42 x9 x13).f3).length < 5864062014805 then (supercargolaw19_OrderSent.l0 k x3 x9 x11 (x12 ++ ((rd_T42 x9 x13).f3)) (wrap64 (x13 + 1)) x307000 x307001 x307002 x307003 x307004 x307005 x307006 x307007) else (none))) else (none)) else (if 0 ≤ x13 then (if x12.length + ((rd_T42 x9 x13).f3).length < 5864062014805 then (supercargolaw19_OrderSent.l0 k x3 x9 x11 (x12 ++ ((rd_T42 x9 x13).f3)) (wrap64 (x13 + 1)) x307000 x307001 x307002 x307003 x307004 x307005 x307006 x307007) else (none)) else (none))) else ((order_Left.f k x307000 x307001 x307002 x307003 x307004 x307005 x307006 x307007 x11).bind fun bt326 => (if bt326.2 = 0 then ((goods_Join.f x12).bind fun t330 => ((sr11_Same.f k bt326.1 t330).bind fun t333 => (some t333))) else (some false)))
end
def supercargolaw19_OrderSent.f (k : Nat) (a0_0 : ByteArray) (a0_1 : ByteArray) (a0_2 : ByteArray) (a0_3 : ByteArray) (a0_4 : ByteArray) (a0_5 : ByteArray) (a0_6 : Int) (l0_7 : List (S65)) (l1 : List Int) (l2 : List (List Int)) (l3 : List Bool) : Option (Bool) := (supercargolaw19_awake.f k).bind fun t307 => (if t307 = true then ((sr19_Few.f k a0_0 a0_1 a0_2 a0_3 a0_4 a0_5 a0_6 l0_7 ([] : List (S42))).bind fun t308 => (if t308 = true then (if (l1.length : Int) > 70 then (supercargolaw19_OrderSent.j0 k l1 l2 l3 true a0_0 a0_1 a0_2 a0_3 a0_4 a0_5 a0_6 l0_7) else (supercargolaw19_OrderSent.j0 k l1 l2 l3 (decide ((l2.length : Int) > 70)) a0_0 a0_1 a0_2 a0_3 a0_4 a0_5 a0_6 l0_7)) else (supercargolaw19_OrderSent.j0 k l1 l2 l3 true a0_0 a0_1 a0_2 a0_3 a0_4 a0_5 a0_6 l0_7))) else (some false))
theorem supercargolaw19_OrderSent.mono_l : ∀ k, (∀ y0 y1 y2 y3 y4 y5 y6 y7 y8 y9 y10 y11, LeO (supercargolaw19_OrderSent.j0 k y0 y1 y2 y3 y4 y5 y6 y7 y8 y9 y10 y11) (supercargolaw19_OrderSent.j0 (k + 1) y0 y1 y2 y3 y4 y5 y6 y7 y8 y9 y10 y11)) ∧ (∀ y0 y1 y2 y3 y4 y5 y6 y7 y8 y9 y10 y11 y12, LeO (supercargolaw19_OrderSent.l0 k y0 y1 y2 y3 y4 y5 y6 y7 y8 y9 y10 y11 y12) (supercargolaw19_OrderSent.l0 (k + 1) y0 y1 y2 y3 y4 y5 y6 y7 y8 y9 y10 y11 y12))
 | 0 => ⟨fun _ _ _ _ _ _ _ _ _ _ _ _ r h => by simp [supercargolaw19_OrderSent.j0] at h, fun _ _ _ _ _ _ _ _ _ _ _ _ _ r h => by simp [supercargolaw19_OrderSent.l0] at h⟩
 | k + 1 => by
  obtain ⟨ih0, ih1⟩ := supercargolaw19_OrderSent.mono_l k
  refine ⟨?_, ?_⟩
  ·intro y0 y1 y2 y3 y4 y5 y6 y7 y8 y9 y10 y11
   unfold supercargolaw19_OrderSent.j0
   repeat' first
   | (with_reducible exact ih0 _ _ _ _ _ _ _ _ _ _ _ _)
   | (with_reducible exact ih1 _ _ _ _ _ _ _ _ _ _ _ _ _)
   | (with_reducible exact order_Cut.mono _ _ _ _ _ _ _ _ _ _ _)
   | (with_reducible exact order_Left.mono _ _ _ _ _ _ _ _ _ _)
   | (with_reducible exact supercargolaw19_awake.mono _)
   | (with_reducible exact sr11_Same.mono _ _ _)
   | (with_reducible exact sr19_Few.mono _ _ _ _ _ _ _ _ _ _)
   | (with_reducible exact LeO.refl _)
   | (with_reducible exact LeO.none _)
   | (with_reducible refine LeO.ite ?_ ?_)
   | (with_reducible refine LeO.bind ?_ (fun _ => ?_))
   | exact ih0 _ _ _ _ _ _ _ _ _ _ _ _
   | exact ih1 _ _ _ _ _ _ _ _ _ _ _ _ _
   | exact order_Cut.mono _ _ _ _ _ _ _ _ _ _ _
   | exact order_Left.mono _ _ _ _ _ _ _ _ _ _
   | exact supercargolaw19_awake.mono _
   | exact sr11_Same.mono _ _ _
   | exact sr19_Few.mono _ _ _ _ _ _ _ _ _ _
   | exact LeO.none _
   | refine LeO.ite ?_ ?_
   | refine LeO.bind ?_ (fun _ => ?_)
  ·intro y0 y1 y2 y3 y4 y5 y6 y7 y8 y9 y10 y11 y12
   unfold supercargolaw19_OrderSent.l0
   repeat' first
   | (with_reducible exact ih0 _ _ _ _ _ _ _ _ _ _ _ _)
   | (with_reducible exact ih1 _ _ _ _ _ _ _ _ _ _ _ _ _)
   | (with_reducible exact order_Cut.mono _ _ _ _ _ _ _ _ _ _ _)
   | (with_reducible exact order_Left.mono _ _ _ _ _ _ _ _ _ _)
   | (with_reducible exact supercargolaw19_awake.mono _)
   | (with_reducible exact sr11_Same.mono _ _ _)
   | (with_reducible exact sr19_Few.mono _ _ _ _ _ _ _ _ _ _)
   | (with_reducible exact LeO.refl _)
   | (with_reducible exact LeO.none _)
   | (with_reducible refine LeO.ite ?_ ?_)
   | (with_reducible refine LeO.bind ?_ (fun _ => ?_))
   | exact ih0 _ _ _ _ _ _ _ _ _ _ _ _
   | exact ih1 _ _ _ _ _ _ _ _ _ _ _ _ _
   | exact order_Cut.mono _ _ _ _ _ _ _ _ _ _ _
   | exact order_Left.mono _ _ _ _ _ _ _ _ _ _
   | exact supercargolaw19_awake.mono _
   | exact sr11_Same.mono _ _ _
   | exact sr19_Few.mono _ _ _ _ _ _ _ _ _ _
   | exact LeO.none _
   | refine LeO.ite ?_ ?_
   | refine LeO.bind ?_ (fun _ => ?_)
theorem supercargolaw19_OrderSent.mono : ∀ a0 a1 a2 a3 a4 a5 a6 a7 a8 a9 a10 k, LeO (supercargolaw19_OrderSent.f k a0 a1 a2 a3 a4 a5 a6 a7 a8 a9 a10) (supercargolaw19_OrderSent.f (k + 1) a0 a1 a2 a3 a4 a5 a6 a7 a8 a9 a10) := by
 intro a0 a1 a2 a3 a4 a5 a6 a7 a8 a9 a10 k
 obtain ⟨ih0, ih1⟩ := supercargolaw19_OrderSent.mono_l k
 unfold supercargolaw19_OrderSent.f
 repeat' first
   | (with_reducible exact ih0 _ _ _ _ _ _ _ _ _ _ _ _)
   | (with_reducible exact ih1 _ _ _ _ _ _ _ _ _ _ _ _ _)
   | (with_reducible exact order_Cut.mono _ _ _ _ _ _ _ _ _ _ _)
   | (with_reducible exact order_Left.mono _ _ _ _ _ _ _ _ _ _)
   | (with_reducible exact supercargolaw19_awake.mono _)
   | (with_reducible exact sr11_Same.mono _ _ _)
   | (with_reducible exact sr19_Few.mono _ _ _ _ _ _ _ _ _ _)
   | (with_reducible exact LeO.refl _)
   | (with_reducible exact LeO.none _)
   | (with_reducible refine LeO.ite ?_ ?_)
   | (with_reducible refine LeO.bind ?_ (fun _ => ?_))
   | exact ih0 _ _ _ _ _ _ _ _ _ _ _ _
   | exact ih1 _ _ _ _ _ _ _ _ _ _ _ _ _
   | exact order_Cut.mono _ _ _ _ _ _ _ _ _ _ _
   | exact order_Left.mono _ _ _ _ _ _ _ _ _ _
   | exact supercargolaw19_awake.mono _
   | exact sr11_Same.mono _ _ _
   | exact sr19_Few.mono _ _ _ _ _ _ _ _ _ _
   | exact LeO.none _
   | refine LeO.ite ?_ ?_
   | refine LeO.bind ?_ (fun _ => ?_)
set_option maxHeartbeats 8000000 in
set_option maxRecDepth 100000 in
theorem supercargolaw19_OrderSent.calls (k : Nat) (a0_0 : ByteArray) (a0_1 : ByteArray) (a0_2 : ByteArray) (a0_3 : ByteArray) (a0_4 : ByteArray) (a0_5 : ByteArray) (a0_6 : Int) (A0_7 : Option Addr) (c0_7 : Nat) (l0_7 : List (S65)) (A1 : Option Addr) (c1 : Nat) (l1 : List Int) (A2 : Option Addr) (c2 : Nat) (l2 : List (List Int)) (A3 : Option Addr) (c3 : Nat) (l3 : List Bool) (r : Bool) (w : World) (hr0_7 : Kd.C k65 w A0_7 l0_7.length l0_7) (hc0_7 : l0_7.length ≤ c0_7) (hr1 : Kd.C (Kd.int .i64) w A1 l1.length l1) (hc1 : l1.length ≤ c1) (hr2 : Kd.C (Kd.slice 3 (Kd.int .i64)) w A2 l2.length l2) (hc2 : l2.length ≤ c2) (hr3 : Kd.C Kd.bool w A3 l3.length l3) (hc3 : l3.length ≤ c3) (h : supercargolaw19_OrderSent.f k a0_0 a0_1 a0_2 a0_3 a0_4 a0_5 a0_6 l0_7 l1 l2 l3 = some r) (hT : Aside0 (r = true)) :
  Calls Try.prog 8 #[.agg #[.string a0_0, .string a0_1, .string a0_2, .string a0_3, .string a0_4, .string a0_5, .int .i64 a0_6, .slice A0_7 l0_7.length c0_7], .slice A1 l1.length c1, .slice A2 l2.length c2, .slice A3 l3.length c3] w fun e w' => e = .returned (.bool r) ∧ Below w.heap.size w w' := by
 have hu24 := Try.underlying24
 have hu42 := Try.underlying42
 have HR0_7 := Aside0.mk hr0_7
 have HC0_7 := Aside0.mk hc0_7
 clear hr0_7 hc0_7
 have HR1 := Aside0.mk hr1
 have HC1 := Aside0.mk hc1
 clear hr1 hc1
 have HR2 := Aside0.mk hr2
 have HC2 := Aside0.mk hc2
 clear hr2 hc2
 have HR3 := Aside0.mk hr3
 have HC3 := Aside0.mk hc3
 clear hr3 hc3
 have HB := Aside0.mk (Below.refl w.heap.size w)
 have H : ((supercargolaw19_awake.f k).bind fun t307 => (if t307 = true then ((sr19_Few.f k a0_0 a0_1 a0_2 a0_3 a0_4 a0_5 a0_6 l0_7 ([] : List (S42))).bind fun t308 => (if t308 = true then (if (l1.length : Int) > 70 then (supercargolaw19_OrderSent.j0 k l1 l2 l3 true a0_0 a0_1 a0_2 a0_3 a0_4 a0_5 a0_6 l0_7) else (supercargolaw19_OrderSent.j0 k l1 l2 l3 (decide ((l2.length : Int) > 70)) a0_0 a0_1 a0_2 a0_3 a0_4 a0_5 a0_6 l0_7)) else (supercargolaw19_OrderSent.j0 k l1 l2 l3 true a0_0 a0_1 a0_2 a0_3 a0_4 a0_5 a0_6 l0_7))) else (some false))) = some r := h
 clear h
 replace H := Option.bind_eq_some_iff.mp H
 obtain ⟨t307, A50, H⟩ := H
 replace H : (if t307 = true then ((sr19_Few.f k a0_0 a0_1 a0_2 a0_3 a0_4 a0_5 a0_6 l0_7 ([] : List (S42))).bind fun t308 => (if t308 = true then (if (l1.length : Int) > 70 then (supercargolaw19_OrderSent.j0 k l1 l2 l3 true a0_0 a0_1 a0_2 a0_3 a0_4 a0_5 a0_6 l0_7) else (supercargolaw19_OrderSent.j0 k l1 l2 l3 (decide ((l2.length : Int) > 70)) a0_0 a0_1 a0_2 a0_3 a0_4 a0_5 a0_6 l0_7)) else (supercargolaw19_OrderSent.j0 k l1 l2 l3 true a0_0 a0_1 a0_2 a0_3 a0_4 a0_5 a0_6 l0_7))) else (some false)) = some r := H
 have A5 := Aside0.mk A50
 clear A50
 by_cases c6 : t307 = true
 ·(
subst c6
have H1 : ((sr19_Few.f k a0_0 a0_1 a0_2 a0_3 a0_4 a0_5 a0_6 l0_7 ([] : List (S42))).bind fun t308 => (if t308 = true then (if (l1.length : Int) > 70 then (supercargolaw19_OrderSent.j0 k l1 l2 l3 true a0_0 a0_1 a0_2 a0_3 a0_4 a0_5 a0_6 l0_7) else (supercargolaw19_OrderSent.j0 k l1 l2 l3 (decide ((l2.length : Int) > 70)) a0_0 a0_1 a0_2 a0_3 a0_4 a0_5 a0_6 l0_7)) else (supercargolaw19_OrderSent.j0 k l1 l2 l3 true a0_0 a0_1 a0_2 a0_3 a0_4 a0_5 a0_6 l0_7))) = some r := by rw [if_pos rfl] at H; exact H
clear H
have H := H1
clear H1
have HC7 := Aside0.mk H
clear H
go_enter Try.func8, Try.ntmps8
go_upto_region 3 with (first | ((with_reducible refine gate_dst (N := 4) rfl ?_); (try (refine gate_guard (by rfl) ?_; dsimp only)); refine box_event ?hg (N := 4) ?hd (cs := #[.string a0_0, .string a0_1, .string a0_2, .string a0_3, .string a0_4, .string a0_5, .int .i64 a0_6, .slice A0_7 l0_7.length c0_7]) (t := 24) ?hr ?_; (case hd => rfl); (case hg => rfl); (case hr => first | (go_simp; done) | (go_simp; rfl)); intro gb306 hg w8 hbox hb; have n0_ := Aside0.mk (below_step (by repeat (first | (with_reducible first | exact HB.out | apply below_alloc | apply pw_below_drewN | apply below_drew1) | exact HB.out)) hb); have n1_ := Aside0.mk (hbox); have n2_ := Aside0.mk ((by rw [hg]; exact (below_size (by repeat (first | (with_reducible first | exact HB.out | apply below_alloc | apply pw_below_drewN | apply below_drew1) | exact HB.out))) : w.heap.size ≤ gb306)); have n3_ := Aside0.mk ((by rw [hg]; exact (below_size (by repeat (first | (with_reducible first | exact HB.out | apply below_alloc | apply pw_below_drewN | apply below_drew1) | exact HB.out))) : w.heap.size ≤ gb306)); clear HB; have HB := n0_; have BK306 := n1_; have GW306 := n2_; have GE306 := n3_; clear n0_ n1_ n2_ n3_; clear hb hbox hg) | ((with_reducible refine gate_callee (f := 11) rfl ?_); refine goesL_ (some 16) rfl rfl Try.func11 (by kernel_rfl) rfl #[] rfl (by (try simp only [List.map_toArray, List.map_cons, List.map_nil]); first | done | rfl | (simp only [List.length_drop, List.length_take]; rfl)) ?_; (with_reducible refine (supercargolaw19_awake.calls k  true _ A5.out).mono ?_); rintro e w9 ⟨rfl, hb⟩; refine ⟨_, rfl, ?_⟩; have n0_ := Aside0.mk (blk_below (g := gb306) (o := .cells #[.string a0_0, .string a0_1, .string a0_2, .string a0_3, .string a0_4, .string a0_5, .int .i64 a0_6, .slice A0_7 l0_7.length c0_7] 24 (0, 0)) (by (with_reducible repeat (first | refine blk_drewN ?_ _ | refine blk_drew ?_ | refine blk_alloc ?_ _)); exact BK306.out) hb); have n1_ := Aside0.mk (below_step (by repeat (first | (with_reducible first | exact HB.out | apply below_alloc | apply pw_below_drewN | apply below_drew1 | refine below_set ?_ GE306.out) | exact HB.out)) hb); clear BK306; clear HB; have BK306 := n0_; have HB := n1_; clear n0_ n1_; (try clear hb); (try clear hb2); (try clear hk); (try clear hi)))
(try simp only [Act.put, List.setIfInBounds_toArray, List.set_cons_zero, List.set_cons_succ])
go_cut [30] (fun v30 wc => ∃ (kq : Nat) (x30_6 : Bool), v30 = .bool x30_6 ∧ Aside0 (supercargolaw19_OrderSent.j0 kq l1 l2 l3 x30_6 a0_0 a0_1 a0_2 a0_3 a0_4 a0_5 a0_6 l0_7 = some r) ∧ Aside0 (kq ≤ k) ∧ Aside0 (wc.heap[gb306]? = some (.cells #[.string a0_0, .string a0_1, .string a0_2, .string a0_3, .string a0_4, .string a0_5, .int .i64 a0_6, (.slice A0_7 l0_7.length c0_7)] 24 (0, 0))) ∧ Aside0 (Below w.heap.size w wc))
case first => (
have H := HC7.out
clear HC7
replace H := Option.bind_eq_some_iff.mp H
obtain ⟨t308, A100, H⟩ := H
replace H : (if t308 = true then (if (l1.length : Int) > 70 then (supercargolaw19_OrderSent.j0 k l1 l2 l3 true a0_0 a0_1 a0_2 a0_3 a0_4 a0_5 a0_6 l0_7) else (supercargolaw19_OrderSent.j0 k l1 l2 l3 (decide ((l2.length : Int) > 70)) a0_0 a0_1 a0_2 a0_3 a0_4 a0_5 a0_6 l0_7)) else (supercargolaw19_OrderSent.j0 k l1 l2 l3 true a0_0 a0_1 a0_2 a0_3 a0_4 a0_5 a0_6 l0_7)) = some r := H
have A10 := Aside0.mk A100
clear A100
by_cases c11 : t308 = true
·(
subst c11
have H1 : (if (l1.length : Int) > 70 then (supercargolaw19_OrderSent.j0 k l1 l2 l3 true a0_0 a0_1 a0_2 a0_3 a0_4 a0_5 a0_6 l0_7) else (supercargolaw19_OrderSent.j0 k l1 l2 l3 (decide ((l2.length : Int) > 70)) a0_0 a0_1 a0_2 a0_3 a0_4 a0_5 a0_6 l0_7)) = some r := by rw [if_pos rfl] at H; exact H
clear H
have H := H1
clear H1
by_cases c12 : (l1.length : Int) > 70
·(
rw [if_pos c12] at H
have c12b0 : decide (70 < (l1.length : Int)) = true := decide_eq_true c12
have c12b1 : decide (70 < l1.length) = true := decide_eq_true (by omega)
clear c12
(first | rw [c12b0] | (simp only [i64_w, i32_w]; rw [c12b0]) | skip)
have H' := Aside0.mk H
clear H
have hcz13_0 : w9.cell? ⟨gb306, 0, none⟩ = some (.string a0_0) := (blk_cell BK306.out 0).trans rfl
have hcz13_1 : w9.cell? ⟨gb306, 1, none⟩ = some (.string a0_1) := (blk_cell BK306.out 1).trans rfl
have hcz13_2 : w9.cell? ⟨gb306, 2, none⟩ = some (.string a0_2) := (blk_cell BK306.out 2).trans rfl
have hcz13_3 : w9.cell? ⟨gb306, 3, none⟩ = some (.string a0_3) := (blk_cell BK306.out 3).trans rfl
have hcz13_4 : w9.cell? ⟨gb306, 4, none⟩ = some (.string a0_4) := (blk_cell BK306.out 4).trans rfl
have hcz13_5 : w9.cell? ⟨gb306, 5, none⟩ = some (.string a0_5) := (blk_cell BK306.out 5).trans rfl
have hcz13_6 : w9.cell? ⟨gb306, 6, none⟩ = some (.int .i64 a0_6) := (blk_cell BK306.out 6).trans rfl
have hcz13_7 : w9.cell? ⟨gb306, 7, none⟩ = some (.slice A0_7 l0_7.length c0_7) := (blk_cell BK306.out 7).trans rfl
have hfz13_0 := blk_frozen BK306.out 0
have hfz13_1 := blk_frozen BK306.out 1
have hfz13_2 := blk_frozen BK306.out 2
have hfz13_3 := blk_frozen BK306.out 3
have hfz13_4 := blk_frozen BK306.out 4
have hfz13_5 := blk_frozen BK306.out 5
have hfz13_6 := blk_frozen BK306.out 6
have hfz13_7 := blk_frozen BK306.out 7
go_wp2_with (first | ((with_reducible refine gate_callee (f := 12) rfl ?_); refine goesL_ (some 19) rfl rfl Try.func12 (by kernel_rfl) rfl #[.agg #[.string a0_0, .string a0_1, .string a0_2, .string a0_3, .string a0_4, .string a0_5, .int .i64 a0_6, .slice A0_7 l0_7.length c0_7], .slice none 0 0] rfl (by (try simp only [List.map_toArray, List.map_cons, List.map_nil]); first | done | rfl | (simp only [List.length_drop, List.length_take]; rfl)) ?_; (refine (sr19_Few.calls k a0_0 a0_1 a0_2 a0_3 a0_4 a0_5 a0_6 _ _ l0_7 _ _ ([] : List (S42)) true _ ?side1 ?side2 ?side3 ?side4 A10.out).mono ?_); (case side1 => repeat (first | exact (Kd.C_below HR0_7.out HB.out) | (with_reducible refine Kd.C_alloc ?_ _) | (with_reducible refine Kd.C_drewN ?_ _) | (with_reducible refine Kd.C_drew ?_))); (case side2 => exact HC0_7.out); (case side3 => exact Kd.C_nil _ _); (case side4 => exact Nat.le_refl _); rintro e w14 ⟨rfl, hb⟩; refine ⟨_, rfl, ?_⟩; have n0_ := Aside0.mk (blk_below (g := gb306) (o := .cells #[.string a0_0, .string a0_1, .string a0_2, .string a0_3, .string a0_4, .string a0_5, .int .i64 a0_6, .slice A0_7 l0_7.length c0_7] 24 (0, 0)) (by (with_reducible repeat (first | refine blk_drewN ?_ _ | refine blk_drew ?_ | refine blk_alloc ?_ _)); exact BK306.out) hb); have n1_ := Aside0.mk (below_step (by repeat (first | (with_reducible first | exact HB.out | apply below_alloc | apply pw_below_drewN | apply below_drew1 | refine below_set ?_ GE306.out) | exact HB.out)) hb); clear BK306; clear HB; have BK306 := n0_; have HB := n1_; clear n0_ n1_; (try clear hb); (try clear hb2); (try clear hk); (try clear hi)))
go_meet
case rel => exact ⟨_, (true), (by first | rfl | (simp; done) | (simp [*]; done)), H', ⟨by first | omega | exact Nat.le_refl _⟩, ⟨by (with_reducible repeat (first | refine blk_drewN ?_ _ | refine blk_drew ?_ | refine blk_alloc ?_ _)); exact BK306.out⟩, ⟨by repeat (first | (with_reducible first | exact HB.out | apply below_alloc | apply pw_below_drewN | apply below_drew1 | refine below_set ?_ GE306.out) | exact HB.out)⟩⟩
)
·(
rw [if_neg c12] at H
have c12b0 : decide (70 < (l1.length : Int)) = false := decide_eq_false c12
have c12b1 : decide (70 < l1.length) = false := decide_eq_false (by omega)
clear c12
(first | rw [c12b0] | (simp only [i64_w, i32_w]; rw [c12b0]) | skip)
have H' := Aside0.mk H
clear H
have hcz15_0 : w9.cell? ⟨gb306, 0, none⟩ = some (.string a0_0) := (blk_cell BK306.out 0).trans rfl
have hcz15_1 : w9.cell? ⟨gb306, 1, none⟩ = some (.string a0_1) := (blk_cell BK306.out 1).trans rfl
have hcz15_2 : w9.cell? ⟨gb306, 2, none⟩ = some (.string a0_2) := (blk_cell BK306.out 2).trans rfl
have hcz15_3 : w9.cell? ⟨gb306, 3, none⟩ = some (.string a0_3) := (blk_cell BK306.out 3).trans rfl
have hcz15_4 : w9.cell? ⟨gb306, 4, none⟩ = some (.string a0_4) := (blk_cell BK306.out 4).trans rfl
have hcz15_5 : w9.cell? ⟨gb306, 5, none⟩ = some (.string a0_5) := (blk_cell BK306.out 5).trans rfl
have hcz15_6 : w9.cell? ⟨gb306, 6, none⟩ = some (.int .i64 a0_6) := (blk_cell BK306.out 6).trans rfl
have hcz15_7 : w9.cell? ⟨gb306, 7, none⟩ = some (.slice A0_7 l0_7.length c0_7) := (blk_cell BK306.out 7).trans rfl
have hfz15_0 := blk_frozen BK306.out 0
have hfz15_1 := blk_frozen BK306.out 1
have hfz15_2 := blk_frozen BK306.out 2
have hfz15_3 := blk_frozen BK306.out 3
have hfz15_4 := blk_frozen BK306.out 4
have hfz15_5 := blk_frozen BK306.out 5
have hfz15_6 := blk_frozen BK306.out 6
have hfz15_7 := blk_frozen BK306.out 7
go_wp2_with (first | ((with_reducible refine gate_callee (f := 12) rfl ?_); refine goesL_ (some 19) rfl rfl Try.func12 (by kernel_rfl) rfl #[.agg #[.string a0_0, .string a0_1, .string a0_2, .string a0_3, .string a0_4, .string a0_5, .int .i64 a0_6, .slice A0_7 l0_7.length c0_7], .slice none 0 0] rfl (by (try simp only [List.map_toArray, List.map_cons, List.map_nil]); first | done | rfl | (simp only [List.length_drop, List.length_take]; rfl)) ?_; (refine (sr19_Few.calls k a0_0 a0_1 a0_2 a0_3 a0_4 a0_5 a0_6 _ _ l0_7 _ _ ([] : List (S42)) true _ ?side1 ?side2 ?side3 ?side4 A10.out).mono ?_); (case side1 => repeat (first | exact (Kd.C_below HR0_7.out HB.out) | (with_reducible refine Kd.C_alloc ?_ _) | (with_reducible refine Kd.C_drewN ?_ _) | (with_reducible refine Kd.C_drew ?_))); (case side2 => exact HC0_7.out); (case side3 => exact Kd.C_nil _ _); (case side4 => exact Nat.le_refl _); rintro e w16 ⟨rfl, hb⟩; refine ⟨_, rfl, ?_⟩; have n0_ := Aside0.mk (blk_below (g := gb306) (o := .cells #[.string a0_0, .string a0_1, .string a0_2, .string a0_3, .string a0_4, .string a0_5, .int .i64 a0_6, .slice A0_7 l0_7.length c0_7] 24 (0, 0)) (by (with_reducible repeat (first | refine blk_drewN ?_ _ | refine blk_drew ?_ | refine blk_alloc ?_ _)); exact BK306.out) hb); have n1_ := Aside0.mk (below_step (by repeat (first | (with_reducible first | exact HB.out | apply below_alloc | apply pw_below_drewN | apply below_drew1 | refine below_set ?_ GE306.out) | exact HB.out)) hb); clear BK306; clear HB; have BK306 := n0_; have HB := n1_; clear n0_ n1_; (try clear hb); (try clear hb2); (try clear hk); (try clear hi)))
go_meet
case rel => exact ⟨_, (decide ((l2.length : Int) > 70)), (by first | rfl | (simp; done) | (simp [*]; done)), H', ⟨by first | omega | exact Nat.le_refl _⟩, ⟨by (with_reducible repeat (first | refine blk_drewN ?_ _ | refine blk_drew ?_ | refine blk_alloc ?_ _)); exact BK306.out⟩, ⟨by repeat (first | (with_reducible first | exact HB.out | apply below_alloc | apply pw_below_drewN | apply below_drew1 | refine below_set ?_ GE306.out) | exact HB.out)⟩⟩
)
)
·(
replace c11 := Bool.eq_false_iff.mpr c11
subst c11
have H1 : (supercargolaw19_OrderSent.j0 k l1 l2 l3 true a0_0 a0_1 a0_2 a0_3 a0_4 a0_5 a0_6 l0_7) = some r := by rw [if_neg (show ¬ (false = true) by decide)] at H; exact H
clear H
have H := H1
clear H1
have H' := Aside0.mk H
clear H
have hcz17_0 : w9.cell? ⟨gb306, 0, none⟩ = some (.string a0_0) := (blk_cell BK306.out 0).trans rfl
have hcz17_1 : w9.cell? ⟨gb306, 1, none⟩ = some (.string a0_1) := (blk_cell BK306.out 1).trans rfl
have hcz17_2 : w9.cell? ⟨gb306, 2, none⟩ = some (.string a0_2) := (blk_cell BK306.out 2).trans rfl
have hcz17_3 : w9.cell? ⟨gb306, 3, none⟩ = some (.string a0_3) := (blk_cell BK306.out 3).trans rfl
have hcz17_4 : w9.cell? ⟨gb306, 4, none⟩ = some (.string a0_4) := (blk_cell BK306.out 4).trans rfl
have hcz17_5 : w9.cell? ⟨gb306, 5, none⟩ = some (.string a0_5) := (blk_cell BK306.out 5).trans rfl
have hcz17_6 : w9.cell? ⟨gb306, 6, none⟩ = some (.int .i64 a0_6) := (blk_cell BK306.out 6).trans rfl
have hcz17_7 : w9.cell? ⟨gb306, 7, none⟩ = some (.slice A0_7 l0_7.length c0_7) := (blk_cell BK306.out 7).trans rfl
have hfz17_0 := blk_frozen BK306.out 0
have hfz17_1 := blk_frozen BK306.out 1
have hfz17_2 := blk_frozen BK306.out 2
have hfz17_3 := blk_frozen BK306.out 3
have hfz17_4 := blk_frozen BK306.out 4
have hfz17_5 := blk_frozen BK306.out 5
have hfz17_6 := blk_frozen BK306.out 6
have hfz17_7 := blk_frozen BK306.out 7
go_wp2_with (first | ((with_reducible refine gate_callee (f := 12) rfl ?_); refine goesL_ (some 19) rfl rfl Try.func12 (by kernel_rfl) rfl #[.agg #[.string a0_0, .string a0_1, .string a0_2, .string a0_3, .string a0_4, .string a0_5, .int .i64 a0_6, .slice A0_7 l0_7.length c0_7], .slice none 0 0] rfl (by (try simp only [List.map_toArray, List.map_cons, List.map_nil]); first | done | rfl | (simp only [List.length_drop, List.length_take]; rfl)) ?_; (refine (sr19_Few.calls k a0_0 a0_1 a0_2 a0_3 a0_4 a0_5 a0_6 _ _ l0_7 _ _ ([] : List (S42)) false _ ?side1 ?side2 ?side3 ?side4 A10.out).mono ?_); (case side1 => repeat (first | exact (Kd.C_below HR0_7.out HB.out) | (with_reducible refine Kd.C_alloc ?_ _) | (with_reducible refine Kd.C_drewN ?_ _) | (with_reducible refine Kd.C_drew ?_))); (case side2 => exact HC0_7.out); (case side3 => exact Kd.C_nil _ _); (case side4 => exact Nat.le_refl _); rintro e w18 ⟨rfl, hb⟩; refine ⟨_, rfl, ?_⟩; have n0_ := Aside0.mk (blk_below (g := gb306) (o := .cells #[.string a0_0, .string a0_1, .string a0_2, .string a0_3, .string a0_4, .string a0_5, .int .i64 a0_6, .slice A0_7 l0_7.length c0_7] 24 (0, 0)) (by (with_reducible repeat (first | refine blk_drewN ?_ _ | refine blk_drew ?_ | refine blk_alloc ?_ _)); exact BK306.out) hb); have n1_ := Aside0.mk (below_step (by repeat (first | (with_reducible first | exact HB.out | apply below_alloc | apply pw_below_drewN | apply below_drew1 | refine below_set ?_ GE306.out) | exact HB.out)) hb); clear BK306; clear HB; have BK306 := n0_; have HB := n1_; clear n0_ n1_; (try clear hb); (try clear hb2); (try clear hk); (try clear hi)))
go_meet
case rel => exact ⟨_, (true), (by first | rfl | (simp; done) | (simp [*]; done)), H', ⟨by first | omega | exact Nat.le_refl _⟩, ⟨by (with_reducible repeat (first | refine blk_drewN ?_ _ | refine blk_drew ?_ | refine blk_alloc ?_ _)); exact BK306.out⟩, ⟨by repeat (first | (with_reducible first | exact HB.out | apply below_alloc | apply pw_below_drewN | apply below_drew1 | refine below_set ?_ GE306.out) | exact HB.out)⟩⟩
)
)
case rest => (
clear HC7
try clear c1
try clear c2
try clear p2
try clear c3
try clear c6
try clear c8
try clear c11
try clear c12
try clear c12b0
try clear c12b1
try clear hcz13_0
try clear hcz13_1
try clear hcz13_2
try clear hcz13_3
try clear hcz13_4
try clear hcz13_5
try clear hcz13_6
try clear hcz13_7
try clear hcz15_0
try clear hcz15_1
try clear hcz15_2
try clear hcz15_3
try clear hcz15_4
try clear hcz15_5
try clear hcz15_6
try clear hcz15_7
try clear hcz17_0
try clear hcz17_1
try clear hcz17_2
try clear hcz17_3
try clear hcz17_4
try clear hcz17_5
try clear hcz17_6
try clear hcz17_7
try clear hfz13_0
try clear hfz13_1
try clear hfz13_2
try clear hfz13_3
try clear hfz13_4
try clear hfz13_5
try clear hfz13_6
try clear hfz13_7
try clear hfz15_0
try clear hfz15_1
try clear hfz15_2
try clear hfz15_3
try clear hfz15_4
try clear hfz15_5
try clear hfz15_6
try clear hfz15_7
try clear hfz17_0
try clear hfz17_1
try clear hfz17_2
try clear hfz17_3
try clear hfz17_4
try clear hfz17_5
try clear hfz17_6
try clear hfz17_7
obtain ⟨kq, x30_6, rfl, HA, HJ6, BK306, HB⟩ := hcut
cases kq with
| zero => exact absurd HA.out (by simp [supercargolaw19_OrderSent.j0])
| succ kj6 => (
have H := HA.out
clear HA
simp only [supercargolaw19_OrderSent.j0] at H
by_cases c19 : x30_6 = true
·(
subst c19
have H1 : (some true) = some r := by rw [if_pos rfl] at H; exact H
clear H
have H := H1
clear H1
clear hT; obtain rfl := Option.some.inj H
go_wp2
go_ret
exact ⟨by first | rfl | (simp [errW_none, errW_some] <;> rfl) | (simp [*, errW_none, errW_some] <;> rfl), by repeat (first | (with_reducible first | exact HB.out | apply below_alloc | apply pw_below_drewN | apply below_drew1 | refine below_set ?_ GE306.out) | exact HB.out)⟩
)
·(
replace c19 := Bool.eq_false_iff.mpr c19
subst c19
have H1 : ((order_Cut.f kj6 a0_0 a0_1 a0_2 a0_3 a0_4 a0_5 a0_6 l0_7 l1 l2).bind fun bt309 => (if bt309.2 = 0 then (supercargolaw19_OrderSent.l0 kj6 l3 bt309.1 ([] : List (S42)) ([] : List (S67)) 0 a0_0 a0_1 a0_2 a0_3 a0_4 a0_5 a0_6 l0_7) else (some true))) = some r := by rw [if_neg (show ¬ (false = true) by decide)] at H; exact H
clear H
have H := H1
clear H1
replace H := Option.bind_eq_some_iff.mp H
obtain ⟨⟨t309, t312⟩, A200, H⟩ := H
replace H : (if t312 = 0 then (supercargolaw19_OrderSent.l0 kj6 l3 t309 ([] : List (S42)) ([] : List (S67)) 0 a0_0 a0_1 a0_2 a0_3 a0_4 a0_5 a0_6 l0_7) else (some true)) = some r := H
have A20 := Aside0.mk A200
clear A200
by_cases c21 : t312 = 0
·(
rw [if_pos c21] at H
have c21b0 : (t312 == 0) = true := beq_iff_eq.mpr c21
have c21b1 : (t312 != 0) = false := bne_eq_false_iff_eq.mpr c21
clear c21
have H' := Aside0.mk H
clear H
have hcz22_0 : wc.cell? ⟨gb306, 0, none⟩ = some (.string a0_0) := (blk_cell BK306.out 0).trans rfl
have hcz22_1 : wc.cell? ⟨gb306, 1, none⟩ = some (.string a0_1) := (blk_cell BK306.out 1).trans rfl
have hcz22_2 : wc.cell? ⟨gb306, 2, none⟩ = some (.string a0_2) := (blk_cell BK306.out 2).trans rfl
have hcz22_3 : wc.cell? ⟨gb306, 3, none⟩ = some (.string a0_3) := (blk_cell BK306.out 3).trans rfl
have hcz22_4 : wc.cell? ⟨gb306, 4, none⟩ = some (.string a0_4) := (blk_cell BK306.out 4).trans rfl
have hcz22_5 : wc.cell? ⟨gb306, 5, none⟩ = some (.string a0_5) := (blk_cell BK306.out 5).trans rfl
have hcz22_6 : wc.cell? ⟨gb306, 6, none⟩ = some (.int .i64 a0_6) := (blk_cell BK306.out 6).trans rfl
have hcz22_7 : wc.cell? ⟨gb306, 7, none⟩ = some (.slice A0_7 l0_7.length c0_7) := (blk_cell BK306.out 7).trans rfl
have hfz22_0 := blk_frozen BK306.out 0
have hfz22_1 := blk_frozen BK306.out 1
have hfz22_2 := blk_frozen BK306.out 2
have hfz22_3 := blk_frozen BK306.out 3
have hfz22_4 := blk_frozen BK306.out 4
have hfz22_5 := blk_frozen BK306.out 5
have hfz22_6 := blk_frozen BK306.out 6
have hfz22_7 := blk_frozen BK306.out 7
go_wp2_with (first | ((with_reducible refine gate_callee (f := 19) rfl ?_); refine goesL_ (some 35) rfl rfl Try.func19 (by kernel_rfl) rfl #[.agg #[.string a0_0, .string a0_1, .string a0_2, .string a0_3, .string a0_4, .string a0_5, .int .i64 a0_6, .slice A0_7 l0_7.length c0_7], .slice A1 l1.length c1, .slice A2 l2.length c2] rfl (by (try simp only [List.map_toArray, List.map_cons, List.map_nil]); first | done | rfl | (simp only [List.length_drop, List.length_take]; rfl)) ?_; (with_reducible refine (order_Cut.calls kj6 a0_0 a0_1 a0_2 a0_3 a0_4 a0_5 a0_6 _ _ l0_7 _ _ l1 _ _ l2 t309 t312 _ ?side1 ?side2 ?side3 ?side4 ?side5 ?side6 A20.out).mono ?_); (case side1 => repeat (first | exact (Kd.C_below HR0_7.out HB.out) | (with_reducible refine Kd.C_alloc ?_ _) | (with_reducible refine Kd.C_drewN ?_ _) | (with_reducible refine Kd.C_drew ?_))); (case side2 => exact HC0_7.out); (case side3 => repeat (first | exact (Kd.C_below HR1.out HB.out) | (with_reducible refine Kd.C_alloc ?_ _) | (with_reducible refine Kd.C_drewN ?_ _) | (with_reducible refine Kd.C_drew ?_))); (case side4 => exact HC1.out); (case side5 => repeat (first | exact (Kd.C_below HR2.out HB.out) | (with_reducible refine Kd.C_alloc ?_ _) | (with_reducible refine Kd.C_drewN ?_ _) | (with_reducible refine Kd.C_drew ?_))); (case side6 => exact HC2.out); rintro e w23 ⟨v310, rfl, ho0, hb⟩; refine ⟨_, rfl, ?_⟩; have n0_ := Aside0.mk (Kd.N_lower (Kd.N_mono (ok' := fun k_ => k_ ≠ gb306) (Kd.S_N (Kd.S_bound ho0)) (fun k_ hk_ => (Kd.freshB (g := gb306) (o := .cells #[.string a0_0, .string a0_1, .string a0_2, .string a0_3, .string a0_4, .string a0_5, .int .i64 a0_6, .slice A0_7 l0_7.length c0_7] 24 (0, 0)) (by (with_reducible repeat (first | refine blk_drewN ?_ _ | refine blk_drew ?_ | refine blk_alloc ?_ _)); exact BK306.out) k_ hk_.2.1))) (below_size (by repeat (first | (with_reducible first | exact HB.out | apply below_alloc | apply pw_below_drewN | apply below_drew1 | refine below_set ?_ GE306.out) | exact HB.out)))); have n1_ := Aside0.mk (blk_below (g := gb306) (o := .cells #[.string a0_0, .string a0_1, .string a0_2, .string a0_3, .string a0_4, .string a0_5, .int .i64 a0_6, .slice A0_7 l0_7.length c0_7] 24 (0, 0)) (by (with_reducible repeat (first | refine blk_drewN ?_ _ | refine blk_drew ?_ | refine blk_alloc ?_ _)); exact BK306.out) hb); have n2_ := Aside0.mk (below_step (by repeat (first | (with_reducible first | exact HB.out | apply below_alloc | apply pw_below_drewN | apply below_drew1 | refine below_set ?_ GE306.out) | exact HB.out)) hb); clear BK306; clear HB; have HO311 := n0_; have BK306 := n1_; have HB := n2_; clear n0_ n1_ n2_; (try clear hb); (try clear hb2); (try clear hk); (try clear hi); (try clear ho0)))
go_loopg [11, 12, 13] kj6 (fun kq v11 v12 v13 w' => ∃ (x11_2 : List (S42)) (x12_2 : List (S67)) (x13_2 : Int), v13 = .int .i64 x13_2 ∧ Aside0 (supercargolaw19_OrderSent.l0 kq l3 t309 x11_2 x12_2 x13_2 a0_0 a0_1 a0_2 a0_3 a0_4 a0_5 a0_6 l0_7 = some r) ∧ Aside0 (kq ≤ kj6) ∧ Aside0 (Kd.N k42 42 w' w.heap.size (fun k_ => some k_ ≠ (v11 : Value).ownBlock ∧ some k_ ≠ (v12 : Value).ownBlock ∧ k_ ≠ gb306) v310 t309) ∧ Aside0 (Kd.N k42 42 w' w.heap.size (fun k_ => some k_ ≠ (v310 : Value).ownBlock ∧ some k_ ≠ (v12 : Value).ownBlock ∧ k_ ≠ gb306) v11 x11_2) ∧ Aside0 (Kd.R k67 67 w' w.heap.size (fun _ => True) v12 x12_2) ∧ Aside0 (w'.heap[gb306]? = some (.cells #[.string a0_0, .string a0_1, .string a0_2, .string a0_3, .string a0_4, .string a0_5, .int .i64 a0_6, (.slice A0_7 l0_7.length c0_7)] 24 (0, 0))) ∧ Aside0 (Below w.heap.size w w'))
case atStart => exact ⟨(([] : List (S42))), (([] : List (S67))), (0), (by first | rfl | (simp; done) | (simp [*]; done)), H', ⟨Nat.le_refl _⟩, ⟨by (with_reducible repeat (first | apply Kd.N_alloc | apply Kd.N_drewN | apply Kd.N_drew)); exact Kd.N_mono HO311.out (fun _ hk => ⟨(by simp [Value.ownBlock]), ⟨(by simp [Value.ownBlock]), hk⟩⟩)⟩, ⟨by first | exact Kd.S_nil _ _ _ _ _ | exact Kd.N_nil _ _ _ _ _ | exact Kd.V_nil _ _ _ _ _ | exact Kd.Q_nil _ _ _ _ _ | exact Kd.R_nil _ _ _ _ _⟩, ⟨by first | exact Kd.R_nil _ _ _ _ _ | exact Kd.N_nil _ _ _ _ _ | exact Kd.V_nil _ _ _ _ _ | exact Kd.Q_nil _ _ _ _ _ | exact Kd.S_nil _ _ _ _ _⟩, ⟨by (with_reducible repeat (first | refine blk_drewN ?_ _ | refine blk_drew ?_ | refine blk_alloc ?_ _)); exact BK306.out⟩, ⟨by repeat (first | (with_reducible first | exact HB.out | apply below_alloc | apply pw_below_drewN | apply below_drew1 | refine below_set ?_ GE306.out) | exact HB.out)⟩⟩
case round => (
clear H'
try clear c1
try clear c2
try clear p2
try clear c3
try clear c6
try clear c8
try clear c11
try clear c12
try clear c12b0
try clear c12b1
try clear c19
try clear c21
try clear c21b0
try clear c21b1
try clear hcz13_0
try clear hcz13_1
try clear hcz13_2
try clear hcz13_3
try clear hcz13_4
try clear hcz13_5
try clear hcz13_6
try clear hcz13_7
try clear hcz15_0
try clear hcz15_1
try clear hcz15_2
try clear hcz15_3
try clear hcz15_4
try clear hcz15_5
try clear hcz15_6
try clear hcz15_7
try clear hcz17_0
try clear hcz17_1
try clear hcz17_2
try clear hcz17_3
try clear hcz17_4
try clear hcz17_5
try clear hcz17_6
try clear hcz17_7
try clear hcz22_0
try clear hcz22_1
try clear hcz22_2
try clear hcz22_3
try clear hcz22_4
try clear hcz22_5
try clear hcz22_6
try clear hcz22_7
try clear hfz13_0
try clear hfz13_1
try clear hfz13_2
try clear hfz13_3
try clear hfz13_4
try clear hfz13_5
try clear hfz13_6
try clear hfz13_7
try clear hfz15_0
try clear hfz15_1
try clear hfz15_2
try clear hfz15_3
try clear hfz15_4
try clear hfz15_5
try clear hfz15_6
try clear hfz15_7
try clear hfz17_0
try clear hfz17_1
try clear hfz17_2
try clear hfz17_3
try clear hfz17_4
try clear hfz17_5
try clear hfz17_6
try clear hfz17_7
try clear hfz22_0
try clear hfz22_1
try clear hfz22_2
try clear hfz22_3
try clear hfz22_4
try clear hfz22_5
try clear hfz22_6
try clear hfz22_7
try clear p2
obtain ⟨x11_2, x12_2, x13_2, rfl, HA, HK2, HO_9, HO_11, HO_12, BK306, HB⟩ := hrel
cases gk with
| zero => exact absurd HA.out (by simp [supercargolaw19_OrderSent.l0])
| succ k2 => (
have H := HA.out
clear HA
simp only [supercargolaw19_OrderSent.l0] at H
by_cases c24 : x13_2 < (t309.length : Int)
·(
rw [if_pos c24] at H
have c24b0 : decide (x13_2 < (t309.length : Int)) = true := decide_eq_true c24
clear c24
by_cases c25 : x13_2 < (l3.length : Int)
·(
rw [if_pos c25] at H
have c25b0 : decide (x13_2 < (l3.length : Int)) = true := decide_eq_true c25
clear c25
by_cases c26 : 0 ≤ x13_2
·(
rw [if_pos c26] at H
have c26b0 : decide (0 ≤ x13_2) = true := decide_eq_true c26
clear c26
obtain ⟨bq27, hbq27⟩ : ∃ b_ : Bool, b_ = (rdOf false l3 x13_2) := ⟨_, rfl⟩
replace H : (if bq27 = true then (if x11_2.length < 2513169434916 then (supercargolaw19_OrderSent.l0 k2 l3 t309 (x11_2 ++ [(⟨(rd_T42 t309 x13_2).f0, (rd_T42 t309 x13_2).f1, (rd_T42 t309 x13_2).f2, (rd_T42 t309 x13_2).f3⟩ : S42)]) x12_2 (wrap64 (x13_2 + 1)) a0_0 a0_1 a0_2 a0_3 a0_4 a0_5 a0_6 l0_7) else (none)) else (if x12_2.length + ((rd_T42 t309 x13_2).f3).length < 5864062014805 then (supercargolaw19_OrderSent.l0 k2 l3 t309 x11_2 (x12_2 ++ ((rd_T42 t309 x13_2).f3)) (wrap64 (x13_2 + 1)) a0_0 a0_1 a0_2 a0_3 a0_4 a0_5 a0_6 l0_7) else (none))) = some r := by rw [← hbq27] at H; exact H
have Nbq27 := Aside0.mk hbq27
clear hbq27
by_cases c28 : bq27 = true
·(
subst c28
have H1 : (if x11_2.length < 2513169434916 then (supercargolaw19_OrderSent.l0 k2 l3 t309 (x11_2 ++ [(⟨(rd_T42 t309 x13_2).f0, (rd_T42 t309 x13_2).f1, (rd_T42 t309 x13_2).f2, (rd_T42 t309 x13_2).f3⟩ : S42)]) x12_2 (wrap64 (x13_2 + 1)) a0_0 a0_1 a0_2 a0_3 a0_4 a0_5 a0_6 l0_7) else (none)) = some r := by rw [if_pos rfl] at H; exact H
clear H
have H := H1
clear H1
by_cases c29 : x11_2.length < 2513169434916
·(
rw [if_pos c29] at H
have LMc29 := Aside0.mk c29
clear c29
obtain ⟨y315, hy315⟩ : ∃ y_ : List (S42), y_ = (x11_2 ++ [(⟨(rd_T42 t309 x13_2).f0, (rd_T42 t309 x13_2).f1, (rd_T42 t309 x13_2).f2, (rd_T42 t309 x13_2).f3⟩ : S42)]) := ⟨_, rfl⟩
replace H : (supercargolaw19_OrderSent.l0 k2 l3 t309 y315 x12_2 (wrap64 (x13_2 + 1)) a0_0 a0_1 a0_2 a0_3 a0_4 a0_5 a0_6 l0_7) = some r := by first | (rw [hy315]; with_reducible exact H) | (have H2_ := (Option.bind_some _ _).symm.trans H; rw [hy315]; with_reducible exact H2_) | (have H2_ := (Option.bind_some _ _).symm.trans H; with_reducible exact H2_) | with_reducible exact H | (rw [hy315]; exact H) | exact H
have Ny315 := Aside0.mk hy315
clear hy315
have H' := Aside0.mk H
clear H
obtain ⟨Ao30, co30, eo30⟩ := Kd.N_slice HO_9.out
subst eo30
have p313 : 0 ≤ (x13_2 : Int) := of_decide_eq_true (by first | (with_reducible assumption) | assumption)
have q313 : x13_2 < (l3.length : Int) := of_decide_eq_true (by first | (with_reducible assumption) | assumption)
obtain ⟨ad313, e313, hx313_0⟩ := Kd.at_bool HR3.out x13_2 p313 q313
(try rw [← Nbq27.out] at hx313_0)
cases e313
replace hx313_0 := (HB.out.cell (World.block_lt_of_cell? w _ hx313_0)).trans hx313_0
replace p313 := eq_true p313
replace q313 := eq_true q313
have p314 : 0 ≤ (x13_2 : Int) := of_decide_eq_true (by first | (with_reducible assumption) | assumption)
have q314 : x13_2 < (t309.length : Int) := of_decide_eq_true (by first | (with_reducible assumption) | assumption)
obtain ⟨ad314, A314_3, c314_3, e314, hx314_0, hx314_1, hx314_2, hx314_3, hl314_3, hi314_3⟩ := at_T42 (Kd.N_reads' HO_9.out).2.2 x13_2 p314 q314
cases e314
obtain ⟨ce314, hce314, hMe314, hcc314⟩ := Kd.N_get HO_9.out z42 x13_2 p314 (by first | exact q314 | exact of_decide_eq_true (by first | (with_reducible assumption) | assumption) | (have e_ := (Kd.N_reads' HO_9.out).1; omega))
obtain ⟨ua314_3, uc314_3, rfl, ul314_3, ge314_3⟩ := k42_openF hMe314
have hv314_3 := hcc314 3 _ rfl
rw [add_field _ _ 3 (by omega)] at hv314_3
replace hv314_3 := Option.some.inj (hv314_3.symm.trans hx314_3)
injection hv314_3 with hva_ hvn_ hvc_
rw [hva_] at ge314_3
rw [hvc_] at ul314_3
have HL314_3 := Aside0.mk (show Kd.V k67 67 _ w.heap.size _ _ ((rd_T42 t309 x13_2).f3) from Kd.V_mk ul314_3 ge314_3)
clear hva_ hvn_ hvc_ ge314_3 ul314_3
clear hcc314 hce314
have HR314_3 := Aside0.mk hi314_3
have HC314_3 := Aside0.mk hl314_3
clear hi314_3 hl314_3
replace p314 := eq_true p314
replace q314 := eq_true q314
go_wp2_with (first | ((with_reducible refine gate_builtin (b := .append) (xs := #[.tmp 56, .tmp 61]) rfl ?_); (try (refine gate_guard (by rfl) ?_; dsimp only)); at_builtin; refine Kd.N_append k42 (w0 := w) w.heap.size rfl (.tmp 56) (.tmp 61) 34 42 (.agg #[(.string ⟨#[]⟩), (.int .i64 0), (.int .i64 0), (.slice none 0 0)]) 56 rfl Try.underlying34 info42 rfl (by decide) (by omega) u11 x11_2 (⟨(rd_T42 t309 x13_2).f0, (rd_T42 t309 x13_2).f1, (rd_T42 t309 x13_2).f2, (rd_T42 t309 x13_2).f3⟩ : S42) [.string ((rd_T42 t309 x13_2).f0), .int .i64 ((rd_T42 t309 x13_2).f1), .int .i64 ((rd_T42 t309 x13_2).f2), .slice A314_3 ((rd_T42 t309 x13_2).f3).length c314_3] (fun k_ => some k_ ≠ (.slice (some ad314) t309.length co30 : Value).ownBlock ∧ some k_ ≠ (u12 : Value).ownBlock ∧ k_ ≠ gb306) (fun k_ => ((fun k_ => some k_ ≠ (.slice (some ad314) t309.length co30 : Value).ownBlock ∧ some k_ ≠ (u12 : Value).ownBlock ∧ k_ ≠ gb306)) k_ ∧ some k_ ≠ (u11 : Value).ownBlock) rfl rfl ?aP (fun _ hk => hk) ?aF ?aO ?aB ?aS ?aL ?_; (case aP => exact (k42_mkF _ _ (⟨(rd_T42 t309 x13_2).f0, (rd_T42 t309 x13_2).f1, (rd_T42 t309 x13_2).f2, (rd_T42 t309 x13_2).f3⟩ : S42) (Kd.V_reads' (Kd.V_mono (ok' := (fun k_ => ((fun k_ => some k_ ≠ (.slice (some ad314) t309.length co30 : Value).ownBlock ∧ some k_ ≠ (u12 : Value).ownBlock ∧ k_ ≠ gb306)) k_ ∧ some k_ ≠ (u11 : Value).ownBlock)) (HL314_3.out) (fun k_ hk => ⟨⟨hk.2, ⟨hk.1.2.1, hk.1.2.2⟩⟩, hk.1.1⟩))).2.1 (Kd.V_F (Kd.V_mono (ok' := (fun k_ => ((fun k_ => some k_ ≠ (.slice (some ad314) t309.length co30 : Value).ownBlock ∧ some k_ ≠ (u12 : Value).ownBlock ∧ k_ ≠ gb306)) k_ ∧ some k_ ≠ (u11 : Value).ownBlock)) (HL314_3.out) (fun k_ hk => ⟨⟨hk.2, ⟨hk.1.2.1, hk.1.2.2⟩⟩, hk.1.1⟩))))); (case aB => exact (by repeat (first | (with_reducible first | exact HB.out | apply below_alloc | apply pw_below_drewN | apply below_drew1 | refine below_set ?_ GE306.out) | exact HB.out))); (case aF => exact (fun k_ hk => ⟨Kd.fresh' (Kd.N_lt (by (with_reducible repeat (first | apply Kd.N_alloc | apply Kd.N_drewN | apply Kd.N_drew)); exact HO_9.out)) k_ hk, Kd.fresh' (Kd.R_lt (by (with_reducible repeat (first | apply Kd.R_alloc | apply Kd.R_drewN | apply Kd.R_drew)); exact HO_12.out)) k_ hk, Kd.freshB (g := gb306) (o := .cells #[.string a0_0, .string a0_1, .string a0_2, .string a0_3, .string a0_4, .string a0_5, .int .i64 a0_6, .slice A0_7 l0_7.length c0_7] 24 (0, 0)) (by (with_reducible repeat (first | refine blk_drewN ?_ _ | refine blk_drew ?_ | refine blk_alloc ?_ _)); exact BK306.out) k_ hk⟩)); (case aO => exact (by (with_reducible repeat (first | apply Kd.N_alloc | apply Kd.N_drewN | apply Kd.N_drew)); exact HO_11.out)); (case aS => exact (below_size (by repeat (first | (with_reducible first | exact HB.out | apply below_alloc | apply pw_below_drewN | apply below_drew1 | refine below_set ?_ GE306.out) | exact HB.out)))); (case aL => have := LMc29.out; omega); intro v316 w31 ho hb hg hat; rw [← Ny315.out] at ho; have n0_ := Aside0.mk (Kd.N_afterv (ok := (fun k_ => some k_ ≠ (u12 : Value).ownBlock ∧ k_ ≠ gb306)) (by (with_reducible repeat (first | apply Kd.N_alloc | apply Kd.N_drewN | apply Kd.N_drew)); exact Kd.N_mono HO_9.out (fun _ hk => ⟨⟨hk.2.1, hk.2.2⟩, hk.1⟩)) hg hat); have n1_ := Aside0.mk (Kd.R_over' (by (with_reducible repeat (first | apply Kd.R_alloc | apply Kd.R_drewN | apply Kd.R_drew)); exact HO_12.out) (Kd.N_typed (by (with_reducible repeat (first | apply Kd.N_alloc | apply Kd.N_drewN | apply Kd.N_drew)); exact HO_11.out)) (by decide) hg); have n2_ := Aside0.mk (blk_grown (g := gb306) (o := .cells #[.string a0_0, .string a0_1, .string a0_2, .string a0_3, .string a0_4, .string a0_5, .int .i64 a0_6, .slice A0_7 l0_7.length c0_7] 24 (0, 0)) (by (with_reducible repeat (first | refine blk_drewN ?_ _ | refine blk_drew ?_ | refine blk_alloc ?_ _)); exact BK306.out) hg (Kd.N_ne HO_11.out BK306.out (by decide))); have n3_ := Aside0.mk (Kd.V_afterv (ok := (fun k_ => some k_ ≠ (.slice (some ad314) t309.length co30 : Value).ownBlock ∧ some k_ ≠ (u12 : Value).ownBlock ∧ k_ ≠ gb306)) (by (with_reducible repeat (first | apply Kd.V_alloc | apply Kd.V_drewN | apply Kd.V_drew)); exact Kd.V_mono HL314_3.out (fun _ hk => ⟨⟨hk.2, ⟨hk.1.2.1, hk.1.2.2⟩⟩, hk.1.1⟩)) hg hat); have n4_ := Aside0.mk (hb); have n5_ := Aside0.mk (ho); clear HO_9; clear HO_12; clear BK306; clear HL314_3; clear HB; clear HO_11; have HO_9 := n0_; have HO_12 := n1_; have BK306 := n2_; have HL314_3 := n3_; have HB := n4_; have HO317 := n5_; clear n0_ n1_ n2_ n3_ n4_ n5_; clear ho hb hg hat))
go_roundg k2
case measure => have := HJ6.out; have := HK2.out; omega
case rel => exact ⟨(y315), (x12_2), (wrap64 (x13_2 + 1)), (by first | rfl | (simp; done) | (simp [*]; done)), H', ⟨by have := HJ6.out; have := HK2.out; omega⟩, ⟨by (with_reducible repeat (first | apply Kd.N_alloc | apply Kd.N_drewN | apply Kd.N_drew)); exact Kd.N_mono HO_9.out (fun _ hk => ⟨hk.2, ⟨hk.1.1, hk.1.2⟩⟩)⟩, ⟨by (with_reducible repeat (first | apply Kd.N_alloc | apply Kd.N_drewN | apply Kd.N_drew)); exact HO317.out⟩, ⟨by (with_reducible repeat (first | apply Kd.R_alloc | apply Kd.R_drewN | apply Kd.R_drew)); exact HO_12.out⟩, ⟨by (with_reducible repeat (first | refine blk_drewN ?_ _ | refine blk_drew ?_ | refine blk_alloc ?_ _)); exact BK306.out⟩, ⟨by repeat (first | (with_reducible first | exact HB.out | apply below_alloc | apply pw_below_drewN | apply below_drew1 | refine below_set ?_ GE306.out) | exact HB.out)⟩⟩
)
·(
rw [if_neg c29] at H
exact absurd H (by simp)
)
)
·(
replace c28 := Bool.eq_false_iff.mpr c28
subst c28
have H1 : (if x12_2.length + ((rd_T42 t309 x13_2).f3).length < 5864062014805 then (supercargolaw19_OrderSent.l0 k2 l3 t309 x11_2 (x12_2 ++ ((rd_T42 t309 x13_2).f3)) (wrap64 (x13_2 + 1)) a0_0 a0_1 a0_2 a0_3 a0_4 a0_5 a0_6 l0_7) else (none)) = some r := by rw [if_neg (show ¬ (false = true) by decide)] at H; exact H
clear H
have H := H1
clear H1
by_cases c32 : x12_2.length + ((rd_T42 t309 x13_2).f3).length < 5864062014805
·(
rw [if_pos c32] at H
have LMc32 := Aside0.mk c32
clear c32
obtain ⟨y319, hy319⟩ : ∃ y_ : List (S67), y_ = (x12_2 ++ ((rd_T42 t309 x13_2).f3)) := ⟨_, rfl⟩
replace H : (supercargolaw19_OrderSent.l0 k2 l3 t309 x11_2 y319 (wrap64 (x13_2 + 1)) a0_0 a0_1 a0_2 a0_3 a0_4 a0_5 a0_6 l0_7) = some r := by first | (rw [hy319]; with_reducible exact H) | (have H2_ := (Option.bind_some _ _).symm.trans H; rw [hy319]; with_reducible exact H2_) | (have H2_ := (Option.bind_some _ _).symm.trans H; with_reducible exact H2_) | with_reducible exact H | (rw [hy319]; exact H) | exact H
have Ny319 := Aside0.mk hy319
clear hy319
have H' := Aside0.mk H
clear H
obtain ⟨Ao33, co33, eo33⟩ := Kd.N_slice HO_9.out
subst eo33
have p313 : 0 ≤ (x13_2 : Int) := of_decide_eq_true (by first | (with_reducible assumption) | assumption)
have q313 : x13_2 < (l3.length : Int) := of_decide_eq_true (by first | (with_reducible assumption) | assumption)
obtain ⟨ad313, e313, hx313_0⟩ := Kd.at_bool HR3.out x13_2 p313 q313
(try rw [← Nbq27.out] at hx313_0)
cases e313
replace hx313_0 := (HB.out.cell (World.block_lt_of_cell? w _ hx313_0)).trans hx313_0
replace p313 := eq_true p313
replace q313 := eq_true q313
have p318 : 0 ≤ (x13_2 : Int) := of_decide_eq_true (by first | (with_reducible assumption) | assumption)
have q318 : x13_2 < (t309.length : Int) := of_decide_eq_true (by first | (with_reducible assumption) | assumption)
obtain ⟨ad318, A318_3, c318_3, e318, hx318_0, hx318_1, hx318_2, hx318_3, hl318_3, hi318_3⟩ := at_T42 (Kd.N_reads' HO_9.out).2.2 x13_2 p318 q318
cases e318
obtain ⟨ce318, hce318, hMe318, hcc318⟩ := Kd.N_get HO_9.out z42 x13_2 p318 (by first | exact q318 | exact of_decide_eq_true (by first | (with_reducible assumption) | assumption) | (have e_ := (Kd.N_reads' HO_9.out).1; omega))
obtain ⟨ua318_3, uc318_3, rfl, ul318_3, ge318_3⟩ := k42_openF hMe318
have hv318_3 := hcc318 3 _ rfl
rw [add_field _ _ 3 (by omega)] at hv318_3
replace hv318_3 := Option.some.inj (hv318_3.symm.trans hx318_3)
injection hv318_3 with hva_ hvn_ hvc_
rw [hva_] at ge318_3
rw [hvc_] at ul318_3
have HL318_3 := Aside0.mk (show Kd.V k67 67 _ w.heap.size _ _ ((rd_T42 t309 x13_2).f3) from Kd.V_mk ul318_3 ge318_3)
clear hva_ hvn_ hvc_ ge318_3 ul318_3
clear hcc318 hce318
have HR318_3 := Aside0.mk hi318_3
have HC318_3 := Aside0.mk hl318_3
clear hi318_3 hl318_3
replace p318 := eq_true p318
replace q318 := eq_true q318
go_wp2_with (first | ((with_reducible refine gate_builtin (b := .append) (xs := #[.tmp 63, .tmp 68]) rfl ?_); (try (refine gate_guard (by rfl) ?_; dsimp only)); at_builtin; refine Kd.R_append_rows k67 (w0 := w) w.heap.size rfl (.tmp 63) (.tmp 68) 40 67 (.agg #[(.string ⟨#[]⟩), (.int .i64 0)]) 24 rfl Try.underlying40 info67 rfl (by decide) (by omega) u12 x12_2 ((rd_T42 t309 x13_2).f3) _ _ _ (fun _ => True) (fun _ => False) rfl rfl ?aO ?aR (fun _ _ h => h) (fun _ h => h.elim) ?aF ?aB ?aS ?aL ?_; (case aR => repeat (first | exact (by repeat (first | (with_reducible exact HR318_3.out) | (with_reducible refine Kd.C_alloc ?_ _) | (with_reducible refine Kd.C_drewN ?_ _) | (with_reducible refine Kd.C_drew ?_) | exact HR318_3.out)) | (with_reducible refine Kd.C_alloc ?_ _) | (with_reducible refine Kd.C_drewN ?_ _) | (with_reducible refine Kd.C_drew ?_))); (case aB => exact (by repeat (first | (with_reducible first | exact HB.out | apply below_alloc | apply pw_below_drewN | apply below_drew1 | refine below_set ?_ GE306.out) | exact HB.out))); (case aF => exact (fun _ _ => trivial)); (case aO => exact (by (with_reducible repeat (first | apply Kd.R_alloc | apply Kd.R_drewN | apply Kd.R_drew)); exact HO_12.out)); (case aS => exact (below_size (by repeat (first | (with_reducible first | exact HB.out | apply below_alloc | apply pw_below_drewN | apply below_drew1 | refine below_set ?_ GE306.out) | exact HB.out)))); (case aL => have := LMc32.out; omega); intro v320 w34 ho hb hg hat; rw [← Ny319.out] at ho; have n0_ := Aside0.mk (Kd.N_afterv (ok := (fun k_ => some k_ ≠ (u11 : Value).ownBlock ∧ k_ ≠ gb306)) (by (with_reducible repeat (first | apply Kd.N_alloc | apply Kd.N_drewN | apply Kd.N_drew)); exact Kd.N_mono HO_9.out (fun _ hk => ⟨⟨hk.1, hk.2.2⟩, hk.2.1⟩)) hg hat); have n1_ := Aside0.mk (Kd.N_afterv (ok := (fun k_ => some k_ ≠ (.slice (some ad318) t309.length co33 : Value).ownBlock ∧ k_ ≠ gb306)) (by (with_reducible repeat (first | apply Kd.N_alloc | apply Kd.N_drewN | apply Kd.N_drew)); exact Kd.N_mono HO_11.out (fun _ hk => ⟨⟨hk.1, hk.2.2⟩, hk.2.1⟩)) hg hat); have n2_ := Aside0.mk (blk_grown (g := gb306) (o := .cells #[.string a0_0, .string a0_1, .string a0_2, .string a0_3, .string a0_4, .string a0_5, .int .i64 a0_6, .slice A0_7 l0_7.length c0_7] 24 (0, 0)) (by (with_reducible repeat (first | refine blk_drewN ?_ _ | refine blk_drew ?_ | refine blk_alloc ?_ _)); exact BK306.out) hg (Kd.R_ne HO_12.out BK306.out (by decide))); have n3_ := Aside0.mk (Kd.V_afterv (ok := (fun k_ => some k_ ≠ (.slice (some ad318) t309.length co33 : Value).ownBlock ∧ some k_ ≠ (u11 : Value).ownBlock ∧ k_ ≠ gb306)) (by (with_reducible repeat (first | apply Kd.V_alloc | apply Kd.V_drewN | apply Kd.V_drew)); exact Kd.V_mono HL318_3.out (fun _ hk => ⟨⟨hk.2, ⟨hk.1.1, hk.1.2.2⟩⟩, hk.1.2.1⟩)) hg hat); have n4_ := Aside0.mk (hb); have n5_ := Aside0.mk (ho); clear HO_9; clear HO_11; clear BK306; clear HL318_3; clear HB; clear HO_12; have HO_9 := n0_; have HO_11 := n1_; have BK306 := n2_; have HL318_3 := n3_; have HB := n4_; have HO321 := n5_; clear n0_ n1_ n2_ n3_ n4_ n5_; clear ho hb hg hat))
go_roundg k2
case measure => have := HJ6.out; have := HK2.out; omega
case rel => exact ⟨(x11_2), (y319), (wrap64 (x13_2 + 1)), (by first | rfl | (simp; done) | (simp [*]; done)), H', ⟨by have := HJ6.out; have := HK2.out; omega⟩, ⟨by (with_reducible repeat (first | apply Kd.N_alloc | apply Kd.N_drewN | apply Kd.N_drew)); exact Kd.N_mono HO_9.out (fun _ hk => ⟨hk.1.1, ⟨hk.2, hk.1.2⟩⟩)⟩, ⟨by (with_reducible repeat (first | apply Kd.N_alloc | apply Kd.N_drewN | apply Kd.N_drew)); exact Kd.N_mono HO_11.out (fun _ hk => ⟨hk.1.1, ⟨hk.2, hk.1.2⟩⟩)⟩, ⟨by (with_reducible repeat (first | apply Kd.R_alloc | apply Kd.R_drewN | apply Kd.R_drew)); exact HO321.out⟩, ⟨by (with_reducible repeat (first | refine blk_drewN ?_ _ | refine blk_drew ?_ | refine blk_alloc ?_ _)); exact BK306.out⟩, ⟨by repeat (first | (with_reducible first | exact HB.out | apply below_alloc | apply pw_below_drewN | apply below_drew1 | refine below_set ?_ GE306.out) | exact HB.out)⟩⟩
)
·(
rw [if_neg c32] at H
exact absurd H (by simp)
)
)
)
·(
rw [if_neg c26] at H
exact absurd H (by simp)
)
)
·(
rw [if_neg c25] at H
have c25b0 : decide (x13_2 < (l3.length : Int)) = false := decide_eq_false c25
clear c25
by_cases c35 : 0 ≤ x13_2
·(
rw [if_pos c35] at H
have c35b0 : decide (0 ≤ x13_2) = true := decide_eq_true c35
clear c35
by_cases c36 : x12_2.length + ((rd_T42 t309 x13_2).f3).length < 5864062014805
·(
rw [if_pos c36] at H
have LMc36 := Aside0.mk c36
clear c36
obtain ⟨y323, hy323⟩ : ∃ y_ : List (S67), y_ = (x12_2 ++ ((rd_T42 t309 x13_2).f3)) := ⟨_, rfl⟩
replace H : (supercargolaw19_OrderSent.l0 k2 l3 t309 x11_2 y323 (wrap64 (x13_2 + 1)) a0_0 a0_1 a0_2 a0_3 a0_4 a0_5 a0_6 l0_7) = some r := by first | (rw [hy323]; with_reducible exact H) | (have H2_ := (Option.bind_some _ _).symm.trans H; rw [hy323]; with_reducible exact H2_) | (have H2_ := (Option.bind_some _ _).symm.trans H; with_reducible exact H2_) | with_reducible exact H | (rw [hy323]; exact H) | exact H
have Ny323 := Aside0.mk hy323
clear hy323
have H' := Aside0.mk H
clear H
obtain ⟨Ao37, co37, eo37⟩ := Kd.N_slice HO_9.out
subst eo37
have p322 : 0 ≤ (x13_2 : Int) := of_decide_eq_true (by first | (with_reducible assumption) | assumption)
have q322 : x13_2 < (t309.length : Int) := of_decide_eq_true (by first | (with_reducible assumption) | assumption)
obtain ⟨ad322, A322_3, c322_3, e322, hx322_0, hx322_1, hx322_2, hx322_3, hl322_3, hi322_3⟩ := at_T42 (Kd.N_reads' HO_9.out).2.2 x13_2 p322 q322
cases e322
obtain ⟨ce322, hce322, hMe322, hcc322⟩ := Kd.N_get HO_9.out z42 x13_2 p322 (by first | exact q322 | exact of_decide_eq_true (by first | (with_reducible assumption) | assumption) | (have e_ := (Kd.N_reads' HO_9.out).1; omega))
obtain ⟨ua322_3, uc322_3, rfl, ul322_3, ge322_3⟩ := k42_openF hMe322
have hv322_3 := hcc322 3 _ rfl
rw [add_field _ _ 3 (by omega)] at hv322_3
replace hv322_3 := Option.some.inj (hv322_3.symm.trans hx322_3)
injection hv322_3 with hva_ hvn_ hvc_
rw [hva_] at ge322_3
rw [hvc_] at ul322_3
have HL322_3 := Aside0.mk (show Kd.V k67 67 _ w.heap.size _ _ ((rd_T42 t309 x13_2).f3) from Kd.V_mk ul322_3 ge322_3)
clear hva_ hvn_ hvc_ ge322_3 ul322_3
clear hcc322 hce322
have HR322_3 := Aside0.mk hi322_3
have HC322_3 := Aside0.mk hl322_3
clear hi322_3 hl322_3
replace p322 := eq_true p322
replace q322 := eq_true q322
go_wp2_with (first | ((with_reducible refine gate_builtin (b := .append) (xs := #[.tmp 63, .tmp 68]) rfl ?_); (try (refine gate_guard (by rfl) ?_; dsimp only)); at_builtin; refine Kd.R_append_rows k67 (w0 := w) w.heap.size rfl (.tmp 63) (.tmp 68) 40 67 (.agg #[(.string ⟨#[]⟩), (.int .i64 0)]) 24 rfl Try.underlying40 info67 rfl (by decide) (by omega) u12 x12_2 ((rd_T42 t309 x13_2).f3) _ _ _ (fun _ => True) (fun _ => False) rfl rfl ?aO ?aR (fun _ _ h => h) (fun _ h => h.elim) ?aF ?aB ?aS ?aL ?_; (case aR => repeat (first | exact (by repeat (first | (with_reducible exact HR322_3.out) | (with_reducible refine Kd.C_alloc ?_ _) | (with_reducible refine Kd.C_drewN ?_ _) | (with_reducible refine Kd.C_drew ?_) | exact HR322_3.out)) | (with_reducible refine Kd.C_alloc ?_ _) | (with_reducible refine Kd.C_drewN ?_ _) | (with_reducible refine Kd.C_drew ?_))); (case aB => exact (by repeat (first | (with_reducible first | exact HB.out | apply below_alloc | apply pw_below_drewN | apply below_drew1 | refine below_set ?_ GE306.out) | exact HB.out))); (case aF => exact (fun _ _ => trivial)); (case aO => exact (by (with_reducible repeat (first | apply Kd.R_alloc | apply Kd.R_drewN | apply Kd.R_drew)); exact HO_12.out)); (case aS => exact (below_size (by repeat (first | (with_reducible first | exact HB.out | apply below_alloc | apply pw_below_drewN | apply below_drew1 | refine below_set ?_ GE306.out) | exact HB.out)))); (case aL => have := LMc36.out; omega); intro v324 w38 ho hb hg hat; rw [← Ny323.out] at ho; have n0_ := Aside0.mk (Kd.N_afterv (ok := (fun k_ => some k_ ≠ (u11 : Value).ownBlock ∧ k_ ≠ gb306)) (by (with_reducible repeat (first | apply Kd.N_alloc | apply Kd.N_drewN | apply Kd.N_drew)); exact Kd.N_mono HO_9.out (fun _ hk => ⟨⟨hk.1, hk.2.2⟩, hk.2.1⟩)) hg hat); have n1_ := Aside0.mk (Kd.N_afterv (ok := (fun k_ => some k_ ≠ (.slice (some ad322) t309.length co37 : Value).ownBlock ∧ k_ ≠ gb306)) (by (with_reducible repeat (first | apply Kd.N_alloc | apply Kd.N_drewN | apply Kd.N_drew)); exact Kd.N_mono HO_11.out (fun _ hk => ⟨⟨hk.1, hk.2.2⟩, hk.2.1⟩)) hg hat); have n2_ := Aside0.mk (blk_grown (g := gb306) (o := .cells #[.string a0_0, .string a0_1, .string a0_2, .string a0_3, .string a0_4, .string a0_5, .int .i64 a0_6, .slice A0_7 l0_7.length c0_7] 24 (0, 0)) (by (with_reducible repeat (first | refine blk_drewN ?_ _ | refine blk_drew ?_ | refine blk_alloc ?_ _)); exact BK306.out) hg (Kd.R_ne HO_12.out BK306.out (by decide))); have n3_ := Aside0.mk (Kd.V_afterv (ok := (fun k_ => some k_ ≠ (.slice (some ad322) t309.length co37 : Value).ownBlock ∧ some k_ ≠ (u11 : Value).ownBlock ∧ k_ ≠ gb306)) (by (with_reducible repeat (first | apply Kd.V_alloc | apply Kd.V_drewN | apply Kd.V_drew)); exact Kd.V_mono HL322_3.out (fun _ hk => ⟨⟨hk.2, ⟨hk.1.1, hk.1.2.2⟩⟩, hk.1.2.1⟩)) hg hat); have n4_ := Aside0.mk (hb); have n5_ := Aside0.mk (ho); clear HO_9; clear HO_11; clear BK306; clear HL322_3; clear HB; clear HO_12; have HO_9 := n0_; have HO_11 := n1_; have BK306 := n2_; have HL322_3 := n3_; have HB := n4_; have HO325 := n5_; clear n0_ n1_ n2_ n3_ n4_ n5_; clear ho hb hg hat))
go_roundg k2
case measure => have := HJ6.out; have := HK2.out; omega
case rel => exact ⟨(x11_2), (y323), (wrap64 (x13_2 + 1)), (by first | rfl | (simp; done) | (simp [*]; done)), H', ⟨by have := HJ6.out; have := HK2.out; omega⟩, ⟨by (with_reducible repeat (first | apply Kd.N_alloc | apply Kd.N_drewN | apply Kd.N_drew)); exact Kd.N_mono HO_9.out (fun _ hk => ⟨hk.1.1, ⟨hk.2, hk.1.2⟩⟩)⟩, ⟨by (with_reducible repeat (first | apply Kd.N_alloc | apply Kd.N_drewN | apply Kd.N_drew)); exact Kd.N_mono HO_11.out (fun _ hk => ⟨hk.1.1, ⟨hk.2, hk.1.2⟩⟩)⟩, ⟨by (with_reducible repeat (first | apply Kd.R_alloc | apply Kd.R_drewN | apply Kd.R_drew)); exact HO325.out⟩, ⟨by (with_reducible repeat (first | refine blk_drewN ?_ _ | refine blk_drew ?_ | refine blk_alloc ?_ _)); exact BK306.out⟩, ⟨by repeat (first | (with_reducible first | exact HB.out | apply below_alloc | apply pw_below_drewN | apply below_drew1 | refine below_set ?_ GE306.out) | exact HB.out)⟩⟩
)
·(
rw [if_neg c36] at H
exact absurd H (by simp)
)
)
·(
rw [if_neg c35] at H
exact absurd H (by simp)
)
)
)
·(
rw [if_neg c24] at H
have c24b0 : decide (x13_2 < (t309.length : Int)) = false := decide_eq_false c24
clear c24
replace H := Option.bind_eq_some_iff.mp H
obtain ⟨⟨t326, t329⟩, A390, H⟩ := H
replace H : (if t329 = 0 then ((goods_Join.f x12_2).bind fun t330 => ((sr11_Same.f k2 t326 t330).bind fun t333 => (some t333))) else (some false)) = some r := H
have A39 := Aside0.mk A390
clear A390
by_cases c40 : t329 = 0
·(
rw [if_pos c40] at H
have c40b0 : (t329 == 0) = true := beq_iff_eq.mpr c40
have c40b1 : (t329 != 0) = false := bne_eq_false_iff_eq.mpr c40
clear c40
replace H := Option.bind_eq_some_iff.mp H
obtain ⟨t330, A410, H⟩ := H
replace H : ((sr11_Same.f k2 t326 t330).bind fun t333 => (some t333)) = some r := H
have A41 := Aside0.mk A410
clear A410
replace H := Option.bind_eq_some_iff.mp H
obtain ⟨t333, A420, H⟩ := H
replace H : (some t333) = some r := H
have A42 := Aside0.mk A420
clear A420
clear hT; obtain rfl := Option.some.inj H
obtain ⟨Ao43, co43, eo43⟩ := Kd.N_slice HO_9.out
subst eo43
have hcz44_0 : wr.cell? ⟨gb306, 0, none⟩ = some (.string a0_0) := (blk_cell BK306.out 0).trans rfl
have hcz44_1 : wr.cell? ⟨gb306, 1, none⟩ = some (.string a0_1) := (blk_cell BK306.out 1).trans rfl
have hcz44_2 : wr.cell? ⟨gb306, 2, none⟩ = some (.string a0_2) := (blk_cell BK306.out 2).trans rfl
have hcz44_3 : wr.cell? ⟨gb306, 3, none⟩ = some (.string a0_3) := (blk_cell BK306.out 3).trans rfl
have hcz44_4 : wr.cell? ⟨gb306, 4, none⟩ = some (.string a0_4) := (blk_cell BK306.out 4).trans rfl
have hcz44_5 : wr.cell? ⟨gb306, 5, none⟩ = some (.string a0_5) := (blk_cell BK306.out 5).trans rfl
have hcz44_6 : wr.cell? ⟨gb306, 6, none⟩ = some (.int .i64 a0_6) := (blk_cell BK306.out 6).trans rfl
have hcz44_7 : wr.cell? ⟨gb306, 7, none⟩ = some (.slice A0_7 l0_7.length c0_7) := (blk_cell BK306.out 7).trans rfl
have hfz44_0 := blk_frozen BK306.out 0
have hfz44_1 := blk_frozen BK306.out 1
have hfz44_2 := blk_frozen BK306.out 2
have hfz44_3 := blk_frozen BK306.out 3
have hfz44_4 := blk_frozen BK306.out 4
have hfz44_5 := blk_frozen BK306.out 5
have hfz44_6 := blk_frozen BK306.out 6
have hfz44_7 := blk_frozen BK306.out 7
obtain ⟨Ao45, co45, eo45⟩ := Kd.N_slice HO_11.out
subst eo45
go_wp2_with (first | ((with_reducible refine gate_callee (f := 30) rfl ?_); refine goesL_ (some 73) rfl rfl Try.func30 (by kernel_rfl) rfl #[.agg #[.string a0_0, .string a0_1, .string a0_2, .string a0_3, .string a0_4, .string a0_5, .int .i64 a0_6, .slice A0_7 l0_7.length c0_7], .slice Ao45 x11_2.length co45] rfl (by (try simp only [List.map_toArray, List.map_cons, List.map_nil]); first | done | rfl | (simp only [List.length_drop, List.length_take]; rfl)) ?_; (with_reducible refine (order_Left.calls k2 a0_0 a0_1 a0_2 a0_3 a0_4 a0_5 a0_6 _ _ l0_7 _ _ x11_2 t326 t329 _ ?side1 ?side2 ?side3 ?side4 A39.out).mono ?_); (case side1 => repeat (first | exact (Kd.C_below HR0_7.out HB.out) | (with_reducible refine Kd.C_alloc ?_ _) | (with_reducible refine Kd.C_drewN ?_ _) | (with_reducible refine Kd.C_drew ?_))); (case side2 => exact HC0_7.out); (case side3 => repeat (first | exact (Kd.N_reads' HO_11.out).2.2 | (with_reducible refine Kd.C_alloc ?_ _) | (with_reducible refine Kd.C_drewN ?_ _) | (with_reducible refine Kd.C_drew ?_))); (case side4 => exact (Kd.N_reads' HO_11.out).2.1); rintro e w46 ⟨v327, rfl, ho0, hb⟩; refine ⟨_, rfl, ?_⟩; have n0_ := Aside0.mk (Kd.N_elder' (by (with_reducible repeat (first | apply Kd.N_alloc | apply Kd.N_drewN | apply Kd.N_drew)); exact HO_9.out) (Kd.R_base ho0) hb); have n1_ := Aside0.mk (Kd.N_elder' (by (with_reducible repeat (first | apply Kd.N_alloc | apply Kd.N_drewN | apply Kd.N_drew)); exact HO_11.out) (Kd.R_base ho0) hb); have n2_ := Aside0.mk (Kd.R_elder' (by (with_reducible repeat (first | apply Kd.R_alloc | apply Kd.R_drewN | apply Kd.R_drew)); exact HO_12.out) (Kd.R_base ho0) hb); have n3_ := Aside0.mk (Kd.R_lower (Kd.R_new' ho0 (Kd.R_lt (by (with_reducible repeat (first | apply Kd.R_alloc | apply Kd.R_drewN | apply Kd.R_drew)); exact HO_12.out))) (below_size (by repeat (first | (with_reducible first | exact HB.out | apply below_alloc | apply pw_below_drewN | apply below_drew1 | refine below_set ?_ GE306.out) | exact HB.out)))); have n4_ := Aside0.mk (blk_below (g := gb306) (o := .cells #[.string a0_0, .string a0_1, .string a0_2, .string a0_3, .string a0_4, .string a0_5, .int .i64 a0_6, .slice A0_7 l0_7.length c0_7] 24 (0, 0)) (by (with_reducible repeat (first | refine blk_drewN ?_ _ | refine blk_drew ?_ | refine blk_alloc ?_ _)); exact BK306.out) hb); have n5_ := Aside0.mk (below_step (by repeat (first | (with_reducible first | exact HB.out | apply below_alloc | apply pw_below_drewN | apply below_drew1 | refine below_set ?_ GE306.out) | exact HB.out)) hb); clear HO_9; clear HO_11; clear HO_12; clear BK306; clear HB; have HO_9 := n0_; have HO_11 := n1_; have HO_12 := n2_; have HO328 := n3_; have BK306 := n4_; have HB := n5_; clear n0_ n1_ n2_ n3_ n4_ n5_; (try clear hb); (try clear hb2); (try clear hk); (try clear hi); (try clear ho0); obtain ⟨Ao47, co47, eo47⟩ := Kd.R_slice HO_12.out; subst eo47) | (go_at_call 33; (with_reducible refine (goods_Join.calls _ _ x12_2 t330 _ ?side1 ?side2 A41.out).mono ?_); (case side1 => repeat (first | exact (Kd.R_reads' HO_12.out).2.2 | (with_reducible refine Kd.C_alloc ?_ _) | (with_reducible refine Kd.C_drewN ?_ _) | (with_reducible refine Kd.C_drew ?_))); (case side2 => exact (Kd.R_reads' HO_12.out).2.1); rintro e w48 ⟨v331, rfl, ho0, hb⟩; have n0_ := Aside0.mk (Kd.N_elder' (by (with_reducible repeat (first | apply Kd.N_alloc | apply Kd.N_drewN | apply Kd.N_drew)); exact HO_9.out) (Kd.R_base ho0) hb); have n1_ := Aside0.mk (Kd.N_elder' (by (with_reducible repeat (first | apply Kd.N_alloc | apply Kd.N_drewN | apply Kd.N_drew)); exact HO_11.out) (Kd.R_base ho0) hb); have n2_ := Aside0.mk (Kd.R_elder' (by (with_reducible repeat (first | apply Kd.R_alloc | apply Kd.R_drewN | apply Kd.R_drew)); exact HO_12.out) (Kd.R_base ho0) hb); have n3_ := Aside0.mk (Kd.R_elder' (by (with_reducible repeat (first | apply Kd.R_alloc | apply Kd.R_drewN | apply Kd.R_drew)); exact HO328.out) (Kd.R_base ho0) hb); have n4_ := Aside0.mk (Kd.R_lower (Kd.R_new' (Kd.R_new' ho0 (Kd.R_lt (by (with_reducible repeat (first | apply Kd.R_alloc | apply Kd.R_drewN | apply Kd.R_drew)); exact HO_12.out))) (Kd.R_lt (by (with_reducible repeat (first | apply Kd.R_alloc | apply Kd.R_drewN | apply Kd.R_drew)); exact HO328.out))) (below_size (by repeat (first | (with_reducible first | exact HB.out | apply below_alloc | apply pw_below_drewN | apply below_drew1 | refine below_set ?_ GE306.out) | exact HB.out)))); have n5_ := Aside0.mk (blk_below (g := gb306) (o := .cells #[.string a0_0, .string a0_1, .string a0_2, .string a0_3, .string a0_4, .string a0_5, .int .i64 a0_6, .slice A0_7 l0_7.length c0_7] 24 (0, 0)) (by (with_reducible repeat (first | refine blk_drewN ?_ _ | refine blk_drew ?_ | refine blk_alloc ?_ _)); exact BK306.out) hb); have n6_ := Aside0.mk (below_step (by repeat (first | (with_reducible first | exact HB.out | apply below_alloc | apply pw_below_drewN | apply below_drew1 | refine below_set ?_ GE306.out) | exact HB.out)) hb); clear HO_9; clear HO_11; clear HO_12; clear HO328; clear BK306; clear HB; have HO_9 := n0_; have HO_11 := n1_; have HO_12 := n2_; have HO328 := n3_; have HO332 := n4_; have BK306 := n5_; have HB := n6_; clear n0_ n1_ n2_ n3_ n4_ n5_ n6_; (try clear hb); (try clear hb2); (try clear hk); (try clear hi); (try clear ho0); obtain ⟨Ao49, co49, eo49⟩ := Kd.R_slice HO328.out; subst eo49; obtain ⟨Ao50, co50, eo50⟩ := Kd.R_slice HO332.out; subst eo50) | (go_at_call 32; (with_reducible refine (sr11_Same.calls k2 _ _ t326 _ _ t330 t333 _ ?side1 ?side2 ?side3 ?side4 A42.out).mono ?_); (case side1 => repeat (first | exact (Kd.R_reads' HO328.out).2.2 | (with_reducible refine Kd.C_alloc ?_ _) | (with_reducible refine Kd.C_drewN ?_ _) | (with_reducible refine Kd.C_drew ?_))); (case side2 => exact (Kd.R_reads' HO328.out).2.1); (case side3 => repeat (first | exact (Kd.R_reads' HO332.out).2.2 | (with_reducible refine Kd.C_alloc ?_ _) | (with_reducible refine Kd.C_drewN ?_ _) | (with_reducible refine Kd.C_drew ?_))); (case side4 => exact (Kd.R_reads' HO332.out).2.1); rintro e w' ⟨rfl, ⟨nd, rfl⟩⟩))
go_ret
exact ⟨by first | rfl | (simp [errW_none, errW_some] <;> rfl) | (simp [*, errW_none, errW_some] <;> rfl), by repeat (first | (with_reducible first | exact HB.out | apply below_alloc | apply pw_below_drewN | apply below_drew1 | refine below_set ?_ GE306.out) | exact HB.out)⟩
)
·(
rw [if_neg c40] at H
have c40b0 : (t329 == 0) = false := beq_eq_false_iff_ne.mpr c40
have c40b1 : (t329 != 0) = true := bne_iff_ne.mpr c40
exact absurd (Option.some.inj H) (by rw [hT.out]; decide)
)
)
)
)
)
·(
rw [if_neg c21] at H
have c21b0 : (t312 == 0) = false := beq_eq_false_iff_ne.mpr c21
have c21b1 : (t312 != 0) = true := bne_iff_ne.mpr c21
clear hT; obtain rfl := Option.some.inj H
have hcz51_0 : wc.cell? ⟨gb306, 0, none⟩ = some (.string a0_0) := (blk_cell BK306.out 0).trans rfl
have hcz51_1 : wc.cell? ⟨gb306, 1, none⟩ = some (.string a0_1) := (blk_cell BK306.out 1).trans rfl
have hcz51_2 : wc.cell? ⟨gb306, 2, none⟩ = some (.string a0_2) := (blk_cell BK306.out 2).trans rfl
have hcz51_3 : wc.cell? ⟨gb306, 3, none⟩ = some (.string a0_3) := (blk_cell BK306.out 3).trans rfl
have hcz51_4 : wc.cell? ⟨gb306, 4, none⟩ = some (.string a0_4) := (blk_cell BK306.out 4).trans rfl
have hcz51_5 : wc.cell? ⟨gb306, 5, none⟩ = some (.string a0_5) := (blk_cell BK306.out 5).trans rfl
have hcz51_6 : wc.cell? ⟨gb306, 6, none⟩ = some (.int .i64 a0_6) := (blk_cell BK306.out 6).trans rfl
have hcz51_7 : wc.cell? ⟨gb306, 7, none⟩ = some (.slice A0_7 l0_7.length c0_7) := (blk_cell BK306.out 7).trans rfl
have hfz51_0 := blk_frozen BK306.out 0
have hfz51_1 := blk_frozen BK306.out 1
have hfz51_2 := blk_frozen BK306.out 2
have hfz51_3 := blk_frozen BK306.out 3
have hfz51_4 := blk_frozen BK306.out 4
have hfz51_5 := blk_frozen BK306.out 5
have hfz51_6 := blk_frozen BK306.out 6
have hfz51_7 := blk_frozen BK306.out 7
go_wp2_with (first | ((with_reducible refine gate_callee (f := 19) rfl ?_); refine goesL_ (some 35) rfl rfl Try.func19 (by kernel_rfl) rfl #[.agg #[.string a0_0, .string a0_1, .string a0_2, .string a0_3, .string a0_4, .string a0_5, .int .i64 a0_6, .slice A0_7 l0_7.length c0_7], .slice A1 l1.length c1, .slice A2 l2.length c2] rfl (by (try simp only [List.map_toArray, List.map_cons, List.map_nil]); first | done | rfl | (simp only [List.length_drop, List.length_take]; rfl)) ?_; (with_reducible refine (order_Cut.calls kj6 a0_0 a0_1 a0_2 a0_3 a0_4 a0_5 a0_6 _ _ l0_7 _ _ l1 _ _ l2 t309 t312 _ ?side1 ?side2 ?side3 ?side4 ?side5 ?side6 A20.out).mono ?_); (case side1 => repeat (first | exact (Kd.C_below HR0_7.out HB.out) | (with_reducible refine Kd.C_alloc ?_ _) | (with_reducible refine Kd.C_drewN ?_ _) | (with_reducible refine Kd.C_drew ?_))); (case side2 => exact HC0_7.out); (case side3 => repeat (first | exact (Kd.C_below HR1.out HB.out) | (with_reducible refine Kd.C_alloc ?_ _) | (with_reducible refine Kd.C_drewN ?_ _) | (with_reducible refine Kd.C_drew ?_))); (case side4 => exact HC1.out); (case side5 => repeat (first | exact (Kd.C_below HR2.out HB.out) | (with_reducible refine Kd.C_alloc ?_ _) | (with_reducible refine Kd.C_drewN ?_ _) | (with_reducible refine Kd.C_drew ?_))); (case side6 => exact HC2.out); rintro e w52 ⟨v310, rfl, ho0, hb⟩; refine ⟨_, rfl, ?_⟩; have n0_ := Aside0.mk (Kd.N_lower (Kd.N_mono (ok' := fun k_ => k_ ≠ gb306) (Kd.S_N (Kd.S_bound ho0)) (fun k_ hk_ => (Kd.freshB (g := gb306) (o := .cells #[.string a0_0, .string a0_1, .string a0_2, .string a0_3, .string a0_4, .string a0_5, .int .i64 a0_6, .slice A0_7 l0_7.length c0_7] 24 (0, 0)) (by (with_reducible repeat (first | refine blk_drewN ?_ _ | refine blk_drew ?_ | refine blk_alloc ?_ _)); exact BK306.out) k_ hk_.2.1))) (below_size (by repeat (first | (with_reducible first | exact HB.out | apply below_alloc | apply pw_below_drewN | apply below_drew1 | refine below_set ?_ GE306.out) | exact HB.out)))); have n1_ := Aside0.mk (blk_below (g := gb306) (o := .cells #[.string a0_0, .string a0_1, .string a0_2, .string a0_3, .string a0_4, .string a0_5, .int .i64 a0_6, .slice A0_7 l0_7.length c0_7] 24 (0, 0)) (by (with_reducible repeat (first | refine blk_drewN ?_ _ | refine blk_drew ?_ | refine blk_alloc ?_ _)); exact BK306.out) hb); have n2_ := Aside0.mk (below_step (by repeat (first | (with_reducible first | exact HB.out | apply below_alloc | apply pw_below_drewN | apply below_drew1 | refine below_set ?_ GE306.out) | exact HB.out)) hb); clear BK306; clear HB; have HO311 := n0_; have BK306 := n1_; have HB := n2_; clear n0_ n1_ n2_; (try clear hb); (try clear hb2); (try clear hk); (try clear hi); (try clear ho0)))
go_ret
exact ⟨by first | rfl | (simp [errW_none, errW_some] <;> rfl) | (simp [*, errW_none, errW_some] <;> rfl), by repeat (first | (with_reducible first | exact HB.out | apply below_alloc | apply pw_below_drewN | apply below_drew1 | refine below_set ?_ GE306.out) | exact HB.out)⟩
)
)
)
)
)
 ·(
replace c6 := Bool.eq_false_iff.mpr c6
subst c6
have H1 : (some false) = some r := by rw [if_neg (show ¬ (false = true) by decide)] at H; exact H
clear H
have H := H1
clear H1
exact absurd (Option.some.inj H) (by rw [hT.out]; decide)
)

-- NOT PRINTED: function 9 (supercargolaw19_OrderMore)

-- NOT PRINTED: function 10 (supercargolaw19_OrderMerges)

end Go.Proofs.Ytlhaaccdiienbaa.X
