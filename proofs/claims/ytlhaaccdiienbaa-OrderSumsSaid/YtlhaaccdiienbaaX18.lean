-- Written for this claim by a program of this session (wip/tools/xprint.py) out of the translation.
import Derived.Test.YtlhaaccdiienbaaX0
import Derived.Test.YtlhaaccdiienbaaX4
import Derived.Test.YtlhaaccdiienbaaX6
import Derived.Test.YtlhaaccdiienbaaX14
import Derived.Test.YtlhaaccdiienbaaEAwake
import Derived.Test.YtlhaaccdiienbaaECut
import Derived.Test.YtlhaaccdiienbaaEJoin
import Derived.Test.YtlhaaccdiienbaaELeft
import Derived.Test.YtlhaaccdiienbaaEValue
namespace Go.Proofs.Ytlhaaccdiienbaa.X
open Go.RowKit Go.Proofs.YtlhaaccdiienbaaW.PrintWords Go.Proofs.YtlhaaccdiienbaaW.PrintLast Go.Proofs.YtlhaaccdiienbaaW.PrintMore
attribute [local go_sem] max2_int min2_int max_two min_two max_three min_three max_four min_four   -- for this text's walks alone
set_option linter.unusedVariables false
set_option linter.unusedSimpArgs false

mutual
def supercargolaw19_OrderSums.j0 : Nat → List Int → List (List Int) → Bool → ByteArray → ByteArray → ByteArray → ByteArray → ByteArray → ByteArray → Int → List (S65) → Option (Bool)
 | 0, _, _, _, _, _, _, _, _, _, _, _ => none
 | k + 1, x1, x2, x34, x258000, x258001, x258002, x258003, x258004, x258005, x258006, x258007 => if x34 = true then (some true) else ((order_Cut.f k x258000 x258001 x258002 x258003 x258004 x258005 x258006 x258007 x1 x2).bind fun bt260 => (if bt260.2 = 0 then ((order_Total.f k x258000 x258001 x258002 x258003 x258004 x258005 x258006 x258007).bind fun bt264 => ((order_Left.f k x258000 x258001 x258002 x258003 x258004 x258005 x258006 x258007 bt260.1).bind fun bt266 => (if (bt260.1.length : Int) = (x1.length : Int) then (if bt266.2 = 0 then (supercargolaw19_OrderSums.j1 k bt260.1 bt264.1 bt264.2 ((bt266.1.length : Int) != 0) x258000 x258001 x258002 x258003 x258004 x258005 x258006 x258007) else (supercargolaw19_OrderSums.j1 k bt260.1 bt264.1 bt264.2 true x258000 x258001 x258002 x258003 x258004 x258005 x258006 x258007)) else (supercargolaw19_OrderSums.j1 k bt260.1 bt264.1 bt264.2 true x258000 x258001 x258002 x258003 x258004 x258005 x258006 x258007)))) else (some ((bt260.1.length : Int) == 0))))
def supercargolaw19_OrderSums.j1 : Nat → List (S42) → Int → Int → Bool → ByteArray → ByteArray → ByteArray → ByteArray → ByteArray → ByteArray → Int → List (S65) → Option (Bool)
 | 0, _, _, _, _, _, _, _, _, _, _, _, _ => none
 | k + 1, x7, x9, x10, x71, x258000, x258001, x258002, x258003, x258004, x258005, x258006, x258007 => if x71 = true then (some false) else (supercargolaw19_OrderSums.l0 k x7 x9 x10 ([] : List (S67)) 0 0 x258000 x258001 x258002 x258003 x258004 x258005 x258006 x258007)
def supercargolaw19_OrderSums.l0 : Nat → List (S42) → Int → Int → List (S67) → Int → Int → ByteArray → ByteArray → ByteArray → ByteArray → ByteArray → ByteArray → Int → List (S65) → Option (Bool)
 | 0, _, _, _, _, _, _, _, _, _, _, _, _, _, _ => none
 | k + 1, x7, x9, x10, x13, x15, x16, x258000, x258001, x258002, x258003, x258004, x258005, x258006, x258007 => if x16 < (x7.length : Int) then (if 0 ≤ x16 then ((order_Value.f k x258000 x258001 x258002 x258003 x258004 x258005 x258006 x258007 ((rd_T42 x7 x16).f0) ((rd_T42 x7 x16).f1) ((rd_T42 x7 x16).f2) ((rd_T42 x7 x16).f3)).bind fun bt271 => (if x10 = 0 then (if bt271.2 = 0 then (if ((rd_T42 x7 x16).f1) = (wrap64 (x16 + 1)) then (if ((rd_T42 x7 x16).f0).toList = x258000.toList then (if (((rd_T42 x7 x16).f3).length : Int) = 0 then (some false) else (if x13.length + ((rd_T42 x7 x16).f3).length < 5864062014805 then (supercargolaw19_OrderSums.l0 k x7 x9 x10 (x13 ++ ((rd_T42 x7 x16).f3)) (wrap64 (x15 + bt271.1)) (wrap64 (x16 + 1)) x258000 x258001 x258002 x258003 x258004 x258005 x258006 x258007) else (none))) else (some false)) else (some false)) else (some false)) else (if ((rd_T42 x7 x16).f1) = (wrap64 (x16 + 1)) then (if ((rd_T42 x7 x16).f0).toList = x258000.toList then (if (((rd_T42 x7 x16).f3).length : Int) = 0 then (some false) else (if x13.length + ((rd_T42 x7 x16).f3).length < 5864062014805 then (supercargolaw19_OrderSums.l0 k x7 x9 x10 (x13 ++ ((rd_T42 x7 x16).f3)) (wrap64 (x15 + bt271.1)) (wrap64 (x16 + 1)) x258000 x258001 x258002 x258003 x258004 x258005 x258006 x258007) else (none))) else (some false)) else (some false)))) else (none)) else (supercargolaw19_OrderSums.l1 k x9 x10 x13 ([] : List (S67)) x15 0 x258000 x258001 x258002 x258003 x258004 x258005 x258006 x258007)
def supercargolaw19_OrderSums.l1 : Nat → Int → Int → List (S67) → List (S67) → Int → Int → ByteArray → ByteArray → ByteArray → ByteArray → ByteArray → ByteArray → Int → List (S65) → Option (Bool)
 | 0, _, _, _, _, _, _, _, _, _, _, _, _, _, _ => none
 | k + 1, x9, x10, x13, x14, x15, x19, x258000, x258001, x258002, x258003, x258004, x258005, x258006, x258007 => if x19 < (x258007.length : Int) then (if 0 ≤ x19 then (if x14.length < 5864062014805 then (supercargolaw19_OrderSums.l1 k x9 x10 x13 (x14 ++ [(⟨(rd_T65 x258007 x19).f0, (rd_T65 x258007 x19).f1⟩ : S67)]) x15 (wrap64 (x19 + 1)) x258000 x258001 x258002 x258003 x258004 x258005 x258006 x258007) else (none)) else (none)) else (if x10 = 0 then (if x15 = x9 then ((goods_Join.f x13).bind fun t292 => ((goods_Join.f x14).bind fun t295 => ((sr11_Same.f k t292 t295).bind fun t298 => (some t298)))) else (some false)) else ((goods_Join.f x13).bind fun t299 => ((goods_Join.f x14).bind fun t302 => ((sr11_Same.f k t299 t302).bind fun t305 => (some t305)))))
end
def supercargolaw19_OrderSums.f (k : Nat) (a0_0 : ByteArray) (a0_1 : ByteArray) (a0_2 : ByteArray) (a0_3 : ByteArray) (a0_4 : ByteArray) (a0_5 : ByteArray) (a0_6 : Int) (l0_7 : List (S65)) (l1 : List Int) (l2 : List (List Int)) : Option (Bool) := (supercargolaw19_awake.f k).bind fun t258 => (if t258 = true then ((sr19_Few.f k a0_0 a0_1 a0_2 a0_3 a0_4 a0_5 a0_6 l0_7 ([] : List (S42))).bind fun t259 => (if t259 = true then (if (l1.length : Int) > 70 then (supercargolaw19_OrderSums.j0 k l1 l2 true a0_0 a0_1 a0_2 a0_3 a0_4 a0_5 a0_6 l0_7) else (supercargolaw19_OrderSums.j0 k l1 l2 (decide ((l2.length : Int) > 70)) a0_0 a0_1 a0_2 a0_3 a0_4 a0_5 a0_6 l0_7)) else (supercargolaw19_OrderSums.j0 k l1 l2 true a0_0 a0_1 a0_2 a0_3 a0_4 a0_5 a0_6 l0_7))) else (some false))
theorem supercargolaw19_OrderSums.mono_l : ∀ k, (∀ y0 y1 y2 y3 y4 y5 y6 y7 y8 y9 y10, LeO (supercargolaw19_OrderSums.j0 k y0 y1 y2 y3 y4 y5 y6 y7 y8 y9 y10) (supercargolaw19_OrderSums.j0 (k + 1) y0 y1 y2 y3 y4 y5 y6 y7 y8 y9 y10)) ∧ (∀ y0 y1 y2 y3 y4 y5 y6 y7 y8 y9 y10 y11, LeO (supercargolaw19_OrderSums.j1 k y0 y1 y2 y3 y4 y5 y6 y7 y8 y9 y10 y11) (supercargolaw19_OrderSums.j1 (k + 1) y0 y1 y2 y3 y4 y5 y6 y7 y8 y9 y10 y11)) ∧ (∀ y0 y1 y2 y3 y4 y5 y6 y7 y8 y9 y10 y11 y12 y13, LeO (supercargolaw19_OrderSums.l0 k y0 y1 y2 y3 y4 y5 y6 y7 y8 y9 y10 y11 y12 y13) (supercargolaw19_OrderSums.l0 (k + 1) y0 y1 y2 y3 y4 y5 y6 y7 y8 y9 y10 y11 y12 y13)) ∧ (∀ y0 y1 y2 y3 y4 y5 y6 y7 y8 y9 y10 y11 y12 y13, LeO (supercargolaw19_OrderSums.l1 k y0 y1 y2 y3 y4 y5 y6 y7 y8 y9 y10 y11 y12 y13) (supercargolaw19_OrderSums.l1 (k + 1) y0 y1 y2 y3 y4 y5 y6 y7 y8 y9 y10 y11 y12 y13))
 | 0 => ⟨fun _ _ _ _ _ _ _ _ _ _ _ r h => by simp [supercargolaw19_OrderSums.j0] at h, fun _ _ _ _ _ _ _ _ _ _ _ _ r h => by simp [supercargolaw19_OrderSums.j1] at h, fun _ _ _ _ _ _ _ _ _ _ _ _ _ _ r h => by simp [supercargolaw19_OrderSums.l0] at h, fun _ _ _ _ _ _ _ _ _ _ _ _ _ _ r h => by simp [supercargolaw19_OrderSums.l1] at h⟩
 | k + 1 => by
  obtain ⟨ih0, ih1, ih2, ih3⟩ := supercargolaw19_OrderSums.mono_l k
  refine ⟨?_, ?_, ?_, ?_⟩
  ·intro y0 y1 y2 y3 y4 y5 y6 y7 y8 y9 y10
   unfold supercargolaw19_OrderSums.j0
   repeat' first
   | (with_reducible exact ih0 _ _ _ _ _ _ _ _ _ _ _)
   | (with_reducible exact ih1 _ _ _ _ _ _ _ _ _ _ _ _)
   | (with_reducible exact ih2 _ _ _ _ _ _ _ _ _ _ _ _ _ _)
   | (with_reducible exact ih3 _ _ _ _ _ _ _ _ _ _ _ _ _ _)
   | (with_reducible exact order_Cut.mono _ _ _ _ _ _ _ _ _ _ _)
   | (with_reducible exact order_Left.mono _ _ _ _ _ _ _ _ _ _)
   | (with_reducible exact order_Total.mono _ _ _ _ _ _ _ _ _)
   | (with_reducible exact order_Value.mono _ _ _ _ _ _ _ _ _ _ _ _ _)
   | (with_reducible exact supercargolaw19_awake.mono _)
   | (with_reducible exact sr11_Same.mono _ _ _)
   | (with_reducible exact sr19_Few.mono _ _ _ _ _ _ _ _ _ _)
   | (with_reducible exact LeO.refl _)
   | (with_reducible exact LeO.none _)
   | (with_reducible refine LeO.ite ?_ ?_)
   | (with_reducible refine LeO.bind ?_ (fun _ => ?_))
   | exact ih0 _ _ _ _ _ _ _ _ _ _ _
   | exact ih1 _ _ _ _ _ _ _ _ _ _ _ _
   | exact ih2 _ _ _ _ _ _ _ _ _ _ _ _ _ _
   | exact ih3 _ _ _ _ _ _ _ _ _ _ _ _ _ _
   | exact order_Cut.mono _ _ _ _ _ _ _ _ _ _ _
   | exact order_Left.mono _ _ _ _ _ _ _ _ _ _
   | exact order_Total.mono _ _ _ _ _ _ _ _ _
   | exact order_Value.mono _ _ _ _ _ _ _ _ _ _ _ _ _
   | exact supercargolaw19_awake.mono _
   | exact sr11_Same.mono _ _ _
   | exact sr19_Few.mono _ _ _ _ _ _ _ _ _ _
   | exact LeO.none _
   | refine LeO.ite ?_ ?_
   | refine LeO.bind ?_ (fun _ => ?_)
  ·intro y0 y1 y2 y3 y4 y5 y6 y7 y8 y9 y10 y11
   unfold supercargolaw19_OrderSums.j1
   repeat' first
   | (with_reducible exact ih0 _ _ _ _ _ _ _ _ _ _ _)
   | (with_reducible exact ih1 _ _ _ _ _ _ _ _ _ _ _ _)
   | (with_reducible exact ih2 _ _ _ _ _ _ _ _ _ _ _ _ _ _)
   | (with_reducible exact ih3 _ _ _ _ _ _ _ _ _ _ _ _ _ _)
   | (with_reducible exact order_Cut.mono _ _ _ _ _ _ _ _ _ _ _)
   | (with_reducible exact order_Left.mono _ _ _ _ _ _ _ _ _ _)
   | (with_reducible exact order_Total.mono _ _ _ _ _ _ _ _ _)
   | (with_reducible exact order_Value.mono _ _ _ _ _ _ _ _ _ _ _ _ _)
   | (with_reducible exact supercargolaw19_awake.mono _)
   | (with_reducible exact sr11_Same.mono _ _ _)
   | (with_reducible exact sr19_Few.mono _ _ _ _ _ _ _ _ _ _)
   | (with_reducible exact LeO.refl _)
   | (with_reducible exact LeO.none _)
   | (with_reducible refine LeO.ite ?_ ?_)
   | (with_reducible refine LeO.bind ?_ (fun _ => ?_))
   | exact ih0 _ _ _ _ _ _ _ _ _ _ _
   | exact ih1 _ _ _ _ _ _ _ _ _ _ _ _
   | exact ih2 _ _ _ _ _ _ _ _ _ _ _ _ _ _
   | exact ih3 _ _ _ _ _ _ _ _ _ _ _ _ _ _
   | exact order_Cut.mono _ _ _ _ _ _ _ _ _ _ _
   | exact order_Left.mono _ _ _ _ _ _ _ _ _ _
   | exact order_Total.mono _ _ _ _ _ _ _ _ _
   | exact order_Value.mono _ _ _ _ _ _ _ _ _ _ _ _ _
   | exact supercargolaw19_awake.mono _
   | exact sr11_Same.mono _ _ _
   | exact sr19_Few.mono _ _ _ _ _ _ _ _ _ _
   | exact LeO.none _
   | refine LeO.ite ?_ ?_
   | refine LeO.bind ?_ (fun _ => ?_)
  ·intro y0 y1 y2 y3 y4 y5 y6 y7 y8 y9 y10 y11 y12 y13
   unfold supercargolaw19_OrderSums.l0
   repeat' first
   | (with_reducible exact ih0 _ _ _ _ _ _ _ _ _ _ _)
   | (with_reducible exact ih1 _ _ _ _ _ _ _ _ _ _ _ _)
   | (with_reducible exact ih2 _ _ _ _ _ _ _ _ _ _ _ _ _ _)
   | (with_reducible exact ih3 _ _ _ _ _ _ _ _ _ _ _ _ _ _)
   | (with_reducible exact order_Cut.mono _ _ _ _ _ _ _ _ _ _ _)
   | (with_reducible exact order_Left.mono _ _ _ _ _ _ _ _ _ _)
   | (with_reducible exact order_Total.mono _ _ _ _ _ _ _ _ _)
   | (with_reducible exact order_Value.mono _ _ _ _ _ _ _ _ _ _ _ _ _)
   | (with_reducible exact supercargolaw19_awake.mono _)
   | (with_reducible exact sr11_Same.mono _ _ _)
   | (with_reducible exact sr19_Few.mono _ _ _ _ _ _ _ _ _ _)
   | (with_reducible exact LeO.refl _)
   | (with_reducible exact LeO.none _)
   | (with_reducible refine LeO.ite ?_ ?_)
   | (with_reducible refine LeO.bind ?_ (fun _ => ?_))
   | exact ih0 _ _ _ _ _ _ _ _ _ _ _
   | exact ih1 _ _ _ _ _ _ _ _ _ _ _ _
   | exact ih2 _ _ _ _ _ _ _ _ _ _ _ _ _ _
   | exact ih3 _ _ _ _ _ _ _ _ _ _ _ _ _ _
   | exact order_Cut.mono _ _ _ _ _ _ _ _ _ _ _
   | exact order_Left.mono _ _ _ _ _ _ _ _ _ _
   | exact order_Total.mono _ _ _ _ _ _ _ _ _
   | exact order_Value.mono _ _ _ _ _ _ _ _ _ _ _ _ _
   | exact supercargolaw19_awake.mono _
   | exact sr11_Same.mono _ _ _
   | exact sr19_Few.mono _ _ _ _ _ _ _ _ _ _
   | exact LeO.none _
   | refine LeO.ite ?_ ?_
   | refine LeO.bind ?_ (fun _ => ?_)
  ·intro y0 y1 y2 y3 y4 y5 y6 y7 y8 y9 y10 y11 y12 y13
   unfold supercargolaw19_OrderSums.l1
   repeat' first
   | (with_reducible exact ih0 _ _ _ _ _ _ _ _ _ _ _)
   | (with_reducible exact ih1 _ _ _ _ _ _ _ _ _ _ _ _)
   | (with_reducible exact ih2 _ _ _ _ _ _ _ _ _ _ _ _ _ _)
   | (with_reducible exact ih3 _ _ _ _ _ _ _ _ _ _ _ _ _ _)
   | (with_reducible exact order_Cut.mono _ _ _ _ _ _ _ _ _ _ _)
   | (with_reducible exact order_Left.mono _ _ _ _ _ _ _ _ _ _)
   | (with_reducible exact order_Total.mono _ _ _ _ _ _ _ _ _)
   | (with_reducible exact order_Value.mono _ _ _ _ _ _ _ _ _ _ _ _ _)
   | (with_reducible exact supercargolaw19_awake.mono _)
   | (with_reducible exact sr11_Same.mono _ _ _)
   | (with_reducible exact sr19_Few.mono _ _ _ _ _ _ _ _ _ _)
   | (with_reducible exact LeO.refl _)
   | (with_reducible exact LeO.none _)
   | (with_reducible refine LeO.ite ?_ ?_)
   | (with_reducible refine LeO.bind ?_ (fun _ => ?_))
   | exact ih0 _ _ _ _ _ _ _ _ _ _ _
   | exact ih1 _ _ _ _ _ _ _ _ _ _ _ _
   | exact ih2 _ _ _ _ _ _ _ _ _ _ _ _ _ _
   | exact ih3 _ _ _ _ _ _ _ _ _ _ _ _ _ _
   | exact order_Cut.mono _ _ _ _ _ _ _ _ _ _ _
   | exact order_Left.mono _ _ _ _ _ _ _ _ _ _
   | exact order_Total.mono _ _ _ _ _ _ _ _ _
   | exact order_Value.mono _ _ _ _ _ _ _ _ _ _ _ _ _
   | exact supercargolaw19_awake.mono _
   | exact sr11_Same.mono _ _ _
   | exact sr19_Few.mono _ _ _ _ _ _ _ _ _ _
   | exact LeO.none _
   | refine LeO.ite ?_ ?_
   | refine LeO.bind ?_ (fun _ => ?_)
theorem supercargolaw19_OrderSums.mono : ∀ a0 a1 a2 a3 a4 a5 a6 a7 a8 a9 k, LeO (supercargolaw19_OrderSums.f k a0 a1 a2 a3 a4 a5 a6 a7 a8 a9) (supercargolaw19_OrderSums.f (k + 1) a0 a1 a2 a3 a4 a5 a6 a7 a8 a9) := by
 intro a0 a1 a2 a3 a4 a5 a6 a7 a8 a9 k
 obtain ⟨ih0, ih1, ih2, ih3⟩ := supercargolaw19_OrderSums.mono_l k
 unfold supercargolaw19_OrderSums.f
 repeat' first
   | (with_reducible exact ih0 _ _ _ _ _ _ _ _ _ _ _)
   | (with_reducible exact ih1 _ _ _ _ _ _ _ _ _ _ _ _)
   | (with_reducible exact ih2 _ _ _ _ _ _ _ _ _ _ _ _ _ _)
   | (with_reducible exact ih3 _ _ _ _ _ _ _ _ _ _ _ _ _ _)
   | (with_reducible exact order_Cut.mono _ _ _ _ _ _ _ _ _ _ _)
   | (with_reducible exact order_Left.mono _ _ _ _ _ _ _ _ _ _)
   | (with_reducible exact order_Total.mono _ _ _ _ _ _ _ _ _)
   | (with_reducible exact order_Value.mono _ _ _ _ _ _ _ _ _ _ _ _ _)
   | (with_reducible exact supercargolaw19_awake.mono _)
   | (with_reducible exact sr11_Same.mono _ _ _)
   | (with_reducible exact sr19_Few.mono _ _ _ _ _ _ _ _ _ _)
   | (with_reducible exact LeO.refl _)
   | (with_reducible exact LeO.none _)
   | (with_reducible refine LeO.ite ?_ ?_)
   | (with_reducible refine LeO.bind ?_ (fun _ => ?_))
   | exact ih0 _ _ _ _ _ _ _ _ _ _ _
   | exact ih1 _ _ _ _ _ _ _ _ _ _ _ _
   | exact ih2 _ _ _ _ _ _ _ _ _ _ _ _ _ _
   | exact ih3 _ _ _ _ _ _ _ _ _ _ _ _ _ _
   | exact order_Cut.mono _ _ _ _ _ _ _ _ _ _ _
   | exact order_Left.mono _ _ _ _ _ _ _ _ _ _
   | exact order_Total.mono _ _ _ _ _ _ _ _ _
   | exact order_Value.mono _ _ _ _ _ _ _ _ _ _ _ _ _
   | exact supercargolaw19_awake.mono _
   | exact sr11_Same.mono _ _ _
   | exact sr19_Few.mono _ _ _ _ _ _ _ _ _ _
   | exact LeO.none _
   | refine LeO.ite ?_ ?_
   | refine LeO.bind ?_ (fun _ => ?_)
def supercargolaw19_OrderSums.T17 : Bool × List (List Nat × List Nat) := (true, [([], []), ([], []), ([], []), ([1, 2], [1, 2]), ([3], [3]), ([0, 4], [0, 4]), ([5], [5]), ([6], [6]), ([6], [6]), ([7, 5, 0, 1, 2, 3, 4, 5, 6, 7], [7]), ([8, 9, 0, 1, 2, 3, 4, 5, 6, 7, 8, 9], [8])])
def supercargolaw19_OrderSums.B17 : List Nat := [0, 0, 0, 6, 14, 31, 63, 127, 127, 255, 1023]
theorem supercargolaw19_OrderSums.tab17 : rtab .any (opsOf Try.f7 17) = supercargolaw19_OrderSums.T17 := by kernel_rfl
theorem supercargolaw19_OrderSums.bits17 : waitsOk supercargolaw19_OrderSums.T17.2 supercargolaw19_OrderSums.B17 = true := by kernel_rfl
def supercargolaw19_OrderSums.T18 : Bool × List (List Nat × List Nat) := (true, [([], []), ([0], [0]), ([1], [1]), ([2], [2]), ([3, 2], [2, 3]), ([2, 4], [2, 4]), ([5, 2], [5]), ([6], [6]), ([6], [6]), ([7, 8, 6], [6, 7, 8]), ([9, 6], [6, 9]), ([10, 6], [6, 10]), ([6], [6]), ([12, 6], [6, 12]), ([11, 13, 6], [6, 11, 13]), ([6, 14], [6, 14]), ([15, 6], [15]), ([16], [16]), ([16], [16]), ([17, 18, 16], [16, 17, 18]), ([19, 16], [16, 19]), ([20, 16], [16, 20]), ([16], [16]), ([22, 16], [16, 22]), ([21, 23, 16], [16, 21, 23]), ([16, 24], [16, 24]), ([25, 16], [25]), ([26], [26]), ([26], [26]), ([27, 28, 26], [26, 27, 28]), ([29, 26], [26, 29]), ([30, 26], [26, 30]), ([31, 26], [26, 31]), ([32, 26], [26, 32]), ([26, 33], [26, 33])])
def supercargolaw19_OrderSums.B18 : List Nat := [0, 1, 3, 7, 15, 31, 63, 127, 127, 511, 1023, 2047, 127, 4223, 16383, 32767, 65535, 131071, 131071, 524287, 1048575, 2097151, 131071, 4325375, 16777215, 33554431, 67108863, 134217727, 134217727, 536870911, 1073741823, 2147483647, 4294967295, 8589934591, 17179869183]
theorem supercargolaw19_OrderSums.tab18 : rtab .any (opsOf Try.f7 18) = supercargolaw19_OrderSums.T18 := by kernel_rfl
theorem supercargolaw19_OrderSums.bits18 : waitsOk supercargolaw19_OrderSums.T18.2 supercargolaw19_OrderSums.B18 = true := by kernel_rfl
def supercargolaw19_OrderSums.T25 : Bool × List (List Nat × List Nat) := (true, [([], []), ([], []), ([1], [1]), ([], []), ([2, 3], [2, 3]), ([4], [4]), ([5], [5]), ([], []), ([7], [7]), ([], []), ([8, 9], [8, 9]), ([10], [10]), ([11], [11]), ([6, 12], [6, 12]), ([13], [13]), ([0, 14], [0, 14]), ([15, 15, 0, 1, 2, 3, 4, 5, 6, 7, 8, 9, 10, 11, 12, 13, 14, 15], [0, 15])])
def supercargolaw19_OrderSums.B25 : List Nat := [0, 0, 2, 0, 14, 30, 62, 0, 128, 0, 896, 1920, 3968, 8190, 16382, 32767, 65535]
theorem supercargolaw19_OrderSums.tab25 : rtab .any (opsOf Try.f7 25) = supercargolaw19_OrderSums.T25 := by kernel_rfl
theorem supercargolaw19_OrderSums.bits25 : waitsOk supercargolaw19_OrderSums.T25.2 supercargolaw19_OrderSums.B25 = true := by kernel_rfl
set_option maxHeartbeats 8000000 in
set_option maxRecDepth 100000 in
theorem supercargolaw19_OrderSums.calls (k : Nat) (a0_0 : ByteArray) (a0_1 : ByteArray) (a0_2 : ByteArray) (a0_3 : ByteArray) (a0_4 : ByteArray) (a0_5 : ByteArray) (a0_6 : Int) (A0_7 : Option Addr) (c0_7 : Nat) (l0_7 : List (S65)) (A1 : Option Addr) (c1 : Nat) (l1 : List Int) (A2 : Option Addr) (c2 : Nat) (l2 : List (List Int)) (r : Bool) (w : World) (hr0_7 : Kd.C k65 w A0_7 l0_7.length l0_7) (hc0_7 : l0_7.length ≤ c0_7) (hr1 : Kd.C (Kd.int .i64) w A1 l1.length l1) (hc1 : l1.length ≤ c1) (hr2 : Kd.C (Kd.slice 3 (Kd.int .i64)) w A2 l2.length l2) (hc2 : l2.length ≤ c2) (h : supercargolaw19_OrderSums.f k a0_0 a0_1 a0_2 a0_3 a0_4 a0_5 a0_6 l0_7 l1 l2 = some r) (hT : Aside0 (r = true)) :
  Calls Try.prog 7 #[.agg #[.string a0_0, .string a0_1, .string a0_2, .string a0_3, .string a0_4, .string a0_5, .int .i64 a0_6, .slice A0_7 l0_7.length c0_7], .slice A1 l1.length c1, .slice A2 l2.length c2] w fun e w' => e = .returned (.bool r) ∧ Below w.heap.size w w' := by
 have hu24 := Try.underlying24
 have hu42 := Try.underlying42
 have hu67 := Try.underlying67
 have HR0_7 := Aside0.mk hr0_7
 have HC0_7 := Aside0.mk hc0_7
 clear hr0_7 hc0_7
 have HR1 := Aside0.mk hr1
 have HC1 := Aside0.mk hc1
 clear hr1 hc1
 have HR2 := Aside0.mk hr2
 have HC2 := Aside0.mk hc2
 clear hr2 hc2
 have HB := Aside0.mk (Below.refl w.heap.size w)
 have H : ((supercargolaw19_awake.f k).bind fun t258 => (if t258 = true then ((sr19_Few.f k a0_0 a0_1 a0_2 a0_3 a0_4 a0_5 a0_6 l0_7 ([] : List (S42))).bind fun t259 => (if t259 = true then (if (l1.length : Int) > 70 then (supercargolaw19_OrderSums.j0 k l1 l2 true a0_0 a0_1 a0_2 a0_3 a0_4 a0_5 a0_6 l0_7) else (supercargolaw19_OrderSums.j0 k l1 l2 (decide ((l2.length : Int) > 70)) a0_0 a0_1 a0_2 a0_3 a0_4 a0_5 a0_6 l0_7)) else (supercargolaw19_OrderSums.j0 k l1 l2 true a0_0 a0_1 a0_2 a0_3 a0_4 a0_5 a0_6 l0_7))) else (some false))) = some r := h
 clear h
 replace H := Option.bind_eq_some_iff.mp H
 obtain ⟨t258, A40, H⟩ := H
 replace H : (if t258 = true then ((sr19_Few.f k a0_0 a0_1 a0_2 a0_3 a0_4 a0_5 a0_6 l0_7 ([] : List (S42))).bind fun t259 => (if t259 = true then (if (l1.length : Int) > 70 then (supercargolaw19_OrderSums.j0 k l1 l2 true a0_0 a0_1 a0_2 a0_3 a0_4 a0_5 a0_6 l0_7) else (supercargolaw19_OrderSums.j0 k l1 l2 (decide ((l2.length : Int) > 70)) a0_0 a0_1 a0_2 a0_3 a0_4 a0_5 a0_6 l0_7)) else (supercargolaw19_OrderSums.j0 k l1 l2 true a0_0 a0_1 a0_2 a0_3 a0_4 a0_5 a0_6 l0_7))) else (some false)) = some r := H
 have A4 := Aside0.mk A40
 clear A40
 by_cases c5 : t258 = true
 ·(
subst c5
have H1 : ((sr19_Few.f k a0_0 a0_1 a0_2 a0_3 a0_4 a0_5 a0_6 l0_7 ([] : List (S42))).bind fun t259 => (if t259 = true then (if (l1.length : Int) > 70 then (supercargolaw19_OrderSums.j0 k l1 l2 true a0_0 a0_1 a0_2 a0_3 a0_4 a0_5 a0_6 l0_7) else (supercargolaw19_OrderSums.j0 k l1 l2 (decide ((l2.length : Int) > 70)) a0_0 a0_1 a0_2 a0_3 a0_4 a0_5 a0_6 l0_7)) else (supercargolaw19_OrderSums.j0 k l1 l2 true a0_0 a0_1 a0_2 a0_3 a0_4 a0_5 a0_6 l0_7))) = some r := by rw [if_pos rfl] at H; exact H
clear H
have H := H1
clear H1
have HC6 := Aside0.mk H
clear H
go_enter Try.func7, Try.ntmps7
go_upto_region 3 with (first | ((with_reducible refine gate_dst (N := 3) rfl ?_); (try (refine gate_guard (by rfl) ?_; dsimp only)); refine box_event ?hg (N := 3) ?hd (cs := #[.string a0_0, .string a0_1, .string a0_2, .string a0_3, .string a0_4, .string a0_5, .int .i64 a0_6, .slice A0_7 l0_7.length c0_7]) (t := 24) ?hr ?_; (case hd => rfl); (case hg => rfl); (case hr => first | (go_simp; done) | (go_simp; rfl)); intro gb257 hg w7 hbox hb; have n0_ := Aside0.mk (below_step (by repeat (first | (with_reducible first | exact HB.out | apply below_alloc | apply pw_below_drewN | apply below_drew1) | exact HB.out)) hb); have n1_ := Aside0.mk (hbox); have n2_ := Aside0.mk ((by rw [hg]; exact (below_size (by repeat (first | (with_reducible first | exact HB.out | apply below_alloc | apply pw_below_drewN | apply below_drew1) | exact HB.out))) : w.heap.size ≤ gb257)); have n3_ := Aside0.mk ((by rw [hg]; exact (below_size (by repeat (first | (with_reducible first | exact HB.out | apply below_alloc | apply pw_below_drewN | apply below_drew1) | exact HB.out))) : w.heap.size ≤ gb257)); clear HB; have HB := n0_; have BK257 := n1_; have GW257 := n2_; have GE257 := n3_; clear n0_ n1_ n2_ n3_; clear hb hbox hg) | ((with_reducible refine gate_callee (f := 11) rfl ?_); refine goesL_ (some 20) rfl rfl Try.func11 (by kernel_rfl) rfl #[] rfl (by (try simp only [List.map_toArray, List.map_cons, List.map_nil]); first | done | rfl | (simp only [List.length_drop, List.length_take]; rfl)) ?_; (with_reducible refine (supercargolaw19_awake.calls k  true _ A4.out).mono ?_); rintro e w8 ⟨rfl, hb⟩; refine ⟨_, rfl, ?_⟩; have n0_ := Aside0.mk (blk_below (g := gb257) (o := .cells #[.string a0_0, .string a0_1, .string a0_2, .string a0_3, .string a0_4, .string a0_5, .int .i64 a0_6, .slice A0_7 l0_7.length c0_7] 24 (0, 0)) (by (with_reducible repeat (first | refine blk_drewN ?_ _ | refine blk_drew ?_ | refine blk_alloc ?_ _)); exact BK257.out) hb); have n1_ := Aside0.mk (below_step (by repeat (first | (with_reducible first | exact HB.out | apply below_alloc | apply pw_below_drewN | apply below_drew1 | refine below_set ?_ GE257.out) | exact HB.out)) hb); clear BK257; clear HB; have BK257 := n0_; have HB := n1_; clear n0_ n1_; (try clear hb); (try clear hb2); (try clear hk); (try clear hi)))
(try simp only [Act.put, List.setIfInBounds_toArray, List.set_cons_zero, List.set_cons_succ])
go_cut [34] (fun v34 wc => ∃ (kq : Nat) (x34_5 : Bool), v34 = .bool x34_5 ∧ Aside0 (supercargolaw19_OrderSums.j0 kq l1 l2 x34_5 a0_0 a0_1 a0_2 a0_3 a0_4 a0_5 a0_6 l0_7 = some r) ∧ Aside0 (kq ≤ k) ∧ Aside0 (wc.heap[gb257]? = some (.cells #[.string a0_0, .string a0_1, .string a0_2, .string a0_3, .string a0_4, .string a0_5, .int .i64 a0_6, (.slice A0_7 l0_7.length c0_7)] 24 (0, 0))) ∧ Aside0 (Below w.heap.size w wc))
case first => (
have H := HC6.out
clear HC6
replace H := Option.bind_eq_some_iff.mp H
obtain ⟨t259, A90, H⟩ := H
replace H : (if t259 = true then (if (l1.length : Int) > 70 then (supercargolaw19_OrderSums.j0 k l1 l2 true a0_0 a0_1 a0_2 a0_3 a0_4 a0_5 a0_6 l0_7) else (supercargolaw19_OrderSums.j0 k l1 l2 (decide ((l2.length : Int) > 70)) a0_0 a0_1 a0_2 a0_3 a0_4 a0_5 a0_6 l0_7)) else (supercargolaw19_OrderSums.j0 k l1 l2 true a0_0 a0_1 a0_2 a0_3 a0_4 a0_5 a0_6 l0_7)) = some r := H
have A9 := Aside0.mk A90
clear A90
by_cases c10 : t259 = true
·(
subst c10
have H1 : (if (l1.length : Int) > 70 then (supercargolaw19_OrderSums.j0 k l1 l2 true a0_0 a0_1 a0_2 a0_3 a0_4 a0_5 a0_6 l0_7) else (supercargolaw19_OrderSums.j0 k l1 l2 (decide ((l2.length : Int) > 70)) a0_0 a0_1 a0_2 a0_3 a0_4 a0_5 a0_6 l0_7)) = some r := by rw [if_pos rfl] at H; exact H
clear H
have H := H1
clear H1
by_cases c11 : (l1.length : Int) > 70
·(
rw [if_pos c11] at H
have c11b0 : decide (70 < (l1.length : Int)) = true := decide_eq_true c11
have c11b1 : decide (70 < l1.length) = true := decide_eq_true (by omega)
clear c11
(first | rw [c11b0] | (simp only [i64_w, i32_w]; rw [c11b0]) | skip)
have H' := Aside0.mk H
clear H
have hcz12_0 : w8.cell? ⟨gb257, 0, none⟩ = some (.string a0_0) := (blk_cell BK257.out 0).trans rfl
have hcz12_1 : w8.cell? ⟨gb257, 1, none⟩ = some (.string a0_1) := (blk_cell BK257.out 1).trans rfl
have hcz12_2 : w8.cell? ⟨gb257, 2, none⟩ = some (.string a0_2) := (blk_cell BK257.out 2).trans rfl
have hcz12_3 : w8.cell? ⟨gb257, 3, none⟩ = some (.string a0_3) := (blk_cell BK257.out 3).trans rfl
have hcz12_4 : w8.cell? ⟨gb257, 4, none⟩ = some (.string a0_4) := (blk_cell BK257.out 4).trans rfl
have hcz12_5 : w8.cell? ⟨gb257, 5, none⟩ = some (.string a0_5) := (blk_cell BK257.out 5).trans rfl
have hcz12_6 : w8.cell? ⟨gb257, 6, none⟩ = some (.int .i64 a0_6) := (blk_cell BK257.out 6).trans rfl
have hcz12_7 : w8.cell? ⟨gb257, 7, none⟩ = some (.slice A0_7 l0_7.length c0_7) := (blk_cell BK257.out 7).trans rfl
have hfz12_0 := blk_frozen BK257.out 0
have hfz12_1 := blk_frozen BK257.out 1
have hfz12_2 := blk_frozen BK257.out 2
have hfz12_3 := blk_frozen BK257.out 3
have hfz12_4 := blk_frozen BK257.out 4
have hfz12_5 := blk_frozen BK257.out 5
have hfz12_6 := blk_frozen BK257.out 6
have hfz12_7 := blk_frozen BK257.out 7
go_wp2_with (first | ((with_reducible refine gate_callee (f := 12) rfl ?_); refine goesL_ (some 23) rfl rfl Try.func12 (by kernel_rfl) rfl #[.agg #[.string a0_0, .string a0_1, .string a0_2, .string a0_3, .string a0_4, .string a0_5, .int .i64 a0_6, .slice A0_7 l0_7.length c0_7], .slice none 0 0] rfl (by (try simp only [List.map_toArray, List.map_cons, List.map_nil]); first | done | rfl | (simp only [List.length_drop, List.length_take]; rfl)) ?_; (refine (sr19_Few.calls k a0_0 a0_1 a0_2 a0_3 a0_4 a0_5 a0_6 _ _ l0_7 _ _ ([] : List (S42)) true _ ?side1 ?side2 ?side3 ?side4 A9.out).mono ?_); (case side1 => repeat (first | exact (Kd.C_below HR0_7.out HB.out) | (with_reducible refine Kd.C_alloc ?_ _) | (with_reducible refine Kd.C_drewN ?_ _) | (with_reducible refine Kd.C_drew ?_))); (case side2 => exact HC0_7.out); (case side3 => exact Kd.C_nil _ _); (case side4 => exact Nat.le_refl _); rintro e w13 ⟨rfl, hb⟩; refine ⟨_, rfl, ?_⟩; have n0_ := Aside0.mk (blk_below (g := gb257) (o := .cells #[.string a0_0, .string a0_1, .string a0_2, .string a0_3, .string a0_4, .string a0_5, .int .i64 a0_6, .slice A0_7 l0_7.length c0_7] 24 (0, 0)) (by (with_reducible repeat (first | refine blk_drewN ?_ _ | refine blk_drew ?_ | refine blk_alloc ?_ _)); exact BK257.out) hb); have n1_ := Aside0.mk (below_step (by repeat (first | (with_reducible first | exact HB.out | apply below_alloc | apply pw_below_drewN | apply below_drew1 | refine below_set ?_ GE257.out) | exact HB.out)) hb); clear BK257; clear HB; have BK257 := n0_; have HB := n1_; clear n0_ n1_; (try clear hb); (try clear hb2); (try clear hk); (try clear hi)))
go_meet
case rel => exact ⟨_, (true), (by first | rfl | (simp; done) | (simp [*]; done)), H', ⟨by first | omega | exact Nat.le_refl _⟩, ⟨by (with_reducible repeat (first | refine blk_drewN ?_ _ | refine blk_drew ?_ | refine blk_alloc ?_ _)); exact BK257.out⟩, ⟨by repeat (first | (with_reducible first | exact HB.out | apply below_alloc | apply pw_below_drewN | apply below_drew1 | refine below_set ?_ GE257.out) | exact HB.out)⟩⟩
)
·(
rw [if_neg c11] at H
have c11b0 : decide (70 < (l1.length : Int)) = false := decide_eq_false c11
have c11b1 : decide (70 < l1.length) = false := decide_eq_false (by omega)
clear c11
(first | rw [c11b0] | (simp only [i64_w, i32_w]; rw [c11b0]) | skip)
have H' := Aside0.mk H
clear H
have hcz14_0 : w8.cell? ⟨gb257, 0, none⟩ = some (.string a0_0) := (blk_cell BK257.out 0).trans rfl
have hcz14_1 : w8.cell? ⟨gb257, 1, none⟩ = some (.string a0_1) := (blk_cell BK257.out 1).trans rfl
have hcz14_2 : w8.cell? ⟨gb257, 2, none⟩ = some (.string a0_2) := (blk_cell BK257.out 2).trans rfl
have hcz14_3 : w8.cell? ⟨gb257, 3, none⟩ = some (.string a0_3) := (blk_cell BK257.out 3).trans rfl
have hcz14_4 : w8.cell? ⟨gb257, 4, none⟩ = some (.string a0_4) := (blk_cell BK257.out 4).trans rfl
have hcz14_5 : w8.cell? ⟨gb257, 5, none⟩ = some (.string a0_5) := (blk_cell BK257.out 5).trans rfl
have hcz14_6 : w8.cell? ⟨gb257, 6, none⟩ = some (.int .i64 a0_6) := (blk_cell BK257.out 6).trans rfl
have hcz14_7 : w8.cell? ⟨gb257, 7, none⟩ = some (.slice A0_7 l0_7.length c0_7) := (blk_cell BK257.out 7).trans rfl
have hfz14_0 := blk_frozen BK257.out 0
have hfz14_1 := blk_frozen BK257.out 1
have hfz14_2 := blk_frozen BK257.out 2
have hfz14_3 := blk_frozen BK257.out 3
have hfz14_4 := blk_frozen BK257.out 4
have hfz14_5 := blk_frozen BK257.out 5
have hfz14_6 := blk_frozen BK257.out 6
have hfz14_7 := blk_frozen BK257.out 7
go_wp2_with (first | ((with_reducible refine gate_callee (f := 12) rfl ?_); refine goesL_ (some 23) rfl rfl Try.func12 (by kernel_rfl) rfl #[.agg #[.string a0_0, .string a0_1, .string a0_2, .string a0_3, .string a0_4, .string a0_5, .int .i64 a0_6, .slice A0_7 l0_7.length c0_7], .slice none 0 0] rfl (by (try simp only [List.map_toArray, List.map_cons, List.map_nil]); first | done | rfl | (simp only [List.length_drop, List.length_take]; rfl)) ?_; (refine (sr19_Few.calls k a0_0 a0_1 a0_2 a0_3 a0_4 a0_5 a0_6 _ _ l0_7 _ _ ([] : List (S42)) true _ ?side1 ?side2 ?side3 ?side4 A9.out).mono ?_); (case side1 => repeat (first | exact (Kd.C_below HR0_7.out HB.out) | (with_reducible refine Kd.C_alloc ?_ _) | (with_reducible refine Kd.C_drewN ?_ _) | (with_reducible refine Kd.C_drew ?_))); (case side2 => exact HC0_7.out); (case side3 => exact Kd.C_nil _ _); (case side4 => exact Nat.le_refl _); rintro e w15 ⟨rfl, hb⟩; refine ⟨_, rfl, ?_⟩; have n0_ := Aside0.mk (blk_below (g := gb257) (o := .cells #[.string a0_0, .string a0_1, .string a0_2, .string a0_3, .string a0_4, .string a0_5, .int .i64 a0_6, .slice A0_7 l0_7.length c0_7] 24 (0, 0)) (by (with_reducible repeat (first | refine blk_drewN ?_ _ | refine blk_drew ?_ | refine blk_alloc ?_ _)); exact BK257.out) hb); have n1_ := Aside0.mk (below_step (by repeat (first | (with_reducible first | exact HB.out | apply below_alloc | apply pw_below_drewN | apply below_drew1 | refine below_set ?_ GE257.out) | exact HB.out)) hb); clear BK257; clear HB; have BK257 := n0_; have HB := n1_; clear n0_ n1_; (try clear hb); (try clear hb2); (try clear hk); (try clear hi)))
go_meet
case rel => exact ⟨_, (decide ((l2.length : Int) > 70)), (by first | rfl | (simp; done) | (simp [*]; done)), H', ⟨by first | omega | exact Nat.le_refl _⟩, ⟨by (with_reducible repeat (first | refine blk_drewN ?_ _ | refine blk_drew ?_ | refine blk_alloc ?_ _)); exact BK257.out⟩, ⟨by repeat (first | (with_reducible first | exact HB.out | apply below_alloc | apply pw_below_drewN | apply below_drew1 | refine below_set ?_ GE257.out) | exact HB.out)⟩⟩
)
)
·(
replace c10 := Bool.eq_false_iff.mpr c10
subst c10
have H1 : (supercargolaw19_OrderSums.j0 k l1 l2 true a0_0 a0_1 a0_2 a0_3 a0_4 a0_5 a0_6 l0_7) = some r := by rw [if_neg (show ¬ (false = true) by decide)] at H; exact H
clear H
have H := H1
clear H1
have H' := Aside0.mk H
clear H
have hcz16_0 : w8.cell? ⟨gb257, 0, none⟩ = some (.string a0_0) := (blk_cell BK257.out 0).trans rfl
have hcz16_1 : w8.cell? ⟨gb257, 1, none⟩ = some (.string a0_1) := (blk_cell BK257.out 1).trans rfl
have hcz16_2 : w8.cell? ⟨gb257, 2, none⟩ = some (.string a0_2) := (blk_cell BK257.out 2).trans rfl
have hcz16_3 : w8.cell? ⟨gb257, 3, none⟩ = some (.string a0_3) := (blk_cell BK257.out 3).trans rfl
have hcz16_4 : w8.cell? ⟨gb257, 4, none⟩ = some (.string a0_4) := (blk_cell BK257.out 4).trans rfl
have hcz16_5 : w8.cell? ⟨gb257, 5, none⟩ = some (.string a0_5) := (blk_cell BK257.out 5).trans rfl
have hcz16_6 : w8.cell? ⟨gb257, 6, none⟩ = some (.int .i64 a0_6) := (blk_cell BK257.out 6).trans rfl
have hcz16_7 : w8.cell? ⟨gb257, 7, none⟩ = some (.slice A0_7 l0_7.length c0_7) := (blk_cell BK257.out 7).trans rfl
have hfz16_0 := blk_frozen BK257.out 0
have hfz16_1 := blk_frozen BK257.out 1
have hfz16_2 := blk_frozen BK257.out 2
have hfz16_3 := blk_frozen BK257.out 3
have hfz16_4 := blk_frozen BK257.out 4
have hfz16_5 := blk_frozen BK257.out 5
have hfz16_6 := blk_frozen BK257.out 6
have hfz16_7 := blk_frozen BK257.out 7
go_wp2_with (first | ((with_reducible refine gate_callee (f := 12) rfl ?_); refine goesL_ (some 23) rfl rfl Try.func12 (by kernel_rfl) rfl #[.agg #[.string a0_0, .string a0_1, .string a0_2, .string a0_3, .string a0_4, .string a0_5, .int .i64 a0_6, .slice A0_7 l0_7.length c0_7], .slice none 0 0] rfl (by (try simp only [List.map_toArray, List.map_cons, List.map_nil]); first | done | rfl | (simp only [List.length_drop, List.length_take]; rfl)) ?_; (refine (sr19_Few.calls k a0_0 a0_1 a0_2 a0_3 a0_4 a0_5 a0_6 _ _ l0_7 _ _ ([] : List (S42)) false _ ?side1 ?side2 ?side3 ?side4 A9.out).mono ?_); (case side1 => repeat (first | exact (Kd.C_below HR0_7.out HB.out) | (with_reducible refine Kd.C_alloc ?_ _) | (with_reducible refine Kd.C_drewN ?_ _) | (with_reducible refine Kd.C_drew ?_))); (case side2 => exact HC0_7.out); (case side3 => exact Kd.C_nil _ _); (case side4 => exact Nat.le_refl _); rintro e w17 ⟨rfl, hb⟩; refine ⟨_, rfl, ?_⟩; have n0_ := Aside0.mk (blk_below (g := gb257) (o := .cells #[.string a0_0, .string a0_1, .string a0_2, .string a0_3, .string a0_4, .string a0_5, .int .i64 a0_6, .slice A0_7 l0_7.length c0_7] 24 (0, 0)) (by (with_reducible repeat (first | refine blk_drewN ?_ _ | refine blk_drew ?_ | refine blk_alloc ?_ _)); exact BK257.out) hb); have n1_ := Aside0.mk (below_step (by repeat (first | (with_reducible first | exact HB.out | apply below_alloc | apply pw_below_drewN | apply below_drew1 | refine below_set ?_ GE257.out) | exact HB.out)) hb); clear BK257; clear HB; have BK257 := n0_; have HB := n1_; clear n0_ n1_; (try clear hb); (try clear hb2); (try clear hk); (try clear hi)))
go_meet
case rel => exact ⟨_, (true), (by first | rfl | (simp; done) | (simp [*]; done)), H', ⟨by first | omega | exact Nat.le_refl _⟩, ⟨by (with_reducible repeat (first | refine blk_drewN ?_ _ | refine blk_drew ?_ | refine blk_alloc ?_ _)); exact BK257.out⟩, ⟨by repeat (first | (with_reducible first | exact HB.out | apply below_alloc | apply pw_below_drewN | apply below_drew1 | refine below_set ?_ GE257.out) | exact HB.out)⟩⟩
)
)
case rest => (
clear HC6
try clear c1
try clear c2
try clear p2
try clear c5
try clear c7
try clear c10
try clear c11
try clear c11b0
try clear c11b1
try clear c12
try clear hcz12_0
try clear hcz12_1
try clear hcz12_2
try clear hcz12_3
try clear hcz12_4
try clear hcz12_5
try clear hcz12_6
try clear hcz12_7
try clear hcz14_0
try clear hcz14_1
try clear hcz14_2
try clear hcz14_3
try clear hcz14_4
try clear hcz14_5
try clear hcz14_6
try clear hcz14_7
try clear hcz16_0
try clear hcz16_1
try clear hcz16_2
try clear hcz16_3
try clear hcz16_4
try clear hcz16_5
try clear hcz16_6
try clear hcz16_7
try clear hfz12_0
try clear hfz12_1
try clear hfz12_2
try clear hfz12_3
try clear hfz12_4
try clear hfz12_5
try clear hfz12_6
try clear hfz12_7
try clear hfz14_0
try clear hfz14_1
try clear hfz14_2
try clear hfz14_3
try clear hfz14_4
try clear hfz14_5
try clear hfz14_6
try clear hfz14_7
try clear hfz16_0
try clear hfz16_1
try clear hfz16_2
try clear hfz16_3
try clear hfz16_4
try clear hfz16_5
try clear hfz16_6
try clear hfz16_7
obtain ⟨kq, x34_5, rfl, HA, HJ5, BK257, HB⟩ := hcut
cases kq with
| zero => exact absurd HA.out (by simp [supercargolaw19_OrderSums.j0])
| succ kj5 => (
have H := HA.out
clear HA
simp only [supercargolaw19_OrderSums.j0] at H
by_cases c18 : x34_5 = true
·(
subst c18
have H1 : (some true) = some r := by rw [if_pos rfl] at H; exact H
clear H
have H := H1
clear H1
clear hT; obtain rfl := Option.some.inj H
go_wp2
go_ret
exact ⟨by first | rfl | (simp [errW_none, errW_some] <;> rfl) | (simp [*, errW_none, errW_some] <;> rfl), by repeat (first | (with_reducible first | exact HB.out | apply below_alloc | apply pw_below_drewN | apply below_drew1 | refine below_set ?_ GE257.out) | exact HB.out)⟩
)
·(
replace c18 := Bool.eq_false_iff.mpr c18
subst c18
have H1 : ((order_Cut.f kj5 a0_0 a0_1 a0_2 a0_3 a0_4 a0_5 a0_6 l0_7 l1 l2).bind fun bt260 => (if bt260.2 = 0 then ((order_Total.f kj5 a0_0 a0_1 a0_2 a0_3 a0_4 a0_5 a0_6 l0_7).bind fun bt264 => ((order_Left.f kj5 a0_0 a0_1 a0_2 a0_3 a0_4 a0_5 a0_6 l0_7 bt260.1).bind fun bt266 => (if (bt260.1.length : Int) = (l1.length : Int) then (if bt266.2 = 0 then (supercargolaw19_OrderSums.j1 kj5 bt260.1 bt264.1 bt264.2 ((bt266.1.length : Int) != 0) a0_0 a0_1 a0_2 a0_3 a0_4 a0_5 a0_6 l0_7) else (supercargolaw19_OrderSums.j1 kj5 bt260.1 bt264.1 bt264.2 true a0_0 a0_1 a0_2 a0_3 a0_4 a0_5 a0_6 l0_7)) else (supercargolaw19_OrderSums.j1 kj5 bt260.1 bt264.1 bt264.2 true a0_0 a0_1 a0_2 a0_3 a0_4 a0_5 a0_6 l0_7)))) else (some ((bt260.1.length : Int) == 0)))) = some r := by rw [if_neg (show ¬ (false = true) by decide)] at H; exact H
clear H
have H := H1
clear H1
replace H := Option.bind_eq_some_iff.mp H
obtain ⟨⟨t260, t263⟩, A190, H⟩ := H
replace H : (if t263 = 0 then ((order_Total.f kj5 a0_0 a0_1 a0_2 a0_3 a0_4 a0_5 a0_6 l0_7).bind fun bt264 => ((order_Left.f kj5 a0_0 a0_1 a0_2 a0_3 a0_4 a0_5 a0_6 l0_7 t260).bind fun bt266 => (if (t260.length : Int) = (l1.length : Int) then (if bt266.2 = 0 then (supercargolaw19_OrderSums.j1 kj5 t260 bt264.1 bt264.2 ((bt266.1.length : Int) != 0) a0_0 a0_1 a0_2 a0_3 a0_4 a0_5 a0_6 l0_7) else (supercargolaw19_OrderSums.j1 kj5 t260 bt264.1 bt264.2 true a0_0 a0_1 a0_2 a0_3 a0_4 a0_5 a0_6 l0_7)) else (supercargolaw19_OrderSums.j1 kj5 t260 bt264.1 bt264.2 true a0_0 a0_1 a0_2 a0_3 a0_4 a0_5 a0_6 l0_7)))) else (some ((t260.length : Int) == 0))) = some r := H
have A19 := Aside0.mk A190
clear A190
by_cases c20 : t263 = 0
·(
rw [if_pos c20] at H
have c20b0 : (t263 == 0) = true := beq_iff_eq.mpr c20
have c20b1 : (t263 != 0) = false := bne_eq_false_iff_eq.mpr c20
clear c20
replace H := Option.bind_eq_some_iff.mp H
obtain ⟨⟨t264, t265⟩, A210, H⟩ := H
replace H : ((order_Left.f kj5 a0_0 a0_1 a0_2 a0_3 a0_4 a0_5 a0_6 l0_7 t260).bind fun bt266 => (if (t260.length : Int) = (l1.length : Int) then (if bt266.2 = 0 then (supercargolaw19_OrderSums.j1 kj5 t260 t264 t265 ((bt266.1.length : Int) != 0) a0_0 a0_1 a0_2 a0_3 a0_4 a0_5 a0_6 l0_7) else (supercargolaw19_OrderSums.j1 kj5 t260 t264 t265 true a0_0 a0_1 a0_2 a0_3 a0_4 a0_5 a0_6 l0_7)) else (supercargolaw19_OrderSums.j1 kj5 t260 t264 t265 true a0_0 a0_1 a0_2 a0_3 a0_4 a0_5 a0_6 l0_7))) = some r := H
have A21 := Aside0.mk A210
clear A210
replace H := Option.bind_eq_some_iff.mp H
obtain ⟨⟨t266, t269⟩, A220, H⟩ := H
replace H : (if (t260.length : Int) = (l1.length : Int) then (if t269 = 0 then (supercargolaw19_OrderSums.j1 kj5 t260 t264 t265 ((t266.length : Int) != 0) a0_0 a0_1 a0_2 a0_3 a0_4 a0_5 a0_6 l0_7) else (supercargolaw19_OrderSums.j1 kj5 t260 t264 t265 true a0_0 a0_1 a0_2 a0_3 a0_4 a0_5 a0_6 l0_7)) else (supercargolaw19_OrderSums.j1 kj5 t260 t264 t265 true a0_0 a0_1 a0_2 a0_3 a0_4 a0_5 a0_6 l0_7)) = some r := H
have A22 := Aside0.mk A220
clear A220
have HC23 := Aside0.mk H
clear H
have hcz24_0 : wc.cell? ⟨gb257, 0, none⟩ = some (.string a0_0) := (blk_cell BK257.out 0).trans rfl
have hcz24_1 : wc.cell? ⟨gb257, 1, none⟩ = some (.string a0_1) := (blk_cell BK257.out 1).trans rfl
have hcz24_2 : wc.cell? ⟨gb257, 2, none⟩ = some (.string a0_2) := (blk_cell BK257.out 2).trans rfl
have hcz24_3 : wc.cell? ⟨gb257, 3, none⟩ = some (.string a0_3) := (blk_cell BK257.out 3).trans rfl
have hcz24_4 : wc.cell? ⟨gb257, 4, none⟩ = some (.string a0_4) := (blk_cell BK257.out 4).trans rfl
have hcz24_5 : wc.cell? ⟨gb257, 5, none⟩ = some (.string a0_5) := (blk_cell BK257.out 5).trans rfl
have hcz24_6 : wc.cell? ⟨gb257, 6, none⟩ = some (.int .i64 a0_6) := (blk_cell BK257.out 6).trans rfl
have hcz24_7 : wc.cell? ⟨gb257, 7, none⟩ = some (.slice A0_7 l0_7.length c0_7) := (blk_cell BK257.out 7).trans rfl
have hfz24_0 := blk_frozen BK257.out 0
have hfz24_1 := blk_frozen BK257.out 1
have hfz24_2 := blk_frozen BK257.out 2
have hfz24_3 := blk_frozen BK257.out 3
have hfz24_4 := blk_frozen BK257.out 4
have hfz24_5 := blk_frozen BK257.out 5
have hfz24_6 := blk_frozen BK257.out 6
have hfz24_7 := blk_frozen BK257.out 7
go_upto_region 10 with (first | ((with_reducible refine gate_callee (f := 19) rfl ?_); refine goesL_ (some 39) rfl rfl Try.func19 (by kernel_rfl) rfl #[.agg #[.string a0_0, .string a0_1, .string a0_2, .string a0_3, .string a0_4, .string a0_5, .int .i64 a0_6, .slice A0_7 l0_7.length c0_7], .slice A1 l1.length c1, .slice A2 l2.length c2] rfl (by (try simp only [List.map_toArray, List.map_cons, List.map_nil]); first | done | rfl | (simp only [List.length_drop, List.length_take]; rfl)) ?_; (with_reducible refine (order_Cut.calls kj5 a0_0 a0_1 a0_2 a0_3 a0_4 a0_5 a0_6 _ _ l0_7 _ _ l1 _ _ l2 t260 t263 _ ?side1 ?side2 ?side3 ?side4 ?side5 ?side6 A19.out).mono ?_); (case side1 => repeat (first | exact (Kd.C_below HR0_7.out HB.out) | (with_reducible refine Kd.C_alloc ?_ _) | (with_reducible refine Kd.C_drewN ?_ _) | (with_reducible refine Kd.C_drew ?_))); (case side2 => exact HC0_7.out); (case side3 => repeat (first | exact (Kd.C_below HR1.out HB.out) | (with_reducible refine Kd.C_alloc ?_ _) | (with_reducible refine Kd.C_drewN ?_ _) | (with_reducible refine Kd.C_drew ?_))); (case side4 => exact HC1.out); (case side5 => repeat (first | exact (Kd.C_below HR2.out HB.out) | (with_reducible refine Kd.C_alloc ?_ _) | (with_reducible refine Kd.C_drewN ?_ _) | (with_reducible refine Kd.C_drew ?_))); (case side6 => exact HC2.out); rintro e w25 ⟨v261, rfl, ho0, hb⟩; refine ⟨_, rfl, ?_⟩; have n0_ := Aside0.mk (Kd.S_lower ho0 (below_size (by repeat (first | (with_reducible first | exact HB.out | apply below_alloc | apply pw_below_drewN | apply below_drew1 | refine below_set ?_ GE257.out) | exact HB.out)))); have n1_ := Aside0.mk (blk_below (g := gb257) (o := .cells #[.string a0_0, .string a0_1, .string a0_2, .string a0_3, .string a0_4, .string a0_5, .int .i64 a0_6, .slice A0_7 l0_7.length c0_7] 24 (0, 0)) (by (with_reducible repeat (first | refine blk_drewN ?_ _ | refine blk_drew ?_ | refine blk_alloc ?_ _)); exact BK257.out) hb); have n2_ := Aside0.mk (below_step (by repeat (first | (with_reducible first | exact HB.out | apply below_alloc | apply pw_below_drewN | apply below_drew1 | refine below_set ?_ GE257.out) | exact HB.out)) hb); clear BK257; clear HB; have HO262 := n0_; have BK257 := n1_; have HB := n2_; clear n0_ n1_ n2_; (try clear hb); (try clear hb2); (try clear hk); (try clear hi); (try clear ho0); have hcz26_0 : w25.cell? ⟨gb257, 0, none⟩ = some (.string a0_0) := (blk_cell BK257.out 0).trans rfl; have hcz26_1 : w25.cell? ⟨gb257, 1, none⟩ = some (.string a0_1) := (blk_cell BK257.out 1).trans rfl; have hcz26_2 : w25.cell? ⟨gb257, 2, none⟩ = some (.string a0_2) := (blk_cell BK257.out 2).trans rfl; have hcz26_3 : w25.cell? ⟨gb257, 3, none⟩ = some (.string a0_3) := (blk_cell BK257.out 3).trans rfl; have hcz26_4 : w25.cell? ⟨gb257, 4, none⟩ = some (.string a0_4) := (blk_cell BK257.out 4).trans rfl; have hcz26_5 : w25.cell? ⟨gb257, 5, none⟩ = some (.string a0_5) := (blk_cell BK257.out 5).trans rfl; have hcz26_6 : w25.cell? ⟨gb257, 6, none⟩ = some (.int .i64 a0_6) := (blk_cell BK257.out 6).trans rfl; have hcz26_7 : w25.cell? ⟨gb257, 7, none⟩ = some (.slice A0_7 l0_7.length c0_7) := (blk_cell BK257.out 7).trans rfl; have hfz26_0 := blk_frozen BK257.out 0; have hfz26_1 := blk_frozen BK257.out 1; have hfz26_2 := blk_frozen BK257.out 2; have hfz26_3 := blk_frozen BK257.out 3; have hfz26_4 := blk_frozen BK257.out 4; have hfz26_5 := blk_frozen BK257.out 5; have hfz26_6 := blk_frozen BK257.out 6; have hfz26_7 := blk_frozen BK257.out 7) | ((with_reducible refine gate_callee (f := 13) rfl ?_); refine goesL_ (some 49) rfl rfl Try.func13 (by kernel_rfl) rfl #[.agg #[.string a0_0, .string a0_1, .string a0_2, .string a0_3, .string a0_4, .string a0_5, .int .i64 a0_6, .slice A0_7 l0_7.length c0_7]] rfl (by (try simp only [List.map_toArray, List.map_cons, List.map_nil]); first | done | rfl | (simp only [List.length_drop, List.length_take]; rfl)) ?_; (with_reducible refine (order_Total.calls kj5 a0_0 a0_1 a0_2 a0_3 a0_4 a0_5 a0_6 _ _ l0_7 t264 t265 _ ?side1 ?side2 A21.out).mono ?_); (case side1 => repeat (first | exact (Kd.C_below HR0_7.out HB.out) | (with_reducible refine Kd.C_alloc ?_ _) | (with_reducible refine Kd.C_drewN ?_ _) | (with_reducible refine Kd.C_drew ?_))); (case side2 => exact HC0_7.out); rintro e w27 ⟨rfl, hb⟩; refine ⟨_, rfl, ?_⟩; have n0_ := Aside0.mk (Kd.S_below (by (with_reducible repeat (first | apply Kd.S_alloc | apply Kd.S_drewN | apply Kd.S_drew)); exact HO262.out) hb); have n1_ := Aside0.mk (blk_below (g := gb257) (o := .cells #[.string a0_0, .string a0_1, .string a0_2, .string a0_3, .string a0_4, .string a0_5, .int .i64 a0_6, .slice A0_7 l0_7.length c0_7] 24 (0, 0)) (by (with_reducible repeat (first | refine blk_drewN ?_ _ | refine blk_drew ?_ | refine blk_alloc ?_ _)); exact BK257.out) hb); have n2_ := Aside0.mk (below_step (by repeat (first | (with_reducible first | exact HB.out | apply below_alloc | apply pw_below_drewN | apply below_drew1 | refine below_set ?_ GE257.out) | exact HB.out)) hb); clear HO262; clear BK257; clear HB; have HO262 := n0_; have BK257 := n1_; have HB := n2_; clear n0_ n1_ n2_; (try clear hb); (try clear hb2); (try clear hk); (try clear hi); have hcz28_0 : w27.cell? ⟨gb257, 0, none⟩ = some (.string a0_0) := (blk_cell BK257.out 0).trans rfl; have hcz28_1 : w27.cell? ⟨gb257, 1, none⟩ = some (.string a0_1) := (blk_cell BK257.out 1).trans rfl; have hcz28_2 : w27.cell? ⟨gb257, 2, none⟩ = some (.string a0_2) := (blk_cell BK257.out 2).trans rfl; have hcz28_3 : w27.cell? ⟨gb257, 3, none⟩ = some (.string a0_3) := (blk_cell BK257.out 3).trans rfl; have hcz28_4 : w27.cell? ⟨gb257, 4, none⟩ = some (.string a0_4) := (blk_cell BK257.out 4).trans rfl; have hcz28_5 : w27.cell? ⟨gb257, 5, none⟩ = some (.string a0_5) := (blk_cell BK257.out 5).trans rfl; have hcz28_6 : w27.cell? ⟨gb257, 6, none⟩ = some (.int .i64 a0_6) := (blk_cell BK257.out 6).trans rfl; have hcz28_7 : w27.cell? ⟨gb257, 7, none⟩ = some (.slice A0_7 l0_7.length c0_7) := (blk_cell BK257.out 7).trans rfl; have hfz28_0 := blk_frozen BK257.out 0; have hfz28_1 := blk_frozen BK257.out 1; have hfz28_2 := blk_frozen BK257.out 2; have hfz28_3 := blk_frozen BK257.out 3; have hfz28_4 := blk_frozen BK257.out 4; have hfz28_5 := blk_frozen BK257.out 5; have hfz28_6 := blk_frozen BK257.out 6; have hfz28_7 := blk_frozen BK257.out 7; obtain ⟨Ao29, co29, eo29⟩ := Kd.S_slice HO262.out; subst eo29) | ((with_reducible refine gate_callee (f := 30) rfl ?_); refine goesL_ (some 55) rfl rfl Try.func30 (by kernel_rfl) rfl #[.agg #[.string a0_0, .string a0_1, .string a0_2, .string a0_3, .string a0_4, .string a0_5, .int .i64 a0_6, .slice A0_7 l0_7.length c0_7], .slice Ao29 t260.length co29] rfl (by (try simp only [List.map_toArray, List.map_cons, List.map_nil]); first | done | rfl | (simp only [List.length_drop, List.length_take]; rfl)) ?_; (with_reducible refine (order_Left.calls kj5 a0_0 a0_1 a0_2 a0_3 a0_4 a0_5 a0_6 _ _ l0_7 _ _ t260 t266 t269 _ ?side1 ?side2 ?side3 ?side4 A22.out).mono ?_); (case side1 => repeat (first | exact (Kd.C_below HR0_7.out HB.out) | (with_reducible refine Kd.C_alloc ?_ _) | (with_reducible refine Kd.C_drewN ?_ _) | (with_reducible refine Kd.C_drew ?_))); (case side2 => exact HC0_7.out); (case side3 => repeat (first | exact (Kd.S_reads' HO262.out).2.2 | (with_reducible refine Kd.C_alloc ?_ _) | (with_reducible refine Kd.C_drewN ?_ _) | (with_reducible refine Kd.C_drew ?_))); (case side4 => exact (Kd.S_reads' HO262.out).2.1); rintro e w30 ⟨v267, rfl, ho0, hb⟩; refine ⟨_, rfl, ?_⟩; have n0_ := Aside0.mk (Kd.S_elder' (by (with_reducible repeat (first | apply Kd.S_alloc | apply Kd.S_drewN | apply Kd.S_drew)); exact HO262.out) (Kd.R_base ho0) hb); have n1_ := Aside0.mk (Kd.R_lower ho0 (below_size (by repeat (first | (with_reducible first | exact HB.out | apply below_alloc | apply pw_below_drewN | apply below_drew1 | refine below_set ?_ GE257.out) | exact HB.out)))); have n2_ := Aside0.mk (blk_below (g := gb257) (o := .cells #[.string a0_0, .string a0_1, .string a0_2, .string a0_3, .string a0_4, .string a0_5, .int .i64 a0_6, .slice A0_7 l0_7.length c0_7] 24 (0, 0)) (by (with_reducible repeat (first | refine blk_drewN ?_ _ | refine blk_drew ?_ | refine blk_alloc ?_ _)); exact BK257.out) hb); have n3_ := Aside0.mk (below_step (by repeat (first | (with_reducible first | exact HB.out | apply below_alloc | apply pw_below_drewN | apply below_drew1 | refine below_set ?_ GE257.out) | exact HB.out)) hb); clear HO262; clear BK257; clear HB; have HO262 := n0_; have HO268 := n1_; have BK257 := n2_; have HB := n3_; clear n0_ n1_ n2_ n3_; (try clear hb); (try clear hb2); (try clear hk); (try clear hi); (try clear ho0)))
(try simp only [Act.put, List.setIfInBounds_toArray, List.set_cons_zero, List.set_cons_succ])
go_cut [71] (fun v71 wc => ∃ (kq : Nat) (x71_22 : Bool), v71 = .bool x71_22 ∧ Aside0 (supercargolaw19_OrderSums.j1 kq t260 t264 t265 x71_22 a0_0 a0_1 a0_2 a0_3 a0_4 a0_5 a0_6 l0_7 = some r) ∧ Aside0 (kq ≤ kj5) ∧ Aside0 (Kd.S k42 42 wc w.heap.size (fun _ => True) (.slice Ao29 t260.length co29) t260) ∧ Aside0 (wc.heap[gb257]? = some (.cells #[.string a0_0, .string a0_1, .string a0_2, .string a0_3, .string a0_4, .string a0_5, .int .i64 a0_6, (.slice A0_7 l0_7.length c0_7)] 24 (0, 0))) ∧ Aside0 (Below w.heap.size w wc))
case first => (
have H := HC23.out
clear HC23
by_cases c31 : (t260.length : Int) = (l1.length : Int)
·(
rw [if_pos c31] at H
have c31b0 : ((t260.length : Int) == (l1.length : Int)) = true := beq_iff_eq.mpr c31
have c31b1 : ((t260.length : Int) != (l1.length : Int)) = false := bne_eq_false_iff_eq.mpr c31
have c31b2 : (t260.length == l1.length) = true := by first | simpa using c31 | (simp at c31 ⊢; omega)
clear c31
(first | rw [c31b0] | (simp only [i64_w, i32_w]; rw [c31b0]) | skip)
by_cases c32 : t269 = 0
·(
rw [if_pos c32] at H
have c32b0 : (t269 == 0) = true := beq_iff_eq.mpr c32
have c32b1 : (t269 != 0) = false := bne_eq_false_iff_eq.mpr c32
clear c32
have H' := Aside0.mk H
clear H
obtain ⟨Ao33, co33, eo33⟩ := Kd.R_slice HO268.out
subst eo33
go_wp2
go_meet
case rel => exact ⟨_, (((t266.length : Int) != 0)), (by first | rfl | (simp; done) | (simp [*]; done)), H', ⟨by have := HJ5.out; first | omega | exact Nat.le_refl _⟩, ⟨by (with_reducible repeat (first | apply Kd.S_alloc | apply Kd.S_drewN | apply Kd.S_drew)); exact Kd.S_mono HO262.out (fun _ hk => trivial)⟩, ⟨by (with_reducible repeat (first | refine blk_drewN ?_ _ | refine blk_drew ?_ | refine blk_alloc ?_ _)); exact BK257.out⟩, ⟨by repeat (first | (with_reducible first | exact HB.out | apply below_alloc | apply pw_below_drewN | apply below_drew1 | refine below_set ?_ GE257.out) | exact HB.out)⟩⟩
)
·(
rw [if_neg c32] at H
have c32b0 : (t269 == 0) = false := beq_eq_false_iff_ne.mpr c32
have c32b1 : (t269 != 0) = true := bne_iff_ne.mpr c32
have H' := Aside0.mk H
clear H
go_wp2
go_meet
case rel => exact ⟨_, (true), (by first | rfl | (simp; done) | (simp [*]; done)), H', ⟨by have := HJ5.out; first | omega | exact Nat.le_refl _⟩, ⟨by (with_reducible repeat (first | apply Kd.S_alloc | apply Kd.S_drewN | apply Kd.S_drew)); exact Kd.S_mono HO262.out (fun _ hk => trivial)⟩, ⟨by (with_reducible repeat (first | refine blk_drewN ?_ _ | refine blk_drew ?_ | refine blk_alloc ?_ _)); exact BK257.out⟩, ⟨by repeat (first | (with_reducible first | exact HB.out | apply below_alloc | apply pw_below_drewN | apply below_drew1 | refine below_set ?_ GE257.out) | exact HB.out)⟩⟩
)
)
·(
rw [if_neg c31] at H
have c31b0 : ((t260.length : Int) == (l1.length : Int)) = false := beq_eq_false_iff_ne.mpr c31
have c31b1 : ((t260.length : Int) != (l1.length : Int)) = true := bne_iff_ne.mpr c31
have c31b2 : (t260.length == l1.length) = false := by first | simpa using c31 | (simp at c31 ⊢; omega)
(first | rw [c31b0] | (simp only [i64_w, i32_w]; rw [c31b0]) | skip)
have H' := Aside0.mk H
clear H
go_wp2
go_meet
case rel => exact ⟨_, (true), (by first | rfl | (simp; done) | (simp [*]; done)), H', ⟨by have := HJ5.out; first | omega | exact Nat.le_refl _⟩, ⟨by (with_reducible repeat (first | apply Kd.S_alloc | apply Kd.S_drewN | apply Kd.S_drew)); exact Kd.S_mono HO262.out (fun _ hk => trivial)⟩, ⟨by (with_reducible repeat (first | refine blk_drewN ?_ _ | refine blk_drew ?_ | refine blk_alloc ?_ _)); exact BK257.out⟩, ⟨by repeat (first | (with_reducible first | exact HB.out | apply below_alloc | apply pw_below_drewN | apply below_drew1 | refine below_set ?_ GE257.out) | exact HB.out)⟩⟩
)
)
case rest => (
clear HC23
try clear c1
try clear c2
try clear p2
try clear c3
try clear c5
try clear c7
try clear c10
try clear c11
try clear c11b0
try clear c11b1
try clear c12
try clear c13
try clear c18
try clear c19
try clear c20
try clear c20b0
try clear c20b1
try clear c30
try clear c31
try clear c31b0
try clear c31b1
try clear c31b2
try clear c32
try clear c32b0
try clear c32b1
try clear hcz12_0
try clear hcz12_1
try clear hcz12_2
try clear hcz12_3
try clear hcz12_4
try clear hcz12_5
try clear hcz12_6
try clear hcz12_7
try clear hcz14_0
try clear hcz14_1
try clear hcz14_2
try clear hcz14_3
try clear hcz14_4
try clear hcz14_5
try clear hcz14_6
try clear hcz14_7
try clear hcz16_0
try clear hcz16_1
try clear hcz16_2
try clear hcz16_3
try clear hcz16_4
try clear hcz16_5
try clear hcz16_6
try clear hcz16_7
try clear hcz24_0
try clear hcz24_1
try clear hcz24_2
try clear hcz24_3
try clear hcz24_4
try clear hcz24_5
try clear hcz24_6
try clear hcz24_7
try clear hcz26_0
try clear hcz26_1
try clear hcz26_2
try clear hcz26_3
try clear hcz26_4
try clear hcz26_5
try clear hcz26_6
try clear hcz26_7
try clear hcz28_0
try clear hcz28_1
try clear hcz28_2
try clear hcz28_3
try clear hcz28_4
try clear hcz28_5
try clear hcz28_6
try clear hcz28_7
try clear hfz12_0
try clear hfz12_1
try clear hfz12_2
try clear hfz12_3
try clear hfz12_4
try clear hfz12_5
try clear hfz12_6
try clear hfz12_7
try clear hfz14_0
try clear hfz14_1
try clear hfz14_2
try clear hfz14_3
try clear hfz14_4
try clear hfz14_5
try clear hfz14_6
try clear hfz14_7
try clear hfz16_0
try clear hfz16_1
try clear hfz16_2
try clear hfz16_3
try clear hfz16_4
try clear hfz16_5
try clear hfz16_6
try clear hfz16_7
try clear hfz24_0
try clear hfz24_1
try clear hfz24_2
try clear hfz24_3
try clear hfz24_4
try clear hfz24_5
try clear hfz24_6
try clear hfz24_7
try clear hfz26_0
try clear hfz26_1
try clear hfz26_2
try clear hfz26_3
try clear hfz26_4
try clear hfz26_5
try clear hfz26_6
try clear hfz26_7
try clear hfz28_0
try clear hfz28_1
try clear hfz28_2
try clear hfz28_3
try clear hfz28_4
try clear hfz28_5
try clear hfz28_6
try clear hfz28_7
try clear p2
obtain ⟨kq, x71_22, rfl, HA, HJ22, HO_7, BK257, HB⟩ := hcut
cases kq with
| zero => exact absurd HA.out (by simp [supercargolaw19_OrderSums.j1])
| succ kj22 => (
have H := HA.out
clear HA
simp only [supercargolaw19_OrderSums.j1] at H
by_cases c34 : x71_22 = true
·(
subst c34
have H1 : (some false) = some r := by rw [if_pos rfl] at H; exact H
clear H
have H := H1
clear H1
exact absurd (Option.some.inj H) (by rw [hT.out]; decide)
)
·(
replace c34 := Bool.eq_false_iff.mpr c34
subst c34
have H1 : (supercargolaw19_OrderSums.l0 kj22 t260 t264 t265 ([] : List (S67)) 0 0 a0_0 a0_1 a0_2 a0_3 a0_4 a0_5 a0_6 l0_7) = some r := by rw [if_neg (show ¬ (false = true) by decide)] at H; exact H
clear H
have H := H1
clear H1
have H' := Aside0.mk H
clear H
go_wp2
go_loopg [13, 15, 16] kj22 (fun kq v13 v15 v16 w' => ∃ (x13_3 : List (S67)) (x15_3 : Int) (x16_3 : Int), v15 = .int .i64 x15_3 ∧ v16 = .int .i64 x16_3 ∧ Aside0 (supercargolaw19_OrderSums.l0 kq t260 t264 t265 x13_3 x15_3 x16_3 a0_0 a0_1 a0_2 a0_3 a0_4 a0_5 a0_6 l0_7 = some r) ∧ Aside0 (kq ≤ kj22) ∧ Aside0 (Kd.S k42 42 w' w.heap.size (fun k_ => some k_ ≠ (v13 : Value).ownBlock) (.slice Ao29 t260.length co29) t260) ∧ Aside0 (Kd.R k67 67 w' w.heap.size (fun _ => True) v13 x13_3) ∧ Aside0 (w'.heap[gb257]? = some (.cells #[.string a0_0, .string a0_1, .string a0_2, .string a0_3, .string a0_4, .string a0_5, .int .i64 a0_6, (.slice A0_7 l0_7.length c0_7)] 24 (0, 0))) ∧ Aside0 (Below w.heap.size w w'))
case atStart => exact ⟨(([] : List (S67))), (0), (0), (by first | rfl | (simp; done) | (simp [*]; done)), (by first | rfl | (simp; done) | (simp [*]; done)), H', ⟨Nat.le_refl _⟩, ⟨by (with_reducible repeat (first | apply Kd.S_alloc | apply Kd.S_drewN | apply Kd.S_drew)); exact Kd.S_mono HO_7.out (fun _ hk => (by simp [Value.ownBlock]))⟩, ⟨by first | exact Kd.R_nil _ _ _ _ _ | exact Kd.N_nil _ _ _ _ _ | exact Kd.V_nil _ _ _ _ _ | exact Kd.Q_nil _ _ _ _ _ | exact Kd.S_nil _ _ _ _ _⟩, ⟨by (with_reducible repeat (first | refine blk_drewN ?_ _ | refine blk_drew ?_ | refine blk_alloc ?_ _)); exact BK257.out⟩, ⟨by repeat (first | (with_reducible first | exact HB.out | apply below_alloc | apply pw_below_drewN | apply below_drew1 | refine below_set ?_ GE257.out) | exact HB.out)⟩⟩
case round => (
clear H'
try clear c1
try clear c2
try clear p2
try clear c3
try clear c5
try clear c7
try clear c10
try clear c11
try clear c11b0
try clear c11b1
try clear c12
try clear c13
try clear c18
try clear c19
try clear c20
try clear c20b0
try clear c20b1
try clear c30
try clear c31
try clear c31b0
try clear c31b1
try clear c31b2
try clear c32
try clear c32b0
try clear c32b1
try clear c34
try clear hcz12_0
try clear hcz12_1
try clear hcz12_2
try clear hcz12_3
try clear hcz12_4
try clear hcz12_5
try clear hcz12_6
try clear hcz12_7
try clear hcz14_0
try clear hcz14_1
try clear hcz14_2
try clear hcz14_3
try clear hcz14_4
try clear hcz14_5
try clear hcz14_6
try clear hcz14_7
try clear hcz16_0
try clear hcz16_1
try clear hcz16_2
try clear hcz16_3
try clear hcz16_4
try clear hcz16_5
try clear hcz16_6
try clear hcz16_7
try clear hcz24_0
try clear hcz24_1
try clear hcz24_2
try clear hcz24_3
try clear hcz24_4
try clear hcz24_5
try clear hcz24_6
try clear hcz24_7
try clear hcz26_0
try clear hcz26_1
try clear hcz26_2
try clear hcz26_3
try clear hcz26_4
try clear hcz26_5
try clear hcz26_6
try clear hcz26_7
try clear hcz28_0
try clear hcz28_1
try clear hcz28_2
try clear hcz28_3
try clear hcz28_4
try clear hcz28_5
try clear hcz28_6
try clear hcz28_7
try clear hfz12_0
try clear hfz12_1
try clear hfz12_2
try clear hfz12_3
try clear hfz12_4
try clear hfz12_5
try clear hfz12_6
try clear hfz12_7
try clear hfz14_0
try clear hfz14_1
try clear hfz14_2
try clear hfz14_3
try clear hfz14_4
try clear hfz14_5
try clear hfz14_6
try clear hfz14_7
try clear hfz16_0
try clear hfz16_1
try clear hfz16_2
try clear hfz16_3
try clear hfz16_4
try clear hfz16_5
try clear hfz16_6
try clear hfz16_7
try clear hfz24_0
try clear hfz24_1
try clear hfz24_2
try clear hfz24_3
try clear hfz24_4
try clear hfz24_5
try clear hfz24_6
try clear hfz24_7
try clear hfz26_0
try clear hfz26_1
try clear hfz26_2
try clear hfz26_3
try clear hfz26_4
try clear hfz26_5
try clear hfz26_6
try clear hfz26_7
try clear hfz28_0
try clear hfz28_1
try clear hfz28_2
try clear hfz28_3
try clear hfz28_4
try clear hfz28_5
try clear hfz28_6
try clear hfz28_7
try clear p2
obtain ⟨x13_3, x15_3, x16_3, rfl, rfl, HA, HK3, HO_7, HO_13, BK257, HB⟩ := hrel
cases gk with
| zero => exact absurd HA.out (by simp [supercargolaw19_OrderSums.l0])
| succ k3 => (
have H := HA.out
clear HA
simp only [supercargolaw19_OrderSums.l0] at H
by_cases c35 : x16_3 < (t260.length : Int)
·(
rw [if_pos c35] at H
have c35b0 : decide (x16_3 < (t260.length : Int)) = true := decide_eq_true c35
clear c35
by_cases c36 : 0 ≤ x16_3
·(
rw [if_pos c36] at H
have c36b0 : decide (0 ≤ x16_3) = true := decide_eq_true c36
clear c36
replace H := Option.bind_eq_some_iff.mp H
obtain ⟨⟨t271, t272⟩, A370, H⟩ := H
replace H : (if t265 = 0 then (if t272 = 0 then (if ((rd_T42 t260 x16_3).f1) = (wrap64 (x16_3 + 1)) then (if ((rd_T42 t260 x16_3).f0).toList = a0_0.toList then (if (((rd_T42 t260 x16_3).f3).length : Int) = 0 then (some false) else (if x13_3.length + ((rd_T42 t260 x16_3).f3).length < 5864062014805 then (supercargolaw19_OrderSums.l0 k3 t260 t264 t265 (x13_3 ++ ((rd_T42 t260 x16_3).f3)) (wrap64 (x15_3 + t271)) (wrap64 (x16_3 + 1)) a0_0 a0_1 a0_2 a0_3 a0_4 a0_5 a0_6 l0_7) else (none))) else (some false)) else (some false)) else (some false)) else (if ((rd_T42 t260 x16_3).f1) = (wrap64 (x16_3 + 1)) then (if ((rd_T42 t260 x16_3).f0).toList = a0_0.toList then (if (((rd_T42 t260 x16_3).f3).length : Int) = 0 then (some false) else (if x13_3.length + ((rd_T42 t260 x16_3).f3).length < 5864062014805 then (supercargolaw19_OrderSums.l0 k3 t260 t264 t265 (x13_3 ++ ((rd_T42 t260 x16_3).f3)) (wrap64 (x15_3 + t271)) (wrap64 (x16_3 + 1)) a0_0 a0_1 a0_2 a0_3 a0_4 a0_5 a0_6 l0_7) else (none))) else (some false)) else (some false))) = some r := H
have A37 := Aside0.mk A370
clear A370
by_cases c38 : t265 = 0
·(
rw [if_pos c38] at H
have c38b0 : (t265 == 0) = true := beq_iff_eq.mpr c38
have c38b1 : (t265 != 0) = false := bne_eq_false_iff_eq.mpr c38
clear c38
by_cases c39 : t272 = 0
·(
rw [if_pos c39] at H
have c39b0 : (t272 == 0) = true := beq_iff_eq.mpr c39
have c39b1 : (t272 != 0) = false := bne_eq_false_iff_eq.mpr c39
clear c39
by_cases c40 : ((rd_T42 t260 x16_3).f1) = (wrap64 (x16_3 + 1))
·(
rw [if_pos c40] at H
have c40b0 : (((rd_T42 t260 x16_3).f1) == (wrap64 (x16_3 + 1))) = true := beq_iff_eq.mpr c40
have c40b1 : (((rd_T42 t260 x16_3).f1) != (wrap64 (x16_3 + 1))) = false := bne_eq_false_iff_eq.mpr c40
clear c40
by_cases c41 : ((rd_T42 t260 x16_3).f0).toList = a0_0.toList
·(
rw [if_pos c41] at H
have c41b0 : (((rd_T42 t260 x16_3).f0).toList == a0_0.toList) = true := beq_iff_eq.mpr c41
have c41b1 : (((rd_T42 t260 x16_3).f0).toList != a0_0.toList) = false := bne_eq_false_iff_eq.mpr c41
clear c41
by_cases c42 : (((rd_T42 t260 x16_3).f3).length : Int) = 0
·(
rw [if_pos c42] at H
have c42b0 : ((((rd_T42 t260 x16_3).f3).length : Int) == 0) = true := beq_iff_eq.mpr c42
have c42b1 : ((((rd_T42 t260 x16_3).f3).length : Int) != 0) = false := bne_eq_false_iff_eq.mpr c42
clear c42
exact absurd (Option.some.inj H) (by rw [hT.out]; decide)
)
·(
rw [if_neg c42] at H
have c42b0 : ((((rd_T42 t260 x16_3).f3).length : Int) == 0) = false := beq_eq_false_iff_ne.mpr c42
have c42b1 : ((((rd_T42 t260 x16_3).f3).length : Int) != 0) = true := bne_iff_ne.mpr c42
have c42b2 : ¬ (((rd_T42 t260 x16_3).f3) = []) := fun h_ => c42 (by rw [h_]; rfl)
by_cases c43 : x13_3.length + ((rd_T42 t260 x16_3).f3).length < 5864062014805
·(
rw [if_pos c43] at H
have LMc43 := Aside0.mk c43
clear c43
obtain ⟨y277, hy277⟩ : ∃ y_ : List (S67), y_ = (x13_3 ++ ((rd_T42 t260 x16_3).f3)) := ⟨_, rfl⟩
replace H : (supercargolaw19_OrderSums.l0 k3 t260 t264 t265 y277 (wrap64 (x15_3 + t271)) (wrap64 (x16_3 + 1)) a0_0 a0_1 a0_2 a0_3 a0_4 a0_5 a0_6 l0_7) = some r := by first | (rw [hy277]; with_reducible exact H) | (have H2_ := (Option.bind_some _ _).symm.trans H; rw [hy277]; with_reducible exact H2_) | (have H2_ := (Option.bind_some _ _).symm.trans H; with_reducible exact H2_) | with_reducible exact H | (rw [hy277]; exact H) | exact H
have Ny277 := Aside0.mk hy277
clear hy277
have H' := Aside0.mk H
clear H
try go_wp2
have n0_ := Aside0.mk (Kd.S_drew HO_7.out)
have n1_ := Aside0.mk (Kd.R_drew HO_13.out)
have n2_ := Aside0.mk (blk_drew BK257.out)
have n3_ := Aside0.mk (below_drew1 HB.out)
clear HO_7
clear HO_13
clear BK257
clear HB
have HO_7 := n0_
have HO_13 := n1_
have BK257 := n2_
have HB := n3_
clear n0_ n1_ n2_ n3_
have p270 : 0 ≤ (x16_3 : Int) := of_decide_eq_true (by first | (with_reducible assumption) | assumption)
have q270 : x16_3 < (t260.length : Int) := of_decide_eq_true (by first | (with_reducible assumption) | assumption)
obtain ⟨ad270, A270_3, c270_3, e270, hx270_0, hx270_1, hx270_2, hx270_3, hl270_3, hi270_3⟩ := at_T42 (Kd.S_reads' HO_7.out).2.2 x16_3 p270 q270
cases e270
obtain ⟨ce270, hce270, hMe270, hcc270⟩ := Kd.S_get HO_7.out z42 x16_3 p270 (by first | exact q270 | exact of_decide_eq_true (by first | (with_reducible assumption) | assumption) | (have e_ := (Kd.S_reads' HO_7.out).1; omega))
obtain ⟨ve270_3, rfl, ge270_3⟩ := k42_openM hMe270
have hv270_3 := hcc270 3 _ rfl
rw [add_field _ _ 3 (by omega)] at hv270_3
replace hv270_3 := Option.some.inj (hv270_3.symm.trans hx270_3)
rw [hv270_3] at ge270_3
have HL270_3 := Aside0.mk (show Kd.R k67 67 _ _ _ _ ((rd_T42 t260 x16_3).f3) from ge270_3)
clear hv270_3 ge270_3
clear hcc270 hce270
have HR270_3 := Aside0.mk hi270_3
have HC270_3 := Aside0.mk hl270_3
clear hi270_3 hl270_3
replace p270 := eq_true p270
replace q270 := eq_true q270
refine start_ (n := 11) (S := fun w' => w'.cell? ⟨gb257, 0, none⟩ = some (.string a0_0) ∧ w'.cell? ⟨gb257, 1, none⟩ = some (.string a0_1) ∧ w'.cell? ⟨gb257, 2, none⟩ = some (.string a0_2) ∧ w'.cell? ⟨gb257, 3, none⟩ = some (.string a0_3) ∧ w'.cell? ⟨gb257, 4, none⟩ = some (.string a0_4) ∧ w'.cell? ⟨gb257, 5, none⟩ = some (.string a0_5) ∧ w'.cell? ⟨gb257, 6, none⟩ = some (.int .i64 a0_6) ∧ w'.cell? ⟨gb257, 7, none⟩ = some (.slice A0_7 l0_7.length c0_7) ∧ w'.cell? (ad270.add ((x16_3).toNat * 4)) = some (.string ((rd_T42 t260 x16_3).f0)) ∧ w'.cell? ⟨(ad270.add ((x16_3).toNat * 4)).block, (ad270.add ((x16_3).toNat * 4)).off + 1, none⟩ = some (.int .i64 ((rd_T42 t260 x16_3).f1)) ∧ w'.cell? ⟨(ad270.add ((x16_3).toNat * 4)).block, (ad270.add ((x16_3).toNat * 4)).off + 2, none⟩ = some (.int .i64 ((rd_T42 t260 x16_3).f2)) ∧ w'.cell? ⟨(ad270.add ((x16_3).toNat * 4)).block, (ad270.add ((x16_3).toNat * 4)).off + 3, none⟩ = some (.slice A270_3 ((rd_T42 t260 x16_3).f3).length c270_3)) (ds := []) #[F,F,F,F,F,F,F,F,F,F,F] (by kernel_rfl) rfl rfl ⟨(blk_cell BK257.out 0).trans rfl, (blk_cell BK257.out 1).trans rfl, (blk_cell BK257.out 2).trans rfl, (blk_cell BK257.out 3).trans rfl, (blk_cell BK257.out 4).trans rfl, (blk_cell BK257.out 5).trans rfl, (blk_cell BK257.out 6).trans rfl, (blk_cell BK257.out 7).trans rfl, hx270_0, hx270_1, hx270_2, hx270_3⟩ (fun hHeld => ?_); refine with_tabW supercargolaw19_OrderSums.tab17 supercargolaw19_OrderSums.bits17 (fun HT_ HW_ => ?_)
generalize wr.drew = w44 at HO_7 HO_13 BK257 HB HL270_3 HR270_3 hx270_0 hx270_1 hx270_2 hx270_3 hHeld ⊢
refine pure_ (i := 1) (N := some 80) (v := ?_) (a' := ?_) #[F,T,F,F,F,F,F,F,F,F,F] rfl rfl (any_of HT_.out (by kernel_rfl)) (fun _ _ _ h => h) (Or.inl ⟨by rfl, ?_⟩) ?_ ?_
rotate_left
·(
intro w'
go_simp
with_reducible rfl
)
rotate_left
·(
simp only [Act.put, List.setIfInBounds_toArray, List.set_cons_zero, List.set_cons_succ, i64_w, i32_w]
rfl
)
refine pure_ (i := 2) (N := some 81) (v := ?_) (a' := ?_) #[F,T,T,F,F,F,F,F,F,F,F] rfl rfl (any_of HT_.out (by kernel_rfl)) (fun _ _ _ h => h) (Or.inl ⟨by rfl, ?_⟩) ?_ ?_
rotate_left
·(
intro w'
go_simp
with_reducible rfl
)
rotate_left
·(
simp only [Act.put, List.setIfInBounds_toArray, List.set_cons_zero, List.set_cons_succ, i64_w, i32_w]
rfl
)
refine pure_ (i := 3) (N := some 82) (v := ?_) (a' := ?_) #[F,T,T,T,F,F,F,F,F,F,F] rfl rfl (any_of HT_.out (by kernel_rfl)) (fun _ _ _ h => h) (Or.inl ⟨by rfl, ?_⟩) ?_ ?_
rotate_left
·(
intro w'
go_simp
with_reducible rfl
)
rotate_left
·(
simp only [Act.put, List.setIfInBounds_toArray, List.set_cons_zero, List.set_cons_succ, i64_w, i32_w]
rfl
)
refine take_ (i := 0) (N := some 79) (v := ?_) (a' := ?_) #[T,T,T,T,F,F,F,F,F,F,F] rfl rfl (take_ofW HT_.out HW_.out (by kernel_rfl)) (fun _ _ _ h => h) (Or.inl ⟨by rfl, ?_⟩) hHeld ?_ ?_
rotate_left
·(
rintro w' ⟨s0, s1, s2, s3, s4, s5, s6, s7, s8, s9, s10, s11⟩
go_simp
with_reducible rfl
)
rotate_left
·(
simp only [Act.put, List.setIfInBounds_toArray, List.set_cons_zero, List.set_cons_succ, i64_w, i32_w]
rfl
)
refine take_ (i := 4) (N := some 83) (v := ?_) (a' := ?_) #[T,T,T,T,T,F,F,F,F,F,F] rfl rfl (take_ofW HT_.out HW_.out (by kernel_rfl)) (fun _ _ _ h => h) (Or.inl ⟨by rfl, ?_⟩) hHeld ?_ ?_
rotate_left
·(
rintro w' ⟨s0, s1, s2, s3, s4, s5, s6, s7, s8, s9, s10, s11⟩
go_simp
with_reducible rfl
)
rotate_left
·(
simp only [Act.put, List.setIfInBounds_toArray, List.set_cons_zero, List.set_cons_succ, i64_w, i32_w]
rfl
)
refine one_ (i := 5) (N := some 84) #[T,T,T,T,T,T,F,F,F,F,F] rfl rfl (one_of HT_.out (by kernel_rfl)) (by decide) (fun K hK => ?_)
refine goes_ Try.func31 (by kernel_rfl) rfl #[.agg #[.string a0_0, .string a0_1, .string a0_2, .string a0_3, .string a0_4, .string a0_5, .int .i64 a0_6, .slice A0_7 l0_7.length c0_7], .agg #[.string ((rd_T42 t260 x16_3).f0), .int .i64 ((rd_T42 t260 x16_3).f1), .int .i64 ((rd_T42 t260 x16_3).f2), .slice A270_3 ((rd_T42 t260 x16_3).f3).length c270_3]] (by rfl) rfl rfl (by (try simp only [List.map_toArray, List.map_cons, List.map_nil]); first | done | rfl | (simp only [List.length_drop, List.length_take]; rfl)) ?_
with_reducible refine (order_Value.calls k3 a0_0 a0_1 a0_2 a0_3 a0_4 a0_5 a0_6 _ _ l0_7 ((rd_T42 t260 x16_3).f0) ((rd_T42 t260 x16_3).f1) ((rd_T42 t260 x16_3).f2) _ _ ((rd_T42 t260 x16_3).f3) t271 t272 _ ?side1 ?side2 ?side3 ?side4 A37.out).mono ?_
(case side1 => repeat (first | exact (Kd.C_below HR0_7.out HB.out) | (with_reducible refine Kd.C_alloc ?_ _) | (with_reducible refine Kd.C_drewN ?_ _) | (with_reducible refine Kd.C_drew ?_)))
(case side2 => exact HC0_7.out)
(case side3 => repeat (first | exact (by repeat (first | (with_reducible exact HR270_3.out) | (with_reducible refine Kd.C_alloc ?_ _) | (with_reducible refine Kd.C_drewN ?_ _) | (with_reducible refine Kd.C_drew ?_) | exact HR270_3.out)) | (with_reducible refine Kd.C_alloc ?_ _) | (with_reducible refine Kd.C_drewN ?_ _) | (with_reducible refine Kd.C_drew ?_)))
(case side4 => exact HC270_3.out)
rintro e w45 ⟨rfl, hb⟩
have HS8_ := (hb.cell (World.block_lt_of_cell? _ _ (hHeld.2.2.2.2.2.2.2.2.1))).trans (hHeld.2.2.2.2.2.2.2.2.1)
have HS9_ := (hb.cell (World.block_lt_of_cell? _ _ (hHeld.2.2.2.2.2.2.2.2.2.1))).trans (hHeld.2.2.2.2.2.2.2.2.2.1)
have HS10_ := (hb.cell (World.block_lt_of_cell? _ _ (hHeld.2.2.2.2.2.2.2.2.2.2.1))).trans (hHeld.2.2.2.2.2.2.2.2.2.2.1)
have HS11_ := (hb.cell (World.block_lt_of_cell? _ _ (hHeld.2.2.2.2.2.2.2.2.2.2.2))).trans (hHeld.2.2.2.2.2.2.2.2.2.2.2)
refine ⟨_, rfl, ?_⟩
have n0_ := Aside0.mk (Kd.S_below (by (with_reducible repeat (first | apply Kd.S_alloc | apply Kd.S_drewN | apply Kd.S_drew)); exact HO_7.out) hb)
have n1_ := Aside0.mk (Kd.R_below (by (with_reducible repeat (first | apply Kd.R_alloc | apply Kd.R_drewN | apply Kd.R_drew)); exact HO_13.out) hb)
have n2_ := Aside0.mk (Kd.R_below (by (with_reducible repeat (first | apply Kd.R_alloc | apply Kd.R_drewN | apply Kd.R_drew)); exact HL270_3.out) hb)
have n3_ := Aside0.mk (blk_below (g := gb257) (o := .cells #[.string a0_0, .string a0_1, .string a0_2, .string a0_3, .string a0_4, .string a0_5, .int .i64 a0_6, .slice A0_7 l0_7.length c0_7] 24 (0, 0)) (by (with_reducible repeat (first | refine blk_drewN ?_ _ | refine blk_drew ?_ | refine blk_alloc ?_ _)); exact BK257.out) hb)
have n4_ := Aside0.mk (Kd.C_below (by repeat (first | (with_reducible exact HR270_3.out) | (with_reducible refine Kd.C_alloc ?_ _) | (with_reducible refine Kd.C_drewN ?_ _) | (with_reducible refine Kd.C_drew ?_) | exact HR270_3.out)) hb)
have n5_ := Aside0.mk (below_step (by repeat (first | (with_reducible first | exact HB.out | apply below_alloc | apply pw_below_drewN | apply below_drew1 | refine below_set ?_ GE257.out) | exact HB.out)) hb)
clear HO_7
clear HO_13
clear HL270_3
clear BK257
clear HR270_3
clear HB
have HO_7 := n0_
have HO_13 := n1_
have HL270_3 := n2_
have BK257 := n3_
have HR270_3 := n4_
have HB := n5_
clear n0_ n1_ n2_ n3_ n4_ n5_
(try clear hb)
(try clear hb2)
(try clear hk)
(try clear hi)
refine hK.out _ _ ⟨(blk_cell BK257.out 0).trans rfl, (blk_cell BK257.out 1).trans rfl, (blk_cell BK257.out 2).trans rfl, (blk_cell BK257.out 3).trans rfl, (blk_cell BK257.out 4).trans rfl, (blk_cell BK257.out 5).trans rfl, (blk_cell BK257.out 6).trans rfl, (blk_cell BK257.out 7).trans rfl, HS8_, HS9_, HS10_, HS11_⟩ (fun hHeld => ?_)
clear hK K
refine norm_ (a' := ?_) ?_ ?_
rotate_left
·(
show Act.put _ (some 84) _ = _
simp only [Act.put, List.setIfInBounds_toArray, List.set_cons_zero, List.set_cons_succ, i64_w, i32_w]
rfl
)
refine pure_ (i := 6) (N := some 78) (v := ?_) (a' := ?_) #[T,T,T,T,T,T,T,F,F,F,F] rfl rfl (any_of HT_.out (by kernel_rfl)) (fun _ _ _ h => h) (Or.inl ⟨by rfl, ?_⟩) ?_ ?_
rotate_left
·(
intro w'
go_simp
with_reducible rfl
)
rotate_left
·(
simp only [Act.put, List.setIfInBounds_toArray, List.set_cons_zero, List.set_cons_succ, i64_w, i32_w]
rfl
)
refine pure_ (i := 7) (N := some 85) (v := ?_) (a' := ?_) #[T,T,T,T,T,T,T,T,F,F,F] rfl rfl (any_of HT_.out (by kernel_rfl)) (fun _ _ _ h => h) (Or.inl ⟨by rfl, ?_⟩) ?_ ?_
rotate_left
·(
intro w'
go_simp
with_reducible rfl
)
rotate_left
·(
simp only [Act.put, List.setIfInBounds_toArray, List.set_cons_zero, List.set_cons_succ, i64_w, i32_w]
rfl
)
refine pure_ (i := 8) (N := some 86) (v := ?_) (a' := ?_) #[T,T,T,T,T,T,T,T,T,F,F] rfl rfl (any_of HT_.out (by kernel_rfl)) (fun _ _ _ h => h) (Or.inl ⟨by rfl, ?_⟩) ?_ ?_
rotate_left
·(
intro w'
go_simp
with_reducible rfl
)
rotate_left
·(
simp only [Act.put, List.setIfInBounds_toArray, List.set_cons_zero, List.set_cons_succ, i64_w, i32_w]
rfl
)
refine pure_ (i := 9) (N := some 17) (v := ?_) (a' := ?_) #[T,T,T,T,T,T,T,T,T,T,F] rfl rfl (any_of HT_.out (by kernel_rfl)) (fun _ _ _ h => h) (Or.inl ⟨by rfl, ?_⟩) ?_ ?_
rotate_left
·(
intro w'
go_simp
with_reducible rfl
)
rotate_left
·(
simp only [Act.put, List.setIfInBounds_toArray, List.set_cons_zero, List.set_cons_succ, i64_w, i32_w]
rfl
)
refine pure_ (i := 10) (N := some 18) (v := ?_) (a' := ?_) #[T,T,T,T,T,T,T,T,T,T,T] rfl rfl (any_of HT_.out (by kernel_rfl)) (fun _ _ _ h => h) (Or.inl ⟨by rfl, ?_⟩) ?_ ?_
rotate_left
·(
intro w'
go_simp
with_reducible rfl
)
rotate_left
·(
simp only [Act.put, List.setIfInBounds_toArray, List.set_cons_zero, List.set_cons_succ, i64_w, i32_w]
rfl
)
refine done_ (done_of HT_.out (by kernel_rfl)) ?_
try go_wp2
have n0_ := Aside0.mk (Kd.S_drew HO_7.out)
have n1_ := Aside0.mk (Kd.R_drew HO_13.out)
have n2_ := Aside0.mk (Kd.R_drew HL270_3.out)
have n3_ := Aside0.mk (blk_drew BK257.out)
have n4_ := Aside0.mk (Kd.C_drew HR270_3.out)
have n5_ := Aside0.mk (below_drew1 HB.out)
clear HO_7
clear HO_13
clear HL270_3
clear BK257
clear HR270_3
clear HB
have HO_7 := n0_
have HO_13 := n1_
have HL270_3 := n2_
have BK257 := n3_
have HR270_3 := n4_
have HB := n5_
clear n0_ n1_ n2_ n3_ n4_ n5_
have p273 : 0 ≤ (x16_3 : Int) := of_decide_eq_true (by first | (with_reducible assumption) | assumption)
have q273 : x16_3 < (t260.length : Int) := of_decide_eq_true (by first | (with_reducible assumption) | assumption)
obtain ⟨ad273, A273_3, c273_3, e273, hx273_0, hx273_1, hx273_2, hx273_3, hl273_3, hi273_3⟩ := at_T42 (Kd.S_reads' HO_7.out).2.2 x16_3 p273 q273
obtain rfl : ad270 = ad273 := (by injection e273)
obtain ⟨ce273, hce273, hMe273, hcc273⟩ := Kd.S_get HO_7.out z42 x16_3 p273 (by first | exact q273 | exact of_decide_eq_true (by first | (with_reducible assumption) | assumption) | (have e_ := (Kd.S_reads' HO_7.out).1; omega))
obtain ⟨ve273_3, rfl, ge273_3⟩ := k42_openM hMe273
have hv273_3 := hcc273 3 _ rfl
rw [add_field _ _ 3 (by omega)] at hv273_3
replace hv273_3 := Option.some.inj (hv273_3.symm.trans hx273_3)
rw [hv273_3] at ge273_3
have HL273_3 := Aside0.mk (show Kd.R k67 67 _ _ _ _ ((rd_T42 t260 x16_3).f3) from ge273_3)
clear hv273_3 ge273_3
clear hcc273 hce273
have HR273_3 := Aside0.mk hi273_3
have HC273_3 := Aside0.mk hl273_3
clear hi273_3 hl273_3
replace p273 := eq_true p273
replace q273 := eq_true q273
have p274 : 0 ≤ (x16_3 : Int) := of_decide_eq_true (by first | (with_reducible assumption) | assumption)
have q274 : x16_3 < (t260.length : Int) := of_decide_eq_true (by first | (with_reducible assumption) | assumption)
obtain ⟨ad274, A274_3, c274_3, e274, hx274_0, hx274_1, hx274_2, hx274_3, hl274_3, hi274_3⟩ := at_T42 (Kd.S_reads' HO_7.out).2.2 x16_3 p274 q274
obtain rfl : ad270 = ad274 := (by injection e274)
obtain ⟨ce274, hce274, hMe274, hcc274⟩ := Kd.S_get HO_7.out z42 x16_3 p274 (by first | exact q274 | exact of_decide_eq_true (by first | (with_reducible assumption) | assumption) | (have e_ := (Kd.S_reads' HO_7.out).1; omega))
obtain ⟨ve274_3, rfl, ge274_3⟩ := k42_openM hMe274
have hv274_3 := hcc274 3 _ rfl
rw [add_field _ _ 3 (by omega)] at hv274_3
replace hv274_3 := Option.some.inj (hv274_3.symm.trans hx274_3)
rw [hv274_3] at ge274_3
have HL274_3 := Aside0.mk (show Kd.R k67 67 _ _ _ _ ((rd_T42 t260 x16_3).f3) from ge274_3)
clear hv274_3 ge274_3
clear hcc274 hce274
have HR274_3 := Aside0.mk hi274_3
have HC274_3 := Aside0.mk hl274_3
clear hi274_3 hl274_3
replace p274 := eq_true p274
replace q274 := eq_true q274
have ea_ := Option.some.inj (hx273_3.symm.trans hx274_3)
injection ea_ with ea_ en_ ec_
subst ea_
subst ec_
clear en_
have p275 : 0 ≤ (x16_3 : Int) := of_decide_eq_true (by first | (with_reducible assumption) | assumption)
have q275 : x16_3 < (t260.length : Int) := of_decide_eq_true (by first | (with_reducible assumption) | assumption)
obtain ⟨ad275, A275_3, c275_3, e275, hx275_0, hx275_1, hx275_2, hx275_3, hl275_3, hi275_3⟩ := at_T42 (Kd.S_reads' HO_7.out).2.2 x16_3 p275 q275
obtain rfl : ad270 = ad275 := (by injection e275)
obtain ⟨ce275, hce275, hMe275, hcc275⟩ := Kd.S_get HO_7.out z42 x16_3 p275 (by first | exact q275 | exact of_decide_eq_true (by first | (with_reducible assumption) | assumption) | (have e_ := (Kd.S_reads' HO_7.out).1; omega))
obtain ⟨ve275_3, rfl, ge275_3⟩ := k42_openM hMe275
have hv275_3 := hcc275 3 _ rfl
rw [add_field _ _ 3 (by omega)] at hv275_3
replace hv275_3 := Option.some.inj (hv275_3.symm.trans hx275_3)
rw [hv275_3] at ge275_3
have HL275_3 := Aside0.mk (show Kd.R k67 67 _ _ _ _ ((rd_T42 t260 x16_3).f3) from ge275_3)
clear hv275_3 ge275_3
clear hcc275 hce275
have HR275_3 := Aside0.mk hi275_3
have HC275_3 := Aside0.mk hl275_3
clear hi275_3 hl275_3
replace p275 := eq_true p275
replace q275 := eq_true q275
have ea_ := Option.some.inj (hx273_3.symm.trans hx275_3)
injection ea_ with ea_ en_ ec_
subst ea_
subst ec_
clear en_
refine start_ (n := 35) (S := fun w' => w'.cell? ⟨gb257, 0, none⟩ = some (.string a0_0) ∧ w'.cell? ⟨gb257, 1, none⟩ = some (.string a0_1) ∧ w'.cell? ⟨gb257, 2, none⟩ = some (.string a0_2) ∧ w'.cell? ⟨gb257, 3, none⟩ = some (.string a0_3) ∧ w'.cell? ⟨gb257, 4, none⟩ = some (.string a0_4) ∧ w'.cell? ⟨gb257, 5, none⟩ = some (.string a0_5) ∧ w'.cell? ⟨gb257, 6, none⟩ = some (.int .i64 a0_6) ∧ w'.cell? ⟨gb257, 7, none⟩ = some (.slice A0_7 l0_7.length c0_7) ∧ w'.cell? (ad270.add ((x16_3).toNat * 4)) = some (.string ((rd_T42 t260 x16_3).f0)) ∧ w'.cell? ⟨(ad270.add ((x16_3).toNat * 4)).block, (ad270.add ((x16_3).toNat * 4)).off + 1, none⟩ = some (.int .i64 ((rd_T42 t260 x16_3).f1)) ∧ w'.cell? ⟨(ad270.add ((x16_3).toNat * 4)).block, (ad270.add ((x16_3).toNat * 4)).off + 2, none⟩ = some (.int .i64 ((rd_T42 t260 x16_3).f2)) ∧ w'.cell? ⟨(ad270.add ((x16_3).toNat * 4)).block, (ad270.add ((x16_3).toNat * 4)).off + 3, none⟩ = some (.slice A273_3 ((rd_T42 t260 x16_3).f3).length c273_3) ∧ w'.cell? (ad270.add ((x16_3).toNat * 4)) = some (.string ((rd_T42 t260 x16_3).f0)) ∧ w'.cell? ⟨(ad270.add ((x16_3).toNat * 4)).block, (ad270.add ((x16_3).toNat * 4)).off + 1, none⟩ = some (.int .i64 ((rd_T42 t260 x16_3).f1)) ∧ w'.cell? ⟨(ad270.add ((x16_3).toNat * 4)).block, (ad270.add ((x16_3).toNat * 4)).off + 2, none⟩ = some (.int .i64 ((rd_T42 t260 x16_3).f2)) ∧ w'.cell? ⟨(ad270.add ((x16_3).toNat * 4)).block, (ad270.add ((x16_3).toNat * 4)).off + 3, none⟩ = some (.slice A273_3 ((rd_T42 t260 x16_3).f3).length c273_3) ∧ w'.cell? (ad270.add ((x16_3).toNat * 4)) = some (.string ((rd_T42 t260 x16_3).f0)) ∧ w'.cell? ⟨(ad270.add ((x16_3).toNat * 4)).block, (ad270.add ((x16_3).toNat * 4)).off + 1, none⟩ = some (.int .i64 ((rd_T42 t260 x16_3).f1)) ∧ w'.cell? ⟨(ad270.add ((x16_3).toNat * 4)).block, (ad270.add ((x16_3).toNat * 4)).off + 2, none⟩ = some (.int .i64 ((rd_T42 t260 x16_3).f2)) ∧ w'.cell? ⟨(ad270.add ((x16_3).toNat * 4)).block, (ad270.add ((x16_3).toNat * 4)).off + 3, none⟩ = some (.slice A273_3 ((rd_T42 t260 x16_3).f3).length c273_3)) (ds := []) #[F,F,F,F,F,F,F,F,F,F,F,F,F,F,F,F,F,F,F,F,F,F,F,F,F,F,F,F,F,F,F,F,F,F,F] (by kernel_rfl) rfl rfl ⟨(blk_cell BK257.out 0).trans rfl, (blk_cell BK257.out 1).trans rfl, (blk_cell BK257.out 2).trans rfl, (blk_cell BK257.out 3).trans rfl, (blk_cell BK257.out 4).trans rfl, (blk_cell BK257.out 5).trans rfl, (blk_cell BK257.out 6).trans rfl, (blk_cell BK257.out 7).trans rfl, hx273_0, hx273_1, hx273_2, hx273_3, hx274_0, hx274_1, hx274_2, hx274_3, hx275_0, hx275_1, hx275_2, hx275_3⟩ (fun hHeld => ?_); refine with_tabW supercargolaw19_OrderSums.tab18 supercargolaw19_OrderSums.bits18 (fun HT_ HW_ => ?_)
generalize w45.drew = w46 at HO_7 HO_13 HL270_3 BK257 HR270_3 HB HL273_3 HL274_3 HL275_3 HR273_3 HR274_3 HR275_3 hx273_0 hx273_1 hx273_2 hx273_3 hx274_0 hx274_1 hx274_2 hx274_3 hx275_0 hx275_1 hx275_2 hx275_3 hHeld ⊢
refine pure_ (i := 0) (N := some 87) (v := ?_) (a' := ?_) #[T,F,F,F,F,F,F,F,F,F,F,F,F,F,F,F,F,F,F,F,F,F,F,F,F,F,F,F,F,F,F,F,F,F,F] rfl rfl (any_of HT_.out (by kernel_rfl)) (fun _ _ _ h => h) (Or.inl ⟨by rfl, ?_⟩) ?_ ?_
rotate_left
·(
intro w'
go_simp
with_reducible rfl
)
rotate_left
·(
simp only [Act.put, List.setIfInBounds_toArray, List.set_cons_zero, List.set_cons_succ, i64_w, i32_w]
rfl
)
refine pure_ (i := 1) (N := some 88) (v := ?_) (a' := ?_) #[T,T,F,F,F,F,F,F,F,F,F,F,F,F,F,F,F,F,F,F,F,F,F,F,F,F,F,F,F,F,F,F,F,F,F] rfl rfl (any_of HT_.out (by kernel_rfl)) (fun _ _ _ h => h) (Or.inl ⟨by rfl, ?_⟩) ?_ ?_
rotate_left
·(
intro w'
go_simp
with_reducible rfl
)
rotate_left
·(
simp only [Act.put, List.setIfInBounds_toArray, List.set_cons_zero, List.set_cons_succ, i64_w, i32_w]
rfl
)
refine pure_ (i := 2) (N := some 89) (v := ?_) (a' := ?_) #[T,T,T,F,F,F,F,F,F,F,F,F,F,F,F,F,F,F,F,F,F,F,F,F,F,F,F,F,F,F,F,F,F,F,F] rfl rfl (any_of HT_.out (by kernel_rfl)) (fun _ _ _ h => h) (Or.inl ⟨by rfl, ?_⟩) ?_ ?_
rotate_left
·(
intro w'
go_simp
with_reducible rfl
)
rotate_left
·(
simp only [Act.put, List.setIfInBounds_toArray, List.set_cons_zero, List.set_cons_succ, i64_w, i32_w]
rfl
)
refine pure_ (i := 3) (N := some 90) (v := ?_) (a' := ?_) #[T,T,T,T,F,F,F,F,F,F,F,F,F,F,F,F,F,F,F,F,F,F,F,F,F,F,F,F,F,F,F,F,F,F,F] rfl rfl (any_of HT_.out (by kernel_rfl)) (fun _ _ _ h => h) (Or.inl ⟨by rfl, ?_⟩) ?_ ?_
rotate_left
·(
intro w'
go_simp
with_reducible rfl
)
rotate_left
·(
simp only [Act.put, List.setIfInBounds_toArray, List.set_cons_zero, List.set_cons_succ, i64_w, i32_w]
rfl
)
refine pure_ (i := 4) (N := some 91) (v := ?_) (a' := ?_) #[T,T,T,T,T,F,F,F,F,F,F,F,F,F,F,F,F,F,F,F,F,F,F,F,F,F,F,F,F,F,F,F,F,F,F] rfl rfl (any_of HT_.out (by kernel_rfl)) (fun _ _ _ h => h) (Or.inl ⟨by rfl, ?_⟩) ?_ ?_
rotate_left
·(
intro w'
go_simp
with_reducible rfl
)
rotate_left
·(
simp only [Act.put, List.setIfInBounds_toArray, List.set_cons_zero, List.set_cons_succ, i64_w, i32_w]
rfl
)
refine pure_ (i := 5) (N := some 92) (v := ?_) (a' := ?_) #[T,T,T,T,T,T,F,F,F,F,F,F,F,F,F,F,F,F,F,F,F,F,F,F,F,F,F,F,F,F,F,F,F,F,F] rfl rfl (any_of HT_.out (by kernel_rfl)) (fun _ _ _ h => h) (Or.inl ⟨by rfl, ?_⟩) ?_ ?_
rotate_left
·(
intro w'
go_simp
with_reducible rfl
)
rotate_left
·(
simp only [Act.put, List.setIfInBounds_toArray, List.set_cons_zero, List.set_cons_succ, i64_w, i32_w]
rfl
)
refine pure_ (i := 6) (N := some 93) (v := ?_) (a' := ?_) #[T,T,T,T,T,T,T,F,F,F,F,F,F,F,F,F,F,F,F,F,F,F,F,F,F,F,F,F,F,F,F,F,F,F,F] rfl rfl (any_of HT_.out (by kernel_rfl)) (fun _ _ _ h => h) (Or.inl ⟨by rfl, ?_⟩) ?_ ?_
rotate_left
·(
intro w'
go_simp
with_reducible rfl
)
rotate_left
·(
simp only [Act.put, List.setIfInBounds_toArray, List.set_cons_zero, List.set_cons_succ, i64_w, i32_w]
rfl
)
refine pure_ (i := 7) (N := some 94) (v := ?_) (a' := ?_) #[T,T,T,T,T,T,T,T,F,F,F,F,F,F,F,F,F,F,F,F,F,F,F,F,F,F,F,F,F,F,F,F,F,F,F] rfl rfl (any_of HT_.out (by kernel_rfl)) (fun _ _ _ h => h) (Or.inl ⟨by rfl, ?_⟩) ?_ ?_
rotate_left
·(
intro w'
go_simp
with_reducible rfl
)
rotate_left
·(
simp only [Act.put, List.setIfInBounds_toArray, List.set_cons_zero, List.set_cons_succ, i64_w, i32_w]
rfl
)
refine pure_ (i := 8) (N := some 95) (v := ?_) (a' := ?_) #[T,T,T,T,T,T,T,T,T,F,F,F,F,F,F,F,F,F,F,F,F,F,F,F,F,F,F,F,F,F,F,F,F,F,F] rfl rfl (any_of HT_.out (by kernel_rfl)) (fun _ _ _ h => h) (Or.inl ⟨by rfl, ?_⟩) ?_ ?_
rotate_left
·(
intro w'
go_simp
with_reducible rfl
)
rotate_left
·(
simp only [Act.put, List.setIfInBounds_toArray, List.set_cons_zero, List.set_cons_succ, i64_w, i32_w]
rfl
)
refine pure_ (i := 9) (N := some 96) (v := ?_) (a' := ?_) #[T,T,T,T,T,T,T,T,T,T,F,F,F,F,F,F,F,F,F,F,F,F,F,F,F,F,F,F,F,F,F,F,F,F,F] rfl rfl (any_of HT_.out (by kernel_rfl)) (fun _ _ _ h => h) (Or.inl ⟨by rfl, ?_⟩) ?_ ?_
rotate_left
·(
intro w'
go_simp
with_reducible rfl
)
rotate_left
·(
simp only [Act.put, List.setIfInBounds_toArray, List.set_cons_zero, List.set_cons_succ, i64_w, i32_w]
rfl
)
refine pure_ (i := 10) (N := some 97) (v := ?_) (a' := ?_) #[T,T,T,T,T,T,T,T,T,T,T,F,F,F,F,F,F,F,F,F,F,F,F,F,F,F,F,F,F,F,F,F,F,F,F] rfl rfl (any_of HT_.out (by kernel_rfl)) (fun _ _ _ h => h) (Or.inl ⟨by rfl, ?_⟩) ?_ ?_
rotate_left
·(
intro w'
go_simp
with_reducible rfl
)
rotate_left
·(
simp only [Act.put, List.setIfInBounds_toArray, List.set_cons_zero, List.set_cons_succ, i64_w, i32_w]
rfl
)
refine pure_ (i := 12) (N := some 99) (v := ?_) (a' := ?_) #[T,T,T,T,T,T,T,T,T,T,T,F,T,F,F,F,F,F,F,F,F,F,F,F,F,F,F,F,F,F,F,F,F,F,F] rfl rfl (any_of HT_.out (by kernel_rfl)) (fun _ _ _ h => h) (Or.inl ⟨by rfl, ?_⟩) ?_ ?_
rotate_left
·(
intro w'
go_simp
with_reducible rfl
)
rotate_left
·(
simp only [Act.put, List.setIfInBounds_toArray, List.set_cons_zero, List.set_cons_succ, i64_w, i32_w]
rfl
)
refine pure_ (i := 13) (N := some 100) (v := ?_) (a' := ?_) #[T,T,T,T,T,T,T,T,T,T,T,F,T,T,F,F,F,F,F,F,F,F,F,F,F,F,F,F,F,F,F,F,F,F,F] rfl rfl (any_of HT_.out (by kernel_rfl)) (fun _ _ _ h => h) (Or.inl ⟨by rfl, ?_⟩) ?_ ?_
rotate_left
·(
intro w'
go_simp
with_reducible rfl
)
rotate_left
·(
simp only [Act.put, List.setIfInBounds_toArray, List.set_cons_zero, List.set_cons_succ, i64_w, i32_w]
rfl
)
refine take_ (i := 11) (N := some 98) (v := ?_) (a' := ?_) #[T,T,T,T,T,T,T,T,T,T,T,T,T,T,F,F,F,F,F,F,F,F,F,F,F,F,F,F,F,F,F,F,F,F,F] rfl rfl (take_ofW HT_.out HW_.out (by kernel_rfl)) (fun _ _ _ h => h) (Or.inl ⟨by rfl, ?_⟩) hHeld ?_ ?_
rotate_left
·(
rintro w' ⟨s0, s1, s2, s3, s4, s5, s6, s7, s8, s9, s10, s11, s12, s13, s14, s15, s16, s17, s18, s19⟩
go_simp
with_reducible rfl
)
rotate_left
·(
simp only [Act.put, List.setIfInBounds_toArray, List.set_cons_zero, List.set_cons_succ, i64_w, i32_w]
rfl
)
refine pure_ (i := 14) (N := some 101) (v := ?_) (a' := ?_) #[T,T,T,T,T,T,T,T,T,T,T,T,T,T,T,F,F,F,F,F,F,F,F,F,F,F,F,F,F,F,F,F,F,F,F] rfl rfl (any_of HT_.out (by kernel_rfl)) (fun _ _ _ h => h) (Or.inl ⟨by rfl, ?_⟩) ?_ ?_
rotate_left
·(
intro w'
go_simp
with_reducible rfl
)
rotate_left
·(
simp only [Act.put, List.setIfInBounds_toArray, List.set_cons_zero, List.set_cons_succ, i64_w, i32_w]
rfl
)
refine pure_ (i := 15) (N := some 102) (v := ?_) (a' := ?_) #[T,T,T,T,T,T,T,T,T,T,T,T,T,T,T,T,F,F,F,F,F,F,F,F,F,F,F,F,F,F,F,F,F,F,F] rfl rfl (any_of HT_.out (by kernel_rfl)) (fun _ _ _ h => h) (Or.inl ⟨by rfl, ?_⟩) ?_ ?_
rotate_left
·(
intro w'
go_simp
with_reducible rfl
)
rotate_left
·(
simp only [Act.put, List.setIfInBounds_toArray, List.set_cons_zero, List.set_cons_succ, i64_w, i32_w]
rfl
)
refine pure_ (i := 16) (N := some 103) (v := ?_) (a' := ?_) #[T,T,T,T,T,T,T,T,T,T,T,T,T,T,T,T,T,F,F,F,F,F,F,F,F,F,F,F,F,F,F,F,F,F,F] rfl rfl (any_of HT_.out (by kernel_rfl)) (fun _ _ _ h => h) (Or.inl ⟨by rfl, ?_⟩) ?_ ?_
rotate_left
·(
intro w'
go_simp
with_reducible rfl
)
rotate_left
·(
simp only [Act.put, List.setIfInBounds_toArray, List.set_cons_zero, List.set_cons_succ, i64_w, i32_w]
rfl
)
refine pure_ (i := 17) (N := some 104) (v := ?_) (a' := ?_) #[T,T,T,T,T,T,T,T,T,T,T,T,T,T,T,T,T,T,F,F,F,F,F,F,F,F,F,F,F,F,F,F,F,F,F] rfl rfl (any_of HT_.out (by kernel_rfl)) (fun _ _ _ h => h) (Or.inl ⟨by rfl, ?_⟩) ?_ ?_
rotate_left
·(
intro w'
go_simp
with_reducible rfl
)
rotate_left
·(
simp only [Act.put, List.setIfInBounds_toArray, List.set_cons_zero, List.set_cons_succ, i64_w, i32_w]
rfl
)
refine pure_ (i := 18) (N := some 105) (v := ?_) (a' := ?_) #[T,T,T,T,T,T,T,T,T,T,T,T,T,T,T,T,T,T,T,F,F,F,F,F,F,F,F,F,F,F,F,F,F,F,F] rfl rfl (any_of HT_.out (by kernel_rfl)) (fun _ _ _ h => h) (Or.inl ⟨by rfl, ?_⟩) ?_ ?_
rotate_left
·(
intro w'
go_simp
with_reducible rfl
)
rotate_left
·(
simp only [Act.put, List.setIfInBounds_toArray, List.set_cons_zero, List.set_cons_succ, i64_w, i32_w]
rfl
)
refine pure_ (i := 19) (N := some 106) (v := ?_) (a' := ?_) #[T,T,T,T,T,T,T,T,T,T,T,T,T,T,T,T,T,T,T,T,F,F,F,F,F,F,F,F,F,F,F,F,F,F,F] rfl rfl (any_of HT_.out (by kernel_rfl)) (fun _ _ _ h => h) (Or.inl ⟨by rfl, ?_⟩) ?_ ?_
rotate_left
·(
intro w'
go_simp
with_reducible rfl
)
rotate_left
·(
simp only [Act.put, List.setIfInBounds_toArray, List.set_cons_zero, List.set_cons_succ, i64_w, i32_w]
rfl
)
refine pure_ (i := 20) (N := some 107) (v := ?_) (a' := ?_) #[T,T,T,T,T,T,T,T,T,T,T,T,T,T,T,T,T,T,T,T,T,F,F,F,F,F,F,F,F,F,F,F,F,F,F] rfl rfl (any_of HT_.out (by kernel_rfl)) (fun _ _ _ h => h) (Or.inl ⟨by rfl, ?_⟩) ?_ ?_
rotate_left
·(
intro w'
go_simp
with_reducible rfl
)
rotate_left
·(
simp only [Act.put, List.setIfInBounds_toArray, List.set_cons_zero, List.set_cons_succ, i64_w, i32_w]
rfl
)
refine pure_ (i := 22) (N := some 109) (v := ?_) (a' := ?_) #[T,T,T,T,T,T,T,T,T,T,T,T,T,T,T,T,T,T,T,T,T,F,T,F,F,F,F,F,F,F,F,F,F,F,F] rfl rfl (any_of HT_.out (by kernel_rfl)) (fun _ _ _ h => h) (Or.inl ⟨by rfl, ?_⟩) ?_ ?_
rotate_left
·(
intro w'
go_simp
with_reducible rfl
)
rotate_left
·(
simp only [Act.put, List.setIfInBounds_toArray, List.set_cons_zero, List.set_cons_succ, i64_w, i32_w]
rfl
)
refine take_ (i := 21) (N := some 108) (v := ?_) (a' := ?_) #[T,T,T,T,T,T,T,T,T,T,T,T,T,T,T,T,T,T,T,T,T,T,T,F,F,F,F,F,F,F,F,F,F,F,F] rfl rfl (take_ofW HT_.out HW_.out (by kernel_rfl)) (fun _ _ _ h => h) (Or.inl ⟨by rfl, ?_⟩) hHeld ?_ ?_
rotate_left
·(
rintro w' ⟨s0, s1, s2, s3, s4, s5, s6, s7, s8, s9, s10, s11, s12, s13, s14, s15, s16, s17, s18, s19⟩
go_simp
with_reducible rfl
)
rotate_left
·(
simp only [Act.put, List.setIfInBounds_toArray, List.set_cons_zero, List.set_cons_succ, i64_w, i32_w]
rfl
)
refine take_ (i := 23) (N := some 110) (v := ?_) (a' := ?_) #[T,T,T,T,T,T,T,T,T,T,T,T,T,T,T,T,T,T,T,T,T,T,T,T,F,F,F,F,F,F,F,F,F,F,F] rfl rfl (take_ofW HT_.out HW_.out (by kernel_rfl)) (fun _ _ _ h => h) (Or.inl ⟨by rfl, ?_⟩) hHeld ?_ ?_
rotate_left
·(
rintro w' ⟨s0, s1, s2, s3, s4, s5, s6, s7, s8, s9, s10, s11, s12, s13, s14, s15, s16, s17, s18, s19⟩
go_simp
with_reducible rfl
)
rotate_left
·(
simp only [Act.put, List.setIfInBounds_toArray, List.set_cons_zero, List.set_cons_succ, i64_w, i32_w]
rfl
)
refine pure_ (i := 24) (N := some 111) (v := ?_) (a' := ?_) #[T,T,T,T,T,T,T,T,T,T,T,T,T,T,T,T,T,T,T,T,T,T,T,T,T,F,F,F,F,F,F,F,F,F,F] rfl rfl (any_of HT_.out (by kernel_rfl)) (fun _ _ _ h => h) (Or.inl ⟨by rfl, ?_⟩) ?_ ?_
rotate_left
·(
intro w'
go_simp
with_reducible rfl
)
rotate_left
·(
simp only [Act.put, List.setIfInBounds_toArray, List.set_cons_zero, List.set_cons_succ, i64_w, i32_w]
rfl
)
refine pure_ (i := 25) (N := some 112) (v := ?_) (a' := ?_) #[T,T,T,T,T,T,T,T,T,T,T,T,T,T,T,T,T,T,T,T,T,T,T,T,T,T,F,F,F,F,F,F,F,F,F] rfl rfl (any_of HT_.out (by kernel_rfl)) (fun _ _ _ h => h) (Or.inl ⟨by rfl, ?_⟩) ?_ ?_
rotate_left
·(
intro w'
go_simp
with_reducible rfl
)
rotate_left
·(
simp only [Act.put, List.setIfInBounds_toArray, List.set_cons_zero, List.set_cons_succ, i64_w, i32_w]
rfl
)
refine pure_ (i := 26) (N := some 113) (v := ?_) (a' := ?_) #[T,T,T,T,T,T,T,T,T,T,T,T,T,T,T,T,T,T,T,T,T,T,T,T,T,T,T,F,F,F,F,F,F,F,F] rfl rfl (any_of HT_.out (by kernel_rfl)) (fun _ _ _ h => h) (Or.inl ⟨by rfl, ?_⟩) ?_ ?_
rotate_left
·(
intro w'
go_simp
with_reducible rfl
)
rotate_left
·(
simp only [Act.put, List.setIfInBounds_toArray, List.set_cons_zero, List.set_cons_succ, i64_w, i32_w]
rfl
)
refine pure_ (i := 27) (N := some 114) (v := ?_) (a' := ?_) #[T,T,T,T,T,T,T,T,T,T,T,T,T,T,T,T,T,T,T,T,T,T,T,T,T,T,T,T,F,F,F,F,F,F,F] rfl rfl (any_of HT_.out (by kernel_rfl)) (fun _ _ _ h => h) (Or.inl ⟨by rfl, ?_⟩) ?_ ?_
rotate_left
·(
intro w'
go_simp
with_reducible rfl
)
rotate_left
·(
simp only [Act.put, List.setIfInBounds_toArray, List.set_cons_zero, List.set_cons_succ, i64_w, i32_w]
rfl
)
refine pure_ (i := 28) (N := some 115) (v := ?_) (a' := ?_) #[T,T,T,T,T,T,T,T,T,T,T,T,T,T,T,T,T,T,T,T,T,T,T,T,T,T,T,T,T,F,F,F,F,F,F] rfl rfl (any_of HT_.out (by kernel_rfl)) (fun _ _ _ h => h) (Or.inl ⟨by rfl, ?_⟩) ?_ ?_
rotate_left
·(
intro w'
go_simp
with_reducible rfl
)
rotate_left
·(
simp only [Act.put, List.setIfInBounds_toArray, List.set_cons_zero, List.set_cons_succ, i64_w, i32_w]
rfl
)
refine pure_ (i := 29) (N := some 116) (v := ?_) (a' := ?_) #[T,T,T,T,T,T,T,T,T,T,T,T,T,T,T,T,T,T,T,T,T,T,T,T,T,T,T,T,T,T,F,F,F,F,F] rfl rfl (any_of HT_.out (by kernel_rfl)) (fun _ _ _ h => h) (Or.inl ⟨by rfl, ?_⟩) ?_ ?_
rotate_left
·(
intro w'
go_simp
with_reducible rfl
)
rotate_left
·(
simp only [Act.put, List.setIfInBounds_toArray, List.set_cons_zero, List.set_cons_succ, i64_w, i32_w]
rfl
)
refine pure_ (i := 30) (N := some 117) (v := ?_) (a' := ?_) #[T,T,T,T,T,T,T,T,T,T,T,T,T,T,T,T,T,T,T,T,T,T,T,T,T,T,T,T,T,T,T,F,F,F,F] rfl rfl (any_of HT_.out (by kernel_rfl)) (fun _ _ _ h => h) (Or.inl ⟨by rfl, ?_⟩) ?_ ?_
rotate_left
·(
intro w'
go_simp
with_reducible rfl
)
rotate_left
·(
simp only [Act.put, List.setIfInBounds_toArray, List.set_cons_zero, List.set_cons_succ, i64_w, i32_w]
rfl
)
refine take_ (i := 31) (N := some 118) (v := ?_) (a' := ?_) #[T,T,T,T,T,T,T,T,T,T,T,T,T,T,T,T,T,T,T,T,T,T,T,T,T,T,T,T,T,T,T,T,F,F,F] rfl rfl (take_ofW HT_.out HW_.out (by kernel_rfl)) (fun _ _ _ h => h) (Or.inl ⟨by rfl, ?_⟩) hHeld ?_ ?_
rotate_left
·(
rintro w' ⟨s0, s1, s2, s3, s4, s5, s6, s7, s8, s9, s10, s11, s12, s13, s14, s15, s16, s17, s18, s19⟩
go_simp
with_reducible rfl
)
rotate_left
·(
simp only [Act.put, List.setIfInBounds_toArray, List.set_cons_zero, List.set_cons_succ, i64_w, i32_w]
rfl
)
refine pure_ (i := 32) (N := some 119) (v := ?_) (a' := ?_) #[T,T,T,T,T,T,T,T,T,T,T,T,T,T,T,T,T,T,T,T,T,T,T,T,T,T,T,T,T,T,T,T,T,F,F] rfl rfl (any_of HT_.out (by kernel_rfl)) (fun _ _ _ h => h) (Or.inl ⟨by rfl, ?_⟩) ?_ ?_
rotate_left
·(
intro w'
go_simp
with_reducible rfl
)
rotate_left
·(
simp only [Act.put, List.setIfInBounds_toArray, List.set_cons_zero, List.set_cons_succ, i64_w, i32_w]
rfl
)
refine pure_ (i := 33) (N := some 120) (v := ?_) (a' := ?_) #[T,T,T,T,T,T,T,T,T,T,T,T,T,T,T,T,T,T,T,T,T,T,T,T,T,T,T,T,T,T,T,T,T,T,F] rfl rfl (any_of HT_.out (by kernel_rfl)) (fun _ _ _ h => h) (Or.inl ⟨by rfl, ?_⟩) ?_ ?_
rotate_left
·(
intro w'
go_simp
with_reducible rfl
)
rotate_left
·(
simp only [Act.put, List.setIfInBounds_toArray, List.set_cons_zero, List.set_cons_succ, i64_w, i32_w]
rfl
)
refine pure_ (i := 34) (N := some 121) (v := ?_) (a' := ?_) #[T,T,T,T,T,T,T,T,T,T,T,T,T,T,T,T,T,T,T,T,T,T,T,T,T,T,T,T,T,T,T,T,T,T,T] rfl rfl (any_of HT_.out (by kernel_rfl)) (fun _ _ _ h => h) (Or.inl ⟨by rfl, ?_⟩) ?_ ?_
rotate_left
·(
intro w'
go_simp
with_reducible rfl
)
rotate_left
·(
simp only [Act.put, List.setIfInBounds_toArray, List.set_cons_zero, List.set_cons_succ, i64_w, i32_w]
rfl
)
refine done_ (done_of HT_.out (by kernel_rfl)) ?_
have p276 : 0 ≤ (x16_3 : Int) := of_decide_eq_true (by first | (with_reducible assumption) | assumption)
have q276 : x16_3 < (t260.length : Int) := of_decide_eq_true (by first | (with_reducible assumption) | assumption)
obtain ⟨ad276, A276_3, c276_3, e276, hx276_0, hx276_1, hx276_2, hx276_3, hl276_3, hi276_3⟩ := at_T42 (Kd.S_reads' HO_7.out).2.2 x16_3 p276 q276
obtain rfl : ad270 = ad276 := (by injection e276)
obtain ⟨ce276, hce276, hMe276, hcc276⟩ := Kd.S_get HO_7.out z42 x16_3 p276 (by first | exact q276 | exact of_decide_eq_true (by first | (with_reducible assumption) | assumption) | (have e_ := (Kd.S_reads' HO_7.out).1; omega))
obtain ⟨ve276_3, rfl, ge276_3⟩ := k42_openM hMe276
have hv276_3 := hcc276 3 _ rfl
rw [add_field _ _ 3 (by omega)] at hv276_3
replace hv276_3 := Option.some.inj (hv276_3.symm.trans hx276_3)
rw [hv276_3] at ge276_3
have HL276_3 := Aside0.mk (show Kd.R k67 67 _ _ _ _ ((rd_T42 t260 x16_3).f3) from ge276_3)
clear hv276_3 ge276_3
clear hcc276 hce276
have HR276_3 := Aside0.mk hi276_3
have HC276_3 := Aside0.mk hl276_3
clear hi276_3 hl276_3
replace p276 := eq_true p276
replace q276 := eq_true q276
have ea_ := Option.some.inj (hx273_3.symm.trans hx276_3)
injection ea_ with ea_ en_ ec_
subst ea_
subst ec_
clear en_
try go_wp2_with (first | ((with_reducible refine gate_builtin (b := .append) (xs := #[.tmp 125, .tmp 130]) rfl ?_); (try (refine gate_guard (by rfl) ?_; dsimp only)); at_builtin; refine Kd.R_append_rows k67 (w0 := w) w.heap.size rfl (.tmp 125) (.tmp 130) 40 67 (.agg #[(.string ⟨#[]⟩), (.int .i64 0)]) 24 rfl Try.underlying40 info67 rfl (by decide) (by omega) u13 x13_3 ((rd_T42 t260 x16_3).f3) _ _ _ (fun _ => True) (fun _ => False) rfl rfl ?aO ?aR (fun _ _ h => h) (fun _ h => h.elim) ?aF ?aB ?aS ?aL ?_; (case aR => repeat (first | exact (by repeat (first | (with_reducible exact HR276_3.out) | (with_reducible refine Kd.C_alloc ?_ _) | (with_reducible refine Kd.C_drewN ?_ _) | (with_reducible refine Kd.C_drew ?_) | exact HR276_3.out)) | (with_reducible refine Kd.C_alloc ?_ _) | (with_reducible refine Kd.C_drewN ?_ _) | (with_reducible refine Kd.C_drew ?_))); (case aB => exact (by repeat (first | (with_reducible first | exact HB.out | apply below_alloc | apply pw_below_drewN | apply below_drew1 | refine below_set ?_ GE257.out) | exact HB.out))); (case aF => exact (fun _ _ => trivial)); (case aO => exact (by (with_reducible repeat (first | apply Kd.R_alloc | apply Kd.R_drewN | apply Kd.R_drew)); exact HO_13.out)); (case aS => exact (below_size (by repeat (first | (with_reducible first | exact HB.out | apply below_alloc | apply pw_below_drewN | apply below_drew1 | refine below_set ?_ GE257.out) | exact HB.out)))); (case aL => have := LMc43.out; omega); intro v278 w47 ho hb hg hat; rw [← Ny277.out] at ho; have n0_ := Aside0.mk (Kd.S_after (ok := (fun _ => True)) (by (with_reducible repeat (first | apply Kd.S_alloc | apply Kd.S_drewN | apply Kd.S_drew)); exact Kd.S_mono HO_7.out (fun _ hk => ⟨trivial, hk⟩)) hg hat); have n1_ := Aside0.mk (blk_grown (g := gb257) (o := .cells #[.string a0_0, .string a0_1, .string a0_2, .string a0_3, .string a0_4, .string a0_5, .int .i64 a0_6, .slice A0_7 l0_7.length c0_7] 24 (0, 0)) (by (with_reducible repeat (first | refine blk_drewN ?_ _ | refine blk_drew ?_ | refine blk_alloc ?_ _)); exact BK257.out) hg (Kd.R_ne HO_13.out BK257.out (by decide))); have n2_ := Aside0.mk (Kd.R_after (ok := (fun k_ => some k_ ≠ (.slice (some ad270) t260.length co29 : Value).ownBlock)) (by (with_reducible repeat (first | apply Kd.R_alloc | apply Kd.R_drewN | apply Kd.R_drew)); exact Kd.R_mono HL270_3.out (fun _ hk => ⟨hk.2, hk.1⟩)) hg hat); have n3_ := Aside0.mk (Kd.R_after (ok := (fun k_ => some k_ ≠ (.slice (some ad270) t260.length co29 : Value).ownBlock)) (by (with_reducible repeat (first | apply Kd.R_alloc | apply Kd.R_drewN | apply Kd.R_drew)); exact Kd.R_mono HL273_3.out (fun _ hk => ⟨hk.2, hk.1⟩)) hg hat); have n4_ := Aside0.mk (Kd.R_after (ok := (fun k_ => some k_ ≠ (.slice (some ad270) t260.length co29 : Value).ownBlock)) (by (with_reducible repeat (first | apply Kd.R_alloc | apply Kd.R_drewN | apply Kd.R_drew)); exact Kd.R_mono HL274_3.out (fun _ hk => ⟨hk.2, hk.1⟩)) hg hat); have n5_ := Aside0.mk (Kd.R_after (ok := (fun k_ => some k_ ≠ (.slice (some ad270) t260.length co29 : Value).ownBlock)) (by (with_reducible repeat (first | apply Kd.R_alloc | apply Kd.R_drewN | apply Kd.R_drew)); exact Kd.R_mono HL275_3.out (fun _ hk => ⟨hk.2, hk.1⟩)) hg hat); have n6_ := Aside0.mk (Kd.R_after (ok := (fun k_ => some k_ ≠ (.slice (some ad270) t260.length co29 : Value).ownBlock)) (by (with_reducible repeat (first | apply Kd.R_alloc | apply Kd.R_drewN | apply Kd.R_drew)); exact Kd.R_mono HL276_3.out (fun _ hk => ⟨hk.2, hk.1⟩)) hg hat); have n7_ := Aside0.mk (hb); have n8_ := Aside0.mk (ho); clear HO_7; clear BK257; clear HL270_3; clear HL273_3; clear HL274_3; clear HL275_3; clear HL276_3; clear HB; clear HO_13; have HO_7 := n0_; have BK257 := n1_; have HL270_3 := n2_; have HL273_3 := n3_; have HL274_3 := n4_; have HL275_3 := n5_; have HL276_3 := n6_; have HB := n7_; have HO279 := n8_; clear n0_ n1_ n2_ n3_ n4_ n5_ n6_ n7_ n8_; clear ho hb hg hat))
go_roundg k3
case measure => have := HJ5.out; have := HJ22.out; have := HK3.out; omega
case rel => exact ⟨(y277), (wrap64 (x15_3 + t271)), (wrap64 (x16_3 + 1)), (by first | rfl | (simp; done) | (simp [*]; done)), (by first | rfl | (simp; done) | (simp [*]; done)), H', ⟨by have := HJ5.out; have := HJ22.out; have := HK3.out; omega⟩, ⟨by (with_reducible repeat (first | apply Kd.S_alloc | apply Kd.S_drewN | apply Kd.S_drew)); exact Kd.S_mono HO_7.out (fun _ hk => hk.2)⟩, ⟨by (with_reducible repeat (first | apply Kd.R_alloc | apply Kd.R_drewN | apply Kd.R_drew)); exact HO279.out⟩, ⟨by (with_reducible repeat (first | refine blk_drewN ?_ _ | refine blk_drew ?_ | refine blk_alloc ?_ _)); exact BK257.out⟩, ⟨by repeat (first | (with_reducible first | exact HB.out | apply below_alloc | apply pw_below_drewN | apply below_drew1 | refine below_set ?_ GE257.out) | exact HB.out)⟩⟩
)
·(
rw [if_neg c43] at H
exact absurd H (by simp)
)
)
)
·(
rw [if_neg c41] at H
have c41b0 : (((rd_T42 t260 x16_3).f0).toList == a0_0.toList) = false := beq_eq_false_iff_ne.mpr c41
have c41b1 : (((rd_T42 t260 x16_3).f0).toList != a0_0.toList) = true := bne_iff_ne.mpr c41
exact absurd (Option.some.inj H) (by rw [hT.out]; decide)
)
)
·(
rw [if_neg c40] at H
have c40b0 : (((rd_T42 t260 x16_3).f1) == (wrap64 (x16_3 + 1))) = false := beq_eq_false_iff_ne.mpr c40
have c40b1 : (((rd_T42 t260 x16_3).f1) != (wrap64 (x16_3 + 1))) = true := bne_iff_ne.mpr c40
exact absurd (Option.some.inj H) (by rw [hT.out]; decide)
)
)
·(
rw [if_neg c39] at H
have c39b0 : (t272 == 0) = false := beq_eq_false_iff_ne.mpr c39
have c39b1 : (t272 != 0) = true := bne_iff_ne.mpr c39
exact absurd (Option.some.inj H) (by rw [hT.out]; decide)
)
)
·(
rw [if_neg c38] at H
have c38b0 : (t265 == 0) = false := beq_eq_false_iff_ne.mpr c38
have c38b1 : (t265 != 0) = true := bne_iff_ne.mpr c38
by_cases c48 : ((rd_T42 t260 x16_3).f1) = (wrap64 (x16_3 + 1))
·(
rw [if_pos c48] at H
have c48b0 : (((rd_T42 t260 x16_3).f1) == (wrap64 (x16_3 + 1))) = true := beq_iff_eq.mpr c48
have c48b1 : (((rd_T42 t260 x16_3).f1) != (wrap64 (x16_3 + 1))) = false := bne_eq_false_iff_eq.mpr c48
clear c48
by_cases c49 : ((rd_T42 t260 x16_3).f0).toList = a0_0.toList
·(
rw [if_pos c49] at H
have c49b0 : (((rd_T42 t260 x16_3).f0).toList == a0_0.toList) = true := beq_iff_eq.mpr c49
have c49b1 : (((rd_T42 t260 x16_3).f0).toList != a0_0.toList) = false := bne_eq_false_iff_eq.mpr c49
clear c49
by_cases c50 : (((rd_T42 t260 x16_3).f3).length : Int) = 0
·(
rw [if_pos c50] at H
have c50b0 : ((((rd_T42 t260 x16_3).f3).length : Int) == 0) = true := beq_iff_eq.mpr c50
have c50b1 : ((((rd_T42 t260 x16_3).f3).length : Int) != 0) = false := bne_eq_false_iff_eq.mpr c50
clear c50
exact absurd (Option.some.inj H) (by rw [hT.out]; decide)
)
·(
rw [if_neg c50] at H
have c50b0 : ((((rd_T42 t260 x16_3).f3).length : Int) == 0) = false := beq_eq_false_iff_ne.mpr c50
have c50b1 : ((((rd_T42 t260 x16_3).f3).length : Int) != 0) = true := bne_iff_ne.mpr c50
have c50b2 : ¬ (((rd_T42 t260 x16_3).f3) = []) := fun h_ => c50 (by rw [h_]; rfl)
by_cases c51 : x13_3.length + ((rd_T42 t260 x16_3).f3).length < 5864062014805
·(
rw [if_pos c51] at H
have LMc51 := Aside0.mk c51
clear c51
obtain ⟨y284, hy284⟩ : ∃ y_ : List (S67), y_ = (x13_3 ++ ((rd_T42 t260 x16_3).f3)) := ⟨_, rfl⟩
replace H : (supercargolaw19_OrderSums.l0 k3 t260 t264 t265 y284 (wrap64 (x15_3 + t271)) (wrap64 (x16_3 + 1)) a0_0 a0_1 a0_2 a0_3 a0_4 a0_5 a0_6 l0_7) = some r := by first | (rw [hy284]; with_reducible exact H) | (have H2_ := (Option.bind_some _ _).symm.trans H; rw [hy284]; with_reducible exact H2_) | (have H2_ := (Option.bind_some _ _).symm.trans H; with_reducible exact H2_) | with_reducible exact H | (rw [hy284]; exact H) | exact H
have Ny284 := Aside0.mk hy284
clear hy284
have H' := Aside0.mk H
clear H
try go_wp2
have n0_ := Aside0.mk (Kd.S_drew HO_7.out)
have n1_ := Aside0.mk (Kd.R_drew HO_13.out)
have n2_ := Aside0.mk (blk_drew BK257.out)
have n3_ := Aside0.mk (below_drew1 HB.out)
clear HO_7
clear HO_13
clear BK257
clear HB
have HO_7 := n0_
have HO_13 := n1_
have BK257 := n2_
have HB := n3_
clear n0_ n1_ n2_ n3_
have p270 : 0 ≤ (x16_3 : Int) := of_decide_eq_true (by first | (with_reducible assumption) | assumption)
have q270 : x16_3 < (t260.length : Int) := of_decide_eq_true (by first | (with_reducible assumption) | assumption)
obtain ⟨ad270, A270_3, c270_3, e270, hx270_0, hx270_1, hx270_2, hx270_3, hl270_3, hi270_3⟩ := at_T42 (Kd.S_reads' HO_7.out).2.2 x16_3 p270 q270
cases e270
obtain ⟨ce270, hce270, hMe270, hcc270⟩ := Kd.S_get HO_7.out z42 x16_3 p270 (by first | exact q270 | exact of_decide_eq_true (by first | (with_reducible assumption) | assumption) | (have e_ := (Kd.S_reads' HO_7.out).1; omega))
obtain ⟨ve270_3, rfl, ge270_3⟩ := k42_openM hMe270
have hv270_3 := hcc270 3 _ rfl
rw [add_field _ _ 3 (by omega)] at hv270_3
replace hv270_3 := Option.some.inj (hv270_3.symm.trans hx270_3)
rw [hv270_3] at ge270_3
have HL270_3 := Aside0.mk (show Kd.R k67 67 _ _ _ _ ((rd_T42 t260 x16_3).f3) from ge270_3)
clear hv270_3 ge270_3
clear hcc270 hce270
have HR270_3 := Aside0.mk hi270_3
have HC270_3 := Aside0.mk hl270_3
clear hi270_3 hl270_3
replace p270 := eq_true p270
replace q270 := eq_true q270
refine start_ (n := 11) (S := fun w' => w'.cell? ⟨gb257, 0, none⟩ = some (.string a0_0) ∧ w'.cell? ⟨gb257, 1, none⟩ = some (.string a0_1) ∧ w'.cell? ⟨gb257, 2, none⟩ = some (.string a0_2) ∧ w'.cell? ⟨gb257, 3, none⟩ = some (.string a0_3) ∧ w'.cell? ⟨gb257, 4, none⟩ = some (.string a0_4) ∧ w'.cell? ⟨gb257, 5, none⟩ = some (.string a0_5) ∧ w'.cell? ⟨gb257, 6, none⟩ = some (.int .i64 a0_6) ∧ w'.cell? ⟨gb257, 7, none⟩ = some (.slice A0_7 l0_7.length c0_7) ∧ w'.cell? (ad270.add ((x16_3).toNat * 4)) = some (.string ((rd_T42 t260 x16_3).f0)) ∧ w'.cell? ⟨(ad270.add ((x16_3).toNat * 4)).block, (ad270.add ((x16_3).toNat * 4)).off + 1, none⟩ = some (.int .i64 ((rd_T42 t260 x16_3).f1)) ∧ w'.cell? ⟨(ad270.add ((x16_3).toNat * 4)).block, (ad270.add ((x16_3).toNat * 4)).off + 2, none⟩ = some (.int .i64 ((rd_T42 t260 x16_3).f2)) ∧ w'.cell? ⟨(ad270.add ((x16_3).toNat * 4)).block, (ad270.add ((x16_3).toNat * 4)).off + 3, none⟩ = some (.slice A270_3 ((rd_T42 t260 x16_3).f3).length c270_3)) (ds := []) #[F,F,F,F,F,F,F,F,F,F,F] (by kernel_rfl) rfl rfl ⟨(blk_cell BK257.out 0).trans rfl, (blk_cell BK257.out 1).trans rfl, (blk_cell BK257.out 2).trans rfl, (blk_cell BK257.out 3).trans rfl, (blk_cell BK257.out 4).trans rfl, (blk_cell BK257.out 5).trans rfl, (blk_cell BK257.out 6).trans rfl, (blk_cell BK257.out 7).trans rfl, hx270_0, hx270_1, hx270_2, hx270_3⟩ (fun hHeld => ?_); refine with_tabW supercargolaw19_OrderSums.tab17 supercargolaw19_OrderSums.bits17 (fun HT_ HW_ => ?_)
generalize wr.drew = w52 at HO_7 HO_13 BK257 HB HL270_3 HR270_3 hx270_0 hx270_1 hx270_2 hx270_3 hHeld ⊢
refine pure_ (i := 1) (N := some 80) (v := ?_) (a' := ?_) #[F,T,F,F,F,F,F,F,F,F,F] rfl rfl (any_of HT_.out (by kernel_rfl)) (fun _ _ _ h => h) (Or.inl ⟨by rfl, ?_⟩) ?_ ?_
rotate_left
·(
intro w'
go_simp
with_reducible rfl
)
rotate_left
·(
simp only [Act.put, List.setIfInBounds_toArray, List.set_cons_zero, List.set_cons_succ, i64_w, i32_w]
rfl
)
refine pure_ (i := 2) (N := some 81) (v := ?_) (a' := ?_) #[F,T,T,F,F,F,F,F,F,F,F] rfl rfl (any_of HT_.out (by kernel_rfl)) (fun _ _ _ h => h) (Or.inl ⟨by rfl, ?_⟩) ?_ ?_
rotate_left
·(
intro w'
go_simp
with_reducible rfl
)
rotate_left
·(
simp only [Act.put, List.setIfInBounds_toArray, List.set_cons_zero, List.set_cons_succ, i64_w, i32_w]
rfl
)
refine pure_ (i := 3) (N := some 82) (v := ?_) (a' := ?_) #[F,T,T,T,F,F,F,F,F,F,F] rfl rfl (any_of HT_.out (by kernel_rfl)) (fun _ _ _ h => h) (Or.inl ⟨by rfl, ?_⟩) ?_ ?_
rotate_left
·(
intro w'
go_simp
with_reducible rfl
)
rotate_left
·(
simp only [Act.put, List.setIfInBounds_toArray, List.set_cons_zero, List.set_cons_succ, i64_w, i32_w]
rfl
)
refine take_ (i := 0) (N := some 79) (v := ?_) (a' := ?_) #[T,T,T,T,F,F,F,F,F,F,F] rfl rfl (take_ofW HT_.out HW_.out (by kernel_rfl)) (fun _ _ _ h => h) (Or.inl ⟨by rfl, ?_⟩) hHeld ?_ ?_
rotate_left
·(
rintro w' ⟨s0, s1, s2, s3, s4, s5, s6, s7, s8, s9, s10, s11⟩
go_simp
with_reducible rfl
)
rotate_left
·(
simp only [Act.put, List.setIfInBounds_toArray, List.set_cons_zero, List.set_cons_succ, i64_w, i32_w]
rfl
)
refine take_ (i := 4) (N := some 83) (v := ?_) (a' := ?_) #[T,T,T,T,T,F,F,F,F,F,F] rfl rfl (take_ofW HT_.out HW_.out (by kernel_rfl)) (fun _ _ _ h => h) (Or.inl ⟨by rfl, ?_⟩) hHeld ?_ ?_
rotate_left
·(
rintro w' ⟨s0, s1, s2, s3, s4, s5, s6, s7, s8, s9, s10, s11⟩
go_simp
with_reducible rfl
)
rotate_left
·(
simp only [Act.put, List.setIfInBounds_toArray, List.set_cons_zero, List.set_cons_succ, i64_w, i32_w]
rfl
)
refine one_ (i := 5) (N := some 84) #[T,T,T,T,T,T,F,F,F,F,F] rfl rfl (one_of HT_.out (by kernel_rfl)) (by decide) (fun K hK => ?_)
refine goes_ Try.func31 (by kernel_rfl) rfl #[.agg #[.string a0_0, .string a0_1, .string a0_2, .string a0_3, .string a0_4, .string a0_5, .int .i64 a0_6, .slice A0_7 l0_7.length c0_7], .agg #[.string ((rd_T42 t260 x16_3).f0), .int .i64 ((rd_T42 t260 x16_3).f1), .int .i64 ((rd_T42 t260 x16_3).f2), .slice A270_3 ((rd_T42 t260 x16_3).f3).length c270_3]] (by rfl) rfl rfl (by (try simp only [List.map_toArray, List.map_cons, List.map_nil]); first | done | rfl | (simp only [List.length_drop, List.length_take]; rfl)) ?_
with_reducible refine (order_Value.calls k3 a0_0 a0_1 a0_2 a0_3 a0_4 a0_5 a0_6 _ _ l0_7 ((rd_T42 t260 x16_3).f0) ((rd_T42 t260 x16_3).f1) ((rd_T42 t260 x16_3).f2) _ _ ((rd_T42 t260 x16_3).f3) t271 t272 _ ?side1 ?side2 ?side3 ?side4 A37.out).mono ?_
(case side1 => repeat (first | exact (Kd.C_below HR0_7.out HB.out) | (with_reducible refine Kd.C_alloc ?_ _) | (with_reducible refine Kd.C_drewN ?_ _) | (with_reducible refine Kd.C_drew ?_)))
(case side2 => exact HC0_7.out)
(case side3 => repeat (first | exact (by repeat (first | (with_reducible exact HR270_3.out) | (with_reducible refine Kd.C_alloc ?_ _) | (with_reducible refine Kd.C_drewN ?_ _) | (with_reducible refine Kd.C_drew ?_) | exact HR270_3.out)) | (with_reducible refine Kd.C_alloc ?_ _) | (with_reducible refine Kd.C_drewN ?_ _) | (with_reducible refine Kd.C_drew ?_)))
(case side4 => exact HC270_3.out)
rintro e w53 ⟨rfl, hb⟩
have HS8_ := (hb.cell (World.block_lt_of_cell? _ _ (hHeld.2.2.2.2.2.2.2.2.1))).trans (hHeld.2.2.2.2.2.2.2.2.1)
have HS9_ := (hb.cell (World.block_lt_of_cell? _ _ (hHeld.2.2.2.2.2.2.2.2.2.1))).trans (hHeld.2.2.2.2.2.2.2.2.2.1)
have HS10_ := (hb.cell (World.block_lt_of_cell? _ _ (hHeld.2.2.2.2.2.2.2.2.2.2.1))).trans (hHeld.2.2.2.2.2.2.2.2.2.2.1)
have HS11_ := (hb.cell (World.block_lt_of_cell? _ _ (hHeld.2.2.2.2.2.2.2.2.2.2.2))).trans (hHeld.2.2.2.2.2.2.2.2.2.2.2)
refine ⟨_, rfl, ?_⟩
have n0_ := Aside0.mk (Kd.S_below (by (with_reducible repeat (first | apply Kd.S_alloc | apply Kd.S_drewN | apply Kd.S_drew)); exact HO_7.out) hb)
have n1_ := Aside0.mk (Kd.R_below (by (with_reducible repeat (first | apply Kd.R_alloc | apply Kd.R_drewN | apply Kd.R_drew)); exact HO_13.out) hb)
have n2_ := Aside0.mk (Kd.R_below (by (with_reducible repeat (first | apply Kd.R_alloc | apply Kd.R_drewN | apply Kd.R_drew)); exact HL270_3.out) hb)
have n3_ := Aside0.mk (blk_below (g := gb257) (o := .cells #[.string a0_0, .string a0_1, .string a0_2, .string a0_3, .string a0_4, .string a0_5, .int .i64 a0_6, .slice A0_7 l0_7.length c0_7] 24 (0, 0)) (by (with_reducible repeat (first | refine blk_drewN ?_ _ | refine blk_drew ?_ | refine blk_alloc ?_ _)); exact BK257.out) hb)
have n4_ := Aside0.mk (Kd.C_below (by repeat (first | (with_reducible exact HR270_3.out) | (with_reducible refine Kd.C_alloc ?_ _) | (with_reducible refine Kd.C_drewN ?_ _) | (with_reducible refine Kd.C_drew ?_) | exact HR270_3.out)) hb)
have n5_ := Aside0.mk (below_step (by repeat (first | (with_reducible first | exact HB.out | apply below_alloc | apply pw_below_drewN | apply below_drew1 | refine below_set ?_ GE257.out) | exact HB.out)) hb)
clear HO_7
clear HO_13
clear HL270_3
clear BK257
clear HR270_3
clear HB
have HO_7 := n0_
have HO_13 := n1_
have HL270_3 := n2_
have BK257 := n3_
have HR270_3 := n4_
have HB := n5_
clear n0_ n1_ n2_ n3_ n4_ n5_
(try clear hb)
(try clear hb2)
(try clear hk)
(try clear hi)
refine hK.out _ _ ⟨(blk_cell BK257.out 0).trans rfl, (blk_cell BK257.out 1).trans rfl, (blk_cell BK257.out 2).trans rfl, (blk_cell BK257.out 3).trans rfl, (blk_cell BK257.out 4).trans rfl, (blk_cell BK257.out 5).trans rfl, (blk_cell BK257.out 6).trans rfl, (blk_cell BK257.out 7).trans rfl, HS8_, HS9_, HS10_, HS11_⟩ (fun hHeld => ?_)
clear hK K
refine norm_ (a' := ?_) ?_ ?_
rotate_left
·(
show Act.put _ (some 84) _ = _
simp only [Act.put, List.setIfInBounds_toArray, List.set_cons_zero, List.set_cons_succ, i64_w, i32_w]
rfl
)
refine pure_ (i := 6) (N := some 78) (v := ?_) (a' := ?_) #[T,T,T,T,T,T,T,F,F,F,F] rfl rfl (any_of HT_.out (by kernel_rfl)) (fun _ _ _ h => h) (Or.inl ⟨by rfl, ?_⟩) ?_ ?_
rotate_left
·(
intro w'
go_simp
with_reducible rfl
)
rotate_left
·(
simp only [Act.put, List.setIfInBounds_toArray, List.set_cons_zero, List.set_cons_succ, i64_w, i32_w]
rfl
)
refine pure_ (i := 7) (N := some 85) (v := ?_) (a' := ?_) #[T,T,T,T,T,T,T,T,F,F,F] rfl rfl (any_of HT_.out (by kernel_rfl)) (fun _ _ _ h => h) (Or.inl ⟨by rfl, ?_⟩) ?_ ?_
rotate_left
·(
intro w'
go_simp
with_reducible rfl
)
rotate_left
·(
simp only [Act.put, List.setIfInBounds_toArray, List.set_cons_zero, List.set_cons_succ, i64_w, i32_w]
rfl
)
refine pure_ (i := 8) (N := some 86) (v := ?_) (a' := ?_) #[T,T,T,T,T,T,T,T,T,F,F] rfl rfl (any_of HT_.out (by kernel_rfl)) (fun _ _ _ h => h) (Or.inl ⟨by rfl, ?_⟩) ?_ ?_
rotate_left
·(
intro w'
go_simp
with_reducible rfl
)
rotate_left
·(
simp only [Act.put, List.setIfInBounds_toArray, List.set_cons_zero, List.set_cons_succ, i64_w, i32_w]
rfl
)
refine pure_ (i := 9) (N := some 17) (v := ?_) (a' := ?_) #[T,T,T,T,T,T,T,T,T,T,F] rfl rfl (any_of HT_.out (by kernel_rfl)) (fun _ _ _ h => h) (Or.inl ⟨by rfl, ?_⟩) ?_ ?_
rotate_left
·(
intro w'
go_simp
with_reducible rfl
)
rotate_left
·(
simp only [Act.put, List.setIfInBounds_toArray, List.set_cons_zero, List.set_cons_succ, i64_w, i32_w]
rfl
)
refine pure_ (i := 10) (N := some 18) (v := ?_) (a' := ?_) #[T,T,T,T,T,T,T,T,T,T,T] rfl rfl (any_of HT_.out (by kernel_rfl)) (fun _ _ _ h => h) (Or.inl ⟨by rfl, ?_⟩) ?_ ?_
rotate_left
·(
intro w'
go_simp
with_reducible rfl
)
rotate_left
·(
simp only [Act.put, List.setIfInBounds_toArray, List.set_cons_zero, List.set_cons_succ, i64_w, i32_w]
rfl
)
refine done_ (done_of HT_.out (by kernel_rfl)) ?_
try go_wp2
have n0_ := Aside0.mk (Kd.S_drew HO_7.out)
have n1_ := Aside0.mk (Kd.R_drew HO_13.out)
have n2_ := Aside0.mk (Kd.R_drew HL270_3.out)
have n3_ := Aside0.mk (blk_drew BK257.out)
have n4_ := Aside0.mk (Kd.C_drew HR270_3.out)
have n5_ := Aside0.mk (below_drew1 HB.out)
clear HO_7
clear HO_13
clear HL270_3
clear BK257
clear HR270_3
clear HB
have HO_7 := n0_
have HO_13 := n1_
have HL270_3 := n2_
have BK257 := n3_
have HR270_3 := n4_
have HB := n5_
clear n0_ n1_ n2_ n3_ n4_ n5_
have p280 : 0 ≤ (x16_3 : Int) := of_decide_eq_true (by first | (with_reducible assumption) | assumption)
have q280 : x16_3 < (t260.length : Int) := of_decide_eq_true (by first | (with_reducible assumption) | assumption)
obtain ⟨ad280, A280_3, c280_3, e280, hx280_0, hx280_1, hx280_2, hx280_3, hl280_3, hi280_3⟩ := at_T42 (Kd.S_reads' HO_7.out).2.2 x16_3 p280 q280
obtain rfl : ad270 = ad280 := (by injection e280)
obtain ⟨ce280, hce280, hMe280, hcc280⟩ := Kd.S_get HO_7.out z42 x16_3 p280 (by first | exact q280 | exact of_decide_eq_true (by first | (with_reducible assumption) | assumption) | (have e_ := (Kd.S_reads' HO_7.out).1; omega))
obtain ⟨ve280_3, rfl, ge280_3⟩ := k42_openM hMe280
have hv280_3 := hcc280 3 _ rfl
rw [add_field _ _ 3 (by omega)] at hv280_3
replace hv280_3 := Option.some.inj (hv280_3.symm.trans hx280_3)
rw [hv280_3] at ge280_3
have HL280_3 := Aside0.mk (show Kd.R k67 67 _ _ _ _ ((rd_T42 t260 x16_3).f3) from ge280_3)
clear hv280_3 ge280_3
clear hcc280 hce280
have HR280_3 := Aside0.mk hi280_3
have HC280_3 := Aside0.mk hl280_3
clear hi280_3 hl280_3
replace p280 := eq_true p280
replace q280 := eq_true q280
have p281 : 0 ≤ (x16_3 : Int) := of_decide_eq_true (by first | (with_reducible assumption) | assumption)
have q281 : x16_3 < (t260.length : Int) := of_decide_eq_true (by first | (with_reducible assumption) | assumption)
obtain ⟨ad281, A281_3, c281_3, e281, hx281_0, hx281_1, hx281_2, hx281_3, hl281_3, hi281_3⟩ := at_T42 (Kd.S_reads' HO_7.out).2.2 x16_3 p281 q281
obtain rfl : ad270 = ad281 := (by injection e281)
obtain ⟨ce281, hce281, hMe281, hcc281⟩ := Kd.S_get HO_7.out z42 x16_3 p281 (by first | exact q281 | exact of_decide_eq_true (by first | (with_reducible assumption) | assumption) | (have e_ := (Kd.S_reads' HO_7.out).1; omega))
obtain ⟨ve281_3, rfl, ge281_3⟩ := k42_openM hMe281
have hv281_3 := hcc281 3 _ rfl
rw [add_field _ _ 3 (by omega)] at hv281_3
replace hv281_3 := Option.some.inj (hv281_3.symm.trans hx281_3)
rw [hv281_3] at ge281_3
have HL281_3 := Aside0.mk (show Kd.R k67 67 _ _ _ _ ((rd_T42 t260 x16_3).f3) from ge281_3)
clear hv281_3 ge281_3
clear hcc281 hce281
have HR281_3 := Aside0.mk hi281_3
have HC281_3 := Aside0.mk hl281_3
clear hi281_3 hl281_3
replace p281 := eq_true p281
replace q281 := eq_true q281
have ea_ := Option.some.inj (hx280_3.symm.trans hx281_3)
injection ea_ with ea_ en_ ec_
subst ea_
subst ec_
clear en_
have p282 : 0 ≤ (x16_3 : Int) := of_decide_eq_true (by first | (with_reducible assumption) | assumption)
have q282 : x16_3 < (t260.length : Int) := of_decide_eq_true (by first | (with_reducible assumption) | assumption)
obtain ⟨ad282, A282_3, c282_3, e282, hx282_0, hx282_1, hx282_2, hx282_3, hl282_3, hi282_3⟩ := at_T42 (Kd.S_reads' HO_7.out).2.2 x16_3 p282 q282
obtain rfl : ad270 = ad282 := (by injection e282)
obtain ⟨ce282, hce282, hMe282, hcc282⟩ := Kd.S_get HO_7.out z42 x16_3 p282 (by first | exact q282 | exact of_decide_eq_true (by first | (with_reducible assumption) | assumption) | (have e_ := (Kd.S_reads' HO_7.out).1; omega))
obtain ⟨ve282_3, rfl, ge282_3⟩ := k42_openM hMe282
have hv282_3 := hcc282 3 _ rfl
rw [add_field _ _ 3 (by omega)] at hv282_3
replace hv282_3 := Option.some.inj (hv282_3.symm.trans hx282_3)
rw [hv282_3] at ge282_3
have HL282_3 := Aside0.mk (show Kd.R k67 67 _ _ _ _ ((rd_T42 t260 x16_3).f3) from ge282_3)
clear hv282_3 ge282_3
clear hcc282 hce282
have HR282_3 := Aside0.mk hi282_3
have HC282_3 := Aside0.mk hl282_3
clear hi282_3 hl282_3
replace p282 := eq_true p282
replace q282 := eq_true q282
have ea_ := Option.some.inj (hx280_3.symm.trans hx282_3)
injection ea_ with ea_ en_ ec_
subst ea_
subst ec_
clear en_
refine start_ (n := 35) (S := fun w' => w'.cell? ⟨gb257, 0, none⟩ = some (.string a0_0) ∧ w'.cell? ⟨gb257, 1, none⟩ = some (.string a0_1) ∧ w'.cell? ⟨gb257, 2, none⟩ = some (.string a0_2) ∧ w'.cell? ⟨gb257, 3, none⟩ = some (.string a0_3) ∧ w'.cell? ⟨gb257, 4, none⟩ = some (.string a0_4) ∧ w'.cell? ⟨gb257, 5, none⟩ = some (.string a0_5) ∧ w'.cell? ⟨gb257, 6, none⟩ = some (.int .i64 a0_6) ∧ w'.cell? ⟨gb257, 7, none⟩ = some (.slice A0_7 l0_7.length c0_7) ∧ w'.cell? (ad270.add ((x16_3).toNat * 4)) = some (.string ((rd_T42 t260 x16_3).f0)) ∧ w'.cell? ⟨(ad270.add ((x16_3).toNat * 4)).block, (ad270.add ((x16_3).toNat * 4)).off + 1, none⟩ = some (.int .i64 ((rd_T42 t260 x16_3).f1)) ∧ w'.cell? ⟨(ad270.add ((x16_3).toNat * 4)).block, (ad270.add ((x16_3).toNat * 4)).off + 2, none⟩ = some (.int .i64 ((rd_T42 t260 x16_3).f2)) ∧ w'.cell? ⟨(ad270.add ((x16_3).toNat * 4)).block, (ad270.add ((x16_3).toNat * 4)).off + 3, none⟩ = some (.slice A280_3 ((rd_T42 t260 x16_3).f3).length c280_3) ∧ w'.cell? (ad270.add ((x16_3).toNat * 4)) = some (.string ((rd_T42 t260 x16_3).f0)) ∧ w'.cell? ⟨(ad270.add ((x16_3).toNat * 4)).block, (ad270.add ((x16_3).toNat * 4)).off + 1, none⟩ = some (.int .i64 ((rd_T42 t260 x16_3).f1)) ∧ w'.cell? ⟨(ad270.add ((x16_3).toNat * 4)).block, (ad270.add ((x16_3).toNat * 4)).off + 2, none⟩ = some (.int .i64 ((rd_T42 t260 x16_3).f2)) ∧ w'.cell? ⟨(ad270.add ((x16_3).toNat * 4)).block, (ad270.add ((x16_3).toNat * 4)).off + 3, none⟩ = some (.slice A280_3 ((rd_T42 t260 x16_3).f3).length c280_3) ∧ w'.cell? (ad270.add ((x16_3).toNat * 4)) = some (.string ((rd_T42 t260 x16_3).f0)) ∧ w'.cell? ⟨(ad270.add ((x16_3).toNat * 4)).block, (ad270.add ((x16_3).toNat * 4)).off + 1, none⟩ = some (.int .i64 ((rd_T42 t260 x16_3).f1)) ∧ w'.cell? ⟨(ad270.add ((x16_3).toNat * 4)).block, (ad270.add ((x16_3).toNat * 4)).off + 2, none⟩ = some (.int .i64 ((rd_T42 t260 x16_3).f2)) ∧ w'.cell? ⟨(ad270.add ((x16_3).toNat * 4)).block, (ad270.add ((x16_3).toNat * 4)).off + 3, none⟩ = some (.slice A280_3 ((rd_T42 t260 x16_3).f3).length c280_3)) (ds := []) #[F,F,F,F,F,F,F,F,F,F,F,F,F,F,F,F,F,F,F,F,F,F,F,F,F,F,F,F,F,F,F,F,F,F,F] (by kernel_rfl) rfl rfl ⟨(blk_cell BK257.out 0).trans rfl, (blk_cell BK257.out 1).trans rfl, (blk_cell BK257.out 2).trans rfl, (blk_cell BK257.out 3).trans rfl, (blk_cell BK257.out 4).trans rfl, (blk_cell BK257.out 5).trans rfl, (blk_cell BK257.out 6).trans rfl, (blk_cell BK257.out 7).trans rfl, hx280_0, hx280_1, hx280_2, hx280_3, hx281_0, hx281_1, hx281_2, hx281_3, hx282_0, hx282_1, hx282_2, hx282_3⟩ (fun hHeld => ?_); refine with_tabW supercargolaw19_OrderSums.tab18 supercargolaw19_OrderSums.bits18 (fun HT_ HW_ => ?_)
generalize w53.drew = w54 at HO_7 HO_13 HL270_3 BK257 HR270_3 HB HL280_3 HL281_3 HL282_3 HR280_3 HR281_3 HR282_3 hx280_0 hx280_1 hx280_2 hx280_3 hx281_0 hx281_1 hx281_2 hx281_3 hx282_0 hx282_1 hx282_2 hx282_3 hHeld ⊢
refine pure_ (i := 0) (N := some 87) (v := ?_) (a' := ?_) #[T,F,F,F,F,F,F,F,F,F,F,F,F,F,F,F,F,F,F,F,F,F,F,F,F,F,F,F,F,F,F,F,F,F,F] rfl rfl (any_of HT_.out (by kernel_rfl)) (fun _ _ _ h => h) (Or.inl ⟨by rfl, ?_⟩) ?_ ?_
rotate_left
·(
intro w'
go_simp
with_reducible rfl
)
rotate_left
·(
simp only [Act.put, List.setIfInBounds_toArray, List.set_cons_zero, List.set_cons_succ, i64_w, i32_w]
rfl
)
refine pure_ (i := 1) (N := some 88) (v := ?_) (a' := ?_) #[T,T,F,F,F,F,F,F,F,F,F,F,F,F,F,F,F,F,F,F,F,F,F,F,F,F,F,F,F,F,F,F,F,F,F] rfl rfl (any_of HT_.out (by kernel_rfl)) (fun _ _ _ h => h) (Or.inl ⟨by rfl, ?_⟩) ?_ ?_
rotate_left
·(
intro w'
go_simp
with_reducible rfl
)
rotate_left
·(
simp only [Act.put, List.setIfInBounds_toArray, List.set_cons_zero, List.set_cons_succ, i64_w, i32_w]
rfl
)
refine pure_ (i := 2) (N := some 89) (v := ?_) (a' := ?_) #[T,T,T,F,F,F,F,F,F,F,F,F,F,F,F,F,F,F,F,F,F,F,F,F,F,F,F,F,F,F,F,F,F,F,F] rfl rfl (any_of HT_.out (by kernel_rfl)) (fun _ _ _ h => h) (Or.inl ⟨by rfl, ?_⟩) ?_ ?_
rotate_left
·(
intro w'
go_simp
with_reducible rfl
)
rotate_left
·(
simp only [Act.put, List.setIfInBounds_toArray, List.set_cons_zero, List.set_cons_succ, i64_w, i32_w]
rfl
)
refine pure_ (i := 3) (N := some 90) (v := undef) (a' := ?_) #[T,T,T,T,F,F,F,F,F,F,F,F,F,F,F,F,F,F,F,F,F,F,F,F,F,F,F,F,F,F,F,F,F,F,F] rfl rfl (any_of HT_.out (by kernel_rfl)) (fun _ _ _ h => h) (Or.inr ⟨by rfl, rfl⟩) ?_ ?_
rotate_left
·(
simp only [Act.put, List.setIfInBounds_toArray, List.set_cons_zero, List.set_cons_succ, i64_w, i32_w]
rfl
)
refine pure_ (i := 4) (N := some 91) (v := undef) (a' := ?_) #[T,T,T,T,T,F,F,F,F,F,F,F,F,F,F,F,F,F,F,F,F,F,F,F,F,F,F,F,F,F,F,F,F,F,F] rfl rfl (any_of HT_.out (by kernel_rfl)) (fun _ _ _ h => h) (Or.inr ⟨by rfl, rfl⟩) ?_ ?_
rotate_left
·(
simp only [Act.put, List.setIfInBounds_toArray, List.set_cons_zero, List.set_cons_succ, i64_w, i32_w]
rfl
)
refine pure_ (i := 5) (N := some 92) (v := ?_) (a' := ?_) #[T,T,T,T,T,T,F,F,F,F,F,F,F,F,F,F,F,F,F,F,F,F,F,F,F,F,F,F,F,F,F,F,F,F,F] rfl rfl (any_of HT_.out (by kernel_rfl)) (fun _ _ _ h => h) (Or.inl ⟨by rfl, ?_⟩) ?_ ?_
rotate_left
·(
intro w'
go_simp
with_reducible rfl
)
rotate_left
·(
simp only [Act.put, List.setIfInBounds_toArray, List.set_cons_zero, List.set_cons_succ, i64_w, i32_w]
rfl
)
refine pure_ (i := 6) (N := some 93) (v := ?_) (a' := ?_) #[T,T,T,T,T,T,T,F,F,F,F,F,F,F,F,F,F,F,F,F,F,F,F,F,F,F,F,F,F,F,F,F,F,F,F] rfl rfl (any_of HT_.out (by kernel_rfl)) (fun _ _ _ h => h) (Or.inl ⟨by rfl, ?_⟩) ?_ ?_
rotate_left
·(
intro w'
go_simp
with_reducible rfl
)
rotate_left
·(
simp only [Act.put, List.setIfInBounds_toArray, List.set_cons_zero, List.set_cons_succ, i64_w, i32_w]
rfl
)
refine pure_ (i := 7) (N := some 94) (v := ?_) (a' := ?_) #[T,T,T,T,T,T,T,T,F,F,F,F,F,F,F,F,F,F,F,F,F,F,F,F,F,F,F,F,F,F,F,F,F,F,F] rfl rfl (any_of HT_.out (by kernel_rfl)) (fun _ _ _ h => h) (Or.inl ⟨by rfl, ?_⟩) ?_ ?_
rotate_left
·(
intro w'
go_simp
with_reducible rfl
)
rotate_left
·(
simp only [Act.put, List.setIfInBounds_toArray, List.set_cons_zero, List.set_cons_succ, i64_w, i32_w]
rfl
)
refine pure_ (i := 8) (N := some 95) (v := ?_) (a' := ?_) #[T,T,T,T,T,T,T,T,T,F,F,F,F,F,F,F,F,F,F,F,F,F,F,F,F,F,F,F,F,F,F,F,F,F,F] rfl rfl (any_of HT_.out (by kernel_rfl)) (fun _ _ _ h => h) (Or.inl ⟨by rfl, ?_⟩) ?_ ?_
rotate_left
·(
intro w'
go_simp
with_reducible rfl
)
rotate_left
·(
simp only [Act.put, List.setIfInBounds_toArray, List.set_cons_zero, List.set_cons_succ, i64_w, i32_w]
rfl
)
refine pure_ (i := 9) (N := some 96) (v := ?_) (a' := ?_) #[T,T,T,T,T,T,T,T,T,T,F,F,F,F,F,F,F,F,F,F,F,F,F,F,F,F,F,F,F,F,F,F,F,F,F] rfl rfl (any_of HT_.out (by kernel_rfl)) (fun _ _ _ h => h) (Or.inl ⟨by rfl, ?_⟩) ?_ ?_
rotate_left
·(
intro w'
go_simp
with_reducible rfl
)
rotate_left
·(
simp only [Act.put, List.setIfInBounds_toArray, List.set_cons_zero, List.set_cons_succ, i64_w, i32_w]
rfl
)
refine pure_ (i := 10) (N := some 97) (v := ?_) (a' := ?_) #[T,T,T,T,T,T,T,T,T,T,T,F,F,F,F,F,F,F,F,F,F,F,F,F,F,F,F,F,F,F,F,F,F,F,F] rfl rfl (any_of HT_.out (by kernel_rfl)) (fun _ _ _ h => h) (Or.inl ⟨by rfl, ?_⟩) ?_ ?_
rotate_left
·(
intro w'
go_simp
with_reducible rfl
)
rotate_left
·(
simp only [Act.put, List.setIfInBounds_toArray, List.set_cons_zero, List.set_cons_succ, i64_w, i32_w]
rfl
)
refine pure_ (i := 12) (N := some 99) (v := ?_) (a' := ?_) #[T,T,T,T,T,T,T,T,T,T,T,F,T,F,F,F,F,F,F,F,F,F,F,F,F,F,F,F,F,F,F,F,F,F,F] rfl rfl (any_of HT_.out (by kernel_rfl)) (fun _ _ _ h => h) (Or.inl ⟨by rfl, ?_⟩) ?_ ?_
rotate_left
·(
intro w'
go_simp
with_reducible rfl
)
rotate_left
·(
simp only [Act.put, List.setIfInBounds_toArray, List.set_cons_zero, List.set_cons_succ, i64_w, i32_w]
rfl
)
refine pure_ (i := 13) (N := some 100) (v := ?_) (a' := ?_) #[T,T,T,T,T,T,T,T,T,T,T,F,T,T,F,F,F,F,F,F,F,F,F,F,F,F,F,F,F,F,F,F,F,F,F] rfl rfl (any_of HT_.out (by kernel_rfl)) (fun _ _ _ h => h) (Or.inl ⟨by rfl, ?_⟩) ?_ ?_
rotate_left
·(
intro w'
go_simp
with_reducible rfl
)
rotate_left
·(
simp only [Act.put, List.setIfInBounds_toArray, List.set_cons_zero, List.set_cons_succ, i64_w, i32_w]
rfl
)
refine take_ (i := 11) (N := some 98) (v := ?_) (a' := ?_) #[T,T,T,T,T,T,T,T,T,T,T,T,T,T,F,F,F,F,F,F,F,F,F,F,F,F,F,F,F,F,F,F,F,F,F] rfl rfl (take_ofW HT_.out HW_.out (by kernel_rfl)) (fun _ _ _ h => h) (Or.inl ⟨by rfl, ?_⟩) hHeld ?_ ?_
rotate_left
·(
rintro w' ⟨s0, s1, s2, s3, s4, s5, s6, s7, s8, s9, s10, s11, s12, s13, s14, s15, s16, s17, s18, s19⟩
go_simp
with_reducible rfl
)
rotate_left
·(
simp only [Act.put, List.setIfInBounds_toArray, List.set_cons_zero, List.set_cons_succ, i64_w, i32_w]
rfl
)
refine pure_ (i := 14) (N := some 101) (v := ?_) (a' := ?_) #[T,T,T,T,T,T,T,T,T,T,T,T,T,T,T,F,F,F,F,F,F,F,F,F,F,F,F,F,F,F,F,F,F,F,F] rfl rfl (any_of HT_.out (by kernel_rfl)) (fun _ _ _ h => h) (Or.inl ⟨by rfl, ?_⟩) ?_ ?_
rotate_left
·(
intro w'
go_simp
with_reducible rfl
)
rotate_left
·(
simp only [Act.put, List.setIfInBounds_toArray, List.set_cons_zero, List.set_cons_succ, i64_w, i32_w]
rfl
)
refine pure_ (i := 15) (N := some 102) (v := ?_) (a' := ?_) #[T,T,T,T,T,T,T,T,T,T,T,T,T,T,T,T,F,F,F,F,F,F,F,F,F,F,F,F,F,F,F,F,F,F,F] rfl rfl (any_of HT_.out (by kernel_rfl)) (fun _ _ _ h => h) (Or.inl ⟨by rfl, ?_⟩) ?_ ?_
rotate_left
·(
intro w'
go_simp
with_reducible rfl
)
rotate_left
·(
simp only [Act.put, List.setIfInBounds_toArray, List.set_cons_zero, List.set_cons_succ, i64_w, i32_w]
rfl
)
refine pure_ (i := 16) (N := some 103) (v := ?_) (a' := ?_) #[T,T,T,T,T,T,T,T,T,T,T,T,T,T,T,T,T,F,F,F,F,F,F,F,F,F,F,F,F,F,F,F,F,F,F] rfl rfl (any_of HT_.out (by kernel_rfl)) (fun _ _ _ h => h) (Or.inl ⟨by rfl, ?_⟩) ?_ ?_
rotate_left
·(
intro w'
go_simp
with_reducible rfl
)
rotate_left
·(
simp only [Act.put, List.setIfInBounds_toArray, List.set_cons_zero, List.set_cons_succ, i64_w, i32_w]
rfl
)
refine pure_ (i := 17) (N := some 104) (v := ?_) (a' := ?_) #[T,T,T,T,T,T,T,T,T,T,T,T,T,T,T,T,T,T,F,F,F,F,F,F,F,F,F,F,F,F,F,F,F,F,F] rfl rfl (any_of HT_.out (by kernel_rfl)) (fun _ _ _ h => h) (Or.inl ⟨by rfl, ?_⟩) ?_ ?_
rotate_left
·(
intro w'
go_simp
with_reducible rfl
)
rotate_left
·(
simp only [Act.put, List.setIfInBounds_toArray, List.set_cons_zero, List.set_cons_succ, i64_w, i32_w]
rfl
)
refine pure_ (i := 18) (N := some 105) (v := ?_) (a' := ?_) #[T,T,T,T,T,T,T,T,T,T,T,T,T,T,T,T,T,T,T,F,F,F,F,F,F,F,F,F,F,F,F,F,F,F,F] rfl rfl (any_of HT_.out (by kernel_rfl)) (fun _ _ _ h => h) (Or.inl ⟨by rfl, ?_⟩) ?_ ?_
rotate_left
·(
intro w'
go_simp
with_reducible rfl
)
rotate_left
·(
simp only [Act.put, List.setIfInBounds_toArray, List.set_cons_zero, List.set_cons_succ, i64_w, i32_w]
rfl
)
refine pure_ (i := 19) (N := some 106) (v := ?_) (a' := ?_) #[T,T,T,T,T,T,T,T,T,T,T,T,T,T,T,T,T,T,T,T,F,F,F,F,F,F,F,F,F,F,F,F,F,F,F] rfl rfl (any_of HT_.out (by kernel_rfl)) (fun _ _ _ h => h) (Or.inl ⟨by rfl, ?_⟩) ?_ ?_
rotate_left
·(
intro w'
go_simp
with_reducible rfl
)
rotate_left
·(
simp only [Act.put, List.setIfInBounds_toArray, List.set_cons_zero, List.set_cons_succ, i64_w, i32_w]
rfl
)
refine pure_ (i := 20) (N := some 107) (v := ?_) (a' := ?_) #[T,T,T,T,T,T,T,T,T,T,T,T,T,T,T,T,T,T,T,T,T,F,F,F,F,F,F,F,F,F,F,F,F,F,F] rfl rfl (any_of HT_.out (by kernel_rfl)) (fun _ _ _ h => h) (Or.inl ⟨by rfl, ?_⟩) ?_ ?_
rotate_left
·(
intro w'
go_simp
with_reducible rfl
)
rotate_left
·(
simp only [Act.put, List.setIfInBounds_toArray, List.set_cons_zero, List.set_cons_succ, i64_w, i32_w]
rfl
)
refine pure_ (i := 22) (N := some 109) (v := ?_) (a' := ?_) #[T,T,T,T,T,T,T,T,T,T,T,T,T,T,T,T,T,T,T,T,T,F,T,F,F,F,F,F,F,F,F,F,F,F,F] rfl rfl (any_of HT_.out (by kernel_rfl)) (fun _ _ _ h => h) (Or.inl ⟨by rfl, ?_⟩) ?_ ?_
rotate_left
·(
intro w'
go_simp
with_reducible rfl
)
rotate_left
·(
simp only [Act.put, List.setIfInBounds_toArray, List.set_cons_zero, List.set_cons_succ, i64_w, i32_w]
rfl
)
refine take_ (i := 21) (N := some 108) (v := ?_) (a' := ?_) #[T,T,T,T,T,T,T,T,T,T,T,T,T,T,T,T,T,T,T,T,T,T,T,F,F,F,F,F,F,F,F,F,F,F,F] rfl rfl (take_ofW HT_.out HW_.out (by kernel_rfl)) (fun _ _ _ h => h) (Or.inl ⟨by rfl, ?_⟩) hHeld ?_ ?_
rotate_left
·(
rintro w' ⟨s0, s1, s2, s3, s4, s5, s6, s7, s8, s9, s10, s11, s12, s13, s14, s15, s16, s17, s18, s19⟩
go_simp
with_reducible rfl
)
rotate_left
·(
simp only [Act.put, List.setIfInBounds_toArray, List.set_cons_zero, List.set_cons_succ, i64_w, i32_w]
rfl
)
refine take_ (i := 23) (N := some 110) (v := ?_) (a' := ?_) #[T,T,T,T,T,T,T,T,T,T,T,T,T,T,T,T,T,T,T,T,T,T,T,T,F,F,F,F,F,F,F,F,F,F,F] rfl rfl (take_ofW HT_.out HW_.out (by kernel_rfl)) (fun _ _ _ h => h) (Or.inl ⟨by rfl, ?_⟩) hHeld ?_ ?_
rotate_left
·(
rintro w' ⟨s0, s1, s2, s3, s4, s5, s6, s7, s8, s9, s10, s11, s12, s13, s14, s15, s16, s17, s18, s19⟩
go_simp
with_reducible rfl
)
rotate_left
·(
simp only [Act.put, List.setIfInBounds_toArray, List.set_cons_zero, List.set_cons_succ, i64_w, i32_w]
rfl
)
refine pure_ (i := 24) (N := some 111) (v := ?_) (a' := ?_) #[T,T,T,T,T,T,T,T,T,T,T,T,T,T,T,T,T,T,T,T,T,T,T,T,T,F,F,F,F,F,F,F,F,F,F] rfl rfl (any_of HT_.out (by kernel_rfl)) (fun _ _ _ h => h) (Or.inl ⟨by rfl, ?_⟩) ?_ ?_
rotate_left
·(
intro w'
go_simp
with_reducible rfl
)
rotate_left
·(
simp only [Act.put, List.setIfInBounds_toArray, List.set_cons_zero, List.set_cons_succ, i64_w, i32_w]
rfl
)
refine pure_ (i := 25) (N := some 112) (v := ?_) (a' := ?_) #[T,T,T,T,T,T,T,T,T,T,T,T,T,T,T,T,T,T,T,T,T,T,T,T,T,T,F,F,F,F,F,F,F,F,F] rfl rfl (any_of HT_.out (by kernel_rfl)) (fun _ _ _ h => h) (Or.inl ⟨by rfl, ?_⟩) ?_ ?_
rotate_left
·(
intro w'
go_simp
with_reducible rfl
)
rotate_left
·(
simp only [Act.put, List.setIfInBounds_toArray, List.set_cons_zero, List.set_cons_succ, i64_w, i32_w]
rfl
)
refine pure_ (i := 26) (N := some 113) (v := ?_) (a' := ?_) #[T,T,T,T,T,T,T,T,T,T,T,T,T,T,T,T,T,T,T,T,T,T,T,T,T,T,T,F,F,F,F,F,F,F,F] rfl rfl (any_of HT_.out (by kernel_rfl)) (fun _ _ _ h => h) (Or.inl ⟨by rfl, ?_⟩) ?_ ?_
rotate_left
·(
intro w'
go_simp
with_reducible rfl
)
rotate_left
·(
simp only [Act.put, List.setIfInBounds_toArray, List.set_cons_zero, List.set_cons_succ, i64_w, i32_w]
rfl
)
refine pure_ (i := 27) (N := some 114) (v := ?_) (a' := ?_) #[T,T,T,T,T,T,T,T,T,T,T,T,T,T,T,T,T,T,T,T,T,T,T,T,T,T,T,T,F,F,F,F,F,F,F] rfl rfl (any_of HT_.out (by kernel_rfl)) (fun _ _ _ h => h) (Or.inl ⟨by rfl, ?_⟩) ?_ ?_
rotate_left
·(
intro w'
go_simp
with_reducible rfl
)
rotate_left
·(
simp only [Act.put, List.setIfInBounds_toArray, List.set_cons_zero, List.set_cons_succ, i64_w, i32_w]
rfl
)
refine pure_ (i := 28) (N := some 115) (v := ?_) (a' := ?_) #[T,T,T,T,T,T,T,T,T,T,T,T,T,T,T,T,T,T,T,T,T,T,T,T,T,T,T,T,T,F,F,F,F,F,F] rfl rfl (any_of HT_.out (by kernel_rfl)) (fun _ _ _ h => h) (Or.inl ⟨by rfl, ?_⟩) ?_ ?_
rotate_left
·(
intro w'
go_simp
with_reducible rfl
)
rotate_left
·(
simp only [Act.put, List.setIfInBounds_toArray, List.set_cons_zero, List.set_cons_succ, i64_w, i32_w]
rfl
)
refine pure_ (i := 29) (N := some 116) (v := ?_) (a' := ?_) #[T,T,T,T,T,T,T,T,T,T,T,T,T,T,T,T,T,T,T,T,T,T,T,T,T,T,T,T,T,T,F,F,F,F,F] rfl rfl (any_of HT_.out (by kernel_rfl)) (fun _ _ _ h => h) (Or.inl ⟨by rfl, ?_⟩) ?_ ?_
rotate_left
·(
intro w'
go_simp
with_reducible rfl
)
rotate_left
·(
simp only [Act.put, List.setIfInBounds_toArray, List.set_cons_zero, List.set_cons_succ, i64_w, i32_w]
rfl
)
refine pure_ (i := 30) (N := some 117) (v := ?_) (a' := ?_) #[T,T,T,T,T,T,T,T,T,T,T,T,T,T,T,T,T,T,T,T,T,T,T,T,T,T,T,T,T,T,T,F,F,F,F] rfl rfl (any_of HT_.out (by kernel_rfl)) (fun _ _ _ h => h) (Or.inl ⟨by rfl, ?_⟩) ?_ ?_
rotate_left
·(
intro w'
go_simp
with_reducible rfl
)
rotate_left
·(
simp only [Act.put, List.setIfInBounds_toArray, List.set_cons_zero, List.set_cons_succ, i64_w, i32_w]
rfl
)
refine take_ (i := 31) (N := some 118) (v := ?_) (a' := ?_) #[T,T,T,T,T,T,T,T,T,T,T,T,T,T,T,T,T,T,T,T,T,T,T,T,T,T,T,T,T,T,T,T,F,F,F] rfl rfl (take_ofW HT_.out HW_.out (by kernel_rfl)) (fun _ _ _ h => h) (Or.inl ⟨by rfl, ?_⟩) hHeld ?_ ?_
rotate_left
·(
rintro w' ⟨s0, s1, s2, s3, s4, s5, s6, s7, s8, s9, s10, s11, s12, s13, s14, s15, s16, s17, s18, s19⟩
go_simp
with_reducible rfl
)
rotate_left
·(
simp only [Act.put, List.setIfInBounds_toArray, List.set_cons_zero, List.set_cons_succ, i64_w, i32_w]
rfl
)
refine pure_ (i := 32) (N := some 119) (v := ?_) (a' := ?_) #[T,T,T,T,T,T,T,T,T,T,T,T,T,T,T,T,T,T,T,T,T,T,T,T,T,T,T,T,T,T,T,T,T,F,F] rfl rfl (any_of HT_.out (by kernel_rfl)) (fun _ _ _ h => h) (Or.inl ⟨by rfl, ?_⟩) ?_ ?_
rotate_left
·(
intro w'
go_simp
with_reducible rfl
)
rotate_left
·(
simp only [Act.put, List.setIfInBounds_toArray, List.set_cons_zero, List.set_cons_succ, i64_w, i32_w]
rfl
)
refine pure_ (i := 33) (N := some 120) (v := ?_) (a' := ?_) #[T,T,T,T,T,T,T,T,T,T,T,T,T,T,T,T,T,T,T,T,T,T,T,T,T,T,T,T,T,T,T,T,T,T,F] rfl rfl (any_of HT_.out (by kernel_rfl)) (fun _ _ _ h => h) (Or.inl ⟨by rfl, ?_⟩) ?_ ?_
rotate_left
·(
intro w'
go_simp
with_reducible rfl
)
rotate_left
·(
simp only [Act.put, List.setIfInBounds_toArray, List.set_cons_zero, List.set_cons_succ, i64_w, i32_w]
rfl
)
refine pure_ (i := 34) (N := some 121) (v := ?_) (a' := ?_) #[T,T,T,T,T,T,T,T,T,T,T,T,T,T,T,T,T,T,T,T,T,T,T,T,T,T,T,T,T,T,T,T,T,T,T] rfl rfl (any_of HT_.out (by kernel_rfl)) (fun _ _ _ h => h) (Or.inl ⟨by rfl, ?_⟩) ?_ ?_
rotate_left
·(
intro w'
go_simp
with_reducible rfl
)
rotate_left
·(
simp only [Act.put, List.setIfInBounds_toArray, List.set_cons_zero, List.set_cons_succ, i64_w, i32_w]
rfl
)
refine done_ (done_of HT_.out (by kernel_rfl)) ?_
have p283 : 0 ≤ (x16_3 : Int) := of_decide_eq_true (by first | (with_reducible assumption) | assumption)
have q283 : x16_3 < (t260.length : Int) := of_decide_eq_true (by first | (with_reducible assumption) | assumption)
obtain ⟨ad283, A283_3, c283_3, e283, hx283_0, hx283_1, hx283_2, hx283_3, hl283_3, hi283_3⟩ := at_T42 (Kd.S_reads' HO_7.out).2.2 x16_3 p283 q283
obtain rfl : ad270 = ad283 := (by injection e283)
obtain ⟨ce283, hce283, hMe283, hcc283⟩ := Kd.S_get HO_7.out z42 x16_3 p283 (by first | exact q283 | exact of_decide_eq_true (by first | (with_reducible assumption) | assumption) | (have e_ := (Kd.S_reads' HO_7.out).1; omega))
obtain ⟨ve283_3, rfl, ge283_3⟩ := k42_openM hMe283
have hv283_3 := hcc283 3 _ rfl
rw [add_field _ _ 3 (by omega)] at hv283_3
replace hv283_3 := Option.some.inj (hv283_3.symm.trans hx283_3)
rw [hv283_3] at ge283_3
have HL283_3 := Aside0.mk (show Kd.R k67 67 _ _ _ _ ((rd_T42 t260 x16_3).f3) from ge283_3)
clear hv283_3 ge283_3
clear hcc283 hce283
have HR283_3 := Aside0.mk hi283_3
have HC283_3 := Aside0.mk hl283_3
clear hi283_3 hl283_3
replace p283 := eq_true p283
replace q283 := eq_true q283
have ea_ := Option.some.inj (hx280_3.symm.trans hx283_3)
injection ea_ with ea_ en_ ec_
subst ea_
subst ec_
clear en_
try go_wp2_with (first | ((with_reducible refine gate_builtin (b := .append) (xs := #[.tmp 125, .tmp 130]) rfl ?_); (try (refine gate_guard (by rfl) ?_; dsimp only)); at_builtin; refine Kd.R_append_rows k67 (w0 := w) w.heap.size rfl (.tmp 125) (.tmp 130) 40 67 (.agg #[(.string ⟨#[]⟩), (.int .i64 0)]) 24 rfl Try.underlying40 info67 rfl (by decide) (by omega) u13 x13_3 ((rd_T42 t260 x16_3).f3) _ _ _ (fun _ => True) (fun _ => False) rfl rfl ?aO ?aR (fun _ _ h => h) (fun _ h => h.elim) ?aF ?aB ?aS ?aL ?_; (case aR => repeat (first | exact (by repeat (first | (with_reducible exact HR283_3.out) | (with_reducible refine Kd.C_alloc ?_ _) | (with_reducible refine Kd.C_drewN ?_ _) | (with_reducible refine Kd.C_drew ?_) | exact HR283_3.out)) | (with_reducible refine Kd.C_alloc ?_ _) | (with_reducible refine Kd.C_drewN ?_ _) | (with_reducible refine Kd.C_drew ?_))); (case aB => exact (by repeat (first | (with_reducible first | exact HB.out | apply below_alloc | apply pw_below_drewN | apply below_drew1 | refine below_set ?_ GE257.out) | exact HB.out))); (case aF => exact (fun _ _ => trivial)); (case aO => exact (by (with_reducible repeat (first | apply Kd.R_alloc | apply Kd.R_drewN | apply Kd.R_drew)); exact HO_13.out)); (case aS => exact (below_size (by repeat (first | (with_reducible first | exact HB.out | apply below_alloc | apply pw_below_drewN | apply below_drew1 | refine below_set ?_ GE257.out) | exact HB.out)))); (case aL => have := LMc51.out; omega); intro v285 w55 ho hb hg hat; rw [← Ny284.out] at ho; have n0_ := Aside0.mk (Kd.S_after (ok := (fun _ => True)) (by (with_reducible repeat (first | apply Kd.S_alloc | apply Kd.S_drewN | apply Kd.S_drew)); exact Kd.S_mono HO_7.out (fun _ hk => ⟨trivial, hk⟩)) hg hat); have n1_ := Aside0.mk (blk_grown (g := gb257) (o := .cells #[.string a0_0, .string a0_1, .string a0_2, .string a0_3, .string a0_4, .string a0_5, .int .i64 a0_6, .slice A0_7 l0_7.length c0_7] 24 (0, 0)) (by (with_reducible repeat (first | refine blk_drewN ?_ _ | refine blk_drew ?_ | refine blk_alloc ?_ _)); exact BK257.out) hg (Kd.R_ne HO_13.out BK257.out (by decide))); have n2_ := Aside0.mk (Kd.R_after (ok := (fun k_ => some k_ ≠ (.slice (some ad270) t260.length co29 : Value).ownBlock)) (by (with_reducible repeat (first | apply Kd.R_alloc | apply Kd.R_drewN | apply Kd.R_drew)); exact Kd.R_mono HL270_3.out (fun _ hk => ⟨hk.2, hk.1⟩)) hg hat); have n3_ := Aside0.mk (Kd.R_after (ok := (fun k_ => some k_ ≠ (.slice (some ad270) t260.length co29 : Value).ownBlock)) (by (with_reducible repeat (first | apply Kd.R_alloc | apply Kd.R_drewN | apply Kd.R_drew)); exact Kd.R_mono HL280_3.out (fun _ hk => ⟨hk.2, hk.1⟩)) hg hat); have n4_ := Aside0.mk (Kd.R_after (ok := (fun k_ => some k_ ≠ (.slice (some ad270) t260.length co29 : Value).ownBlock)) (by (with_reducible repeat (first | apply Kd.R_alloc | apply Kd.R_drewN | apply Kd.R_drew)); exact Kd.R_mono HL281_3.out (fun _ hk => ⟨hk.2, hk.1⟩)) hg hat); have n5_ := Aside0.mk (Kd.R_after (ok := (fun k_ => some k_ ≠ (.slice (some ad270) t260.length co29 : Value).ownBlock)) (by (with_reducible repeat (first | apply Kd.R_alloc | apply Kd.R_drewN | apply Kd.R_drew)); exact Kd.R_mono HL282_3.out (fun _ hk => ⟨hk.2, hk.1⟩)) hg hat); have n6_ := Aside0.mk (Kd.R_after (ok := (fun k_ => some k_ ≠ (.slice (some ad270) t260.length co29 : Value).ownBlock)) (by (with_reducible repeat (first | apply Kd.R_alloc | apply Kd.R_drewN | apply Kd.R_drew)); exact Kd.R_mono HL283_3.out (fun _ hk => ⟨hk.2, hk.1⟩)) hg hat); have n7_ := Aside0.mk (hb); have n8_ := Aside0.mk (ho); clear HO_7; clear BK257; clear HL270_3; clear HL280_3; clear HL281_3; clear HL282_3; clear HL283_3; clear HB; clear HO_13; have HO_7 := n0_; have BK257 := n1_; have HL270_3 := n2_; have HL280_3 := n3_; have HL281_3 := n4_; have HL282_3 := n5_; have HL283_3 := n6_; have HB := n7_; have HO286 := n8_; clear n0_ n1_ n2_ n3_ n4_ n5_ n6_ n7_ n8_; clear ho hb hg hat))
go_roundg k3
case measure => have := HJ5.out; have := HJ22.out; have := HK3.out; omega
case rel => exact ⟨(y284), (wrap64 (x15_3 + t271)), (wrap64 (x16_3 + 1)), (by first | rfl | (simp; done) | (simp [*]; done)), (by first | rfl | (simp; done) | (simp [*]; done)), H', ⟨by have := HJ5.out; have := HJ22.out; have := HK3.out; omega⟩, ⟨by (with_reducible repeat (first | apply Kd.S_alloc | apply Kd.S_drewN | apply Kd.S_drew)); exact Kd.S_mono HO_7.out (fun _ hk => hk.2)⟩, ⟨by (with_reducible repeat (first | apply Kd.R_alloc | apply Kd.R_drewN | apply Kd.R_drew)); exact HO286.out⟩, ⟨by (with_reducible repeat (first | refine blk_drewN ?_ _ | refine blk_drew ?_ | refine blk_alloc ?_ _)); exact BK257.out⟩, ⟨by repeat (first | (with_reducible first | exact HB.out | apply below_alloc | apply pw_below_drewN | apply below_drew1 | refine below_set ?_ GE257.out) | exact HB.out)⟩⟩
)
·(
rw [if_neg c51] at H
exact absurd H (by simp)
)
)
)
·(
rw [if_neg c49] at H
have c49b0 : (((rd_T42 t260 x16_3).f0).toList == a0_0.toList) = false := beq_eq_false_iff_ne.mpr c49
have c49b1 : (((rd_T42 t260 x16_3).f0).toList != a0_0.toList) = true := bne_iff_ne.mpr c49
exact absurd (Option.some.inj H) (by rw [hT.out]; decide)
)
)
·(
rw [if_neg c48] at H
have c48b0 : (((rd_T42 t260 x16_3).f1) == (wrap64 (x16_3 + 1))) = false := beq_eq_false_iff_ne.mpr c48
have c48b1 : (((rd_T42 t260 x16_3).f1) != (wrap64 (x16_3 + 1))) = true := bne_iff_ne.mpr c48
exact absurd (Option.some.inj H) (by rw [hT.out]; decide)
)
)
)
·(
rw [if_neg c36] at H
exact absurd H (by simp)
)
)
·(
rw [if_neg c35] at H
have c35b0 : decide (x16_3 < (t260.length : Int)) = false := decide_eq_false c35
clear c35
have H' := Aside0.mk H
clear H
go_wp2
go_loopg [14, 19] k3 (fun kq v14 v19 w' => ∃ (x14_4 : List (S67)) (x19_4 : Int), v19 = .int .i64 x19_4 ∧ Aside0 (supercargolaw19_OrderSums.l1 kq t264 t265 x13_3 x14_4 x15_3 x19_4 a0_0 a0_1 a0_2 a0_3 a0_4 a0_5 a0_6 l0_7 = some r) ∧ Aside0 (kq ≤ k3) ∧ Aside0 (Kd.R k67 67 w' w.heap.size (fun k_ => some k_ ≠ (v14 : Value).ownBlock) u13 x13_3) ∧ Aside0 (Kd.R k67 67 w' w.heap.size (fun k_ => some k_ ≠ (u13 : Value).ownBlock) v14 x14_4) ∧ Aside0 (w'.heap[gb257]? = some (.cells #[.string a0_0, .string a0_1, .string a0_2, .string a0_3, .string a0_4, .string a0_5, .int .i64 a0_6, (.slice A0_7 l0_7.length c0_7)] 24 (0, 0))) ∧ Aside0 (Below w.heap.size w w'))
case atStart => exact ⟨(([] : List (S67))), (0), (by first | rfl | (simp; done) | (simp [*]; done)), H', ⟨Nat.le_refl _⟩, ⟨by (with_reducible repeat (first | apply Kd.R_alloc | apply Kd.R_drewN | apply Kd.R_drew)); exact Kd.R_mono HO_13.out (fun _ hk => (by simp [Value.ownBlock]))⟩, ⟨by first | exact Kd.R_nil _ _ _ _ _ | exact Kd.N_nil _ _ _ _ _ | exact Kd.V_nil _ _ _ _ _ | exact Kd.Q_nil _ _ _ _ _ | exact Kd.S_nil _ _ _ _ _⟩, ⟨by (with_reducible repeat (first | refine blk_drewN ?_ _ | refine blk_drew ?_ | refine blk_alloc ?_ _)); exact BK257.out⟩, ⟨by repeat (first | (with_reducible first | exact HB.out | apply below_alloc | apply pw_below_drewN | apply below_drew1 | refine below_set ?_ GE257.out) | exact HB.out)⟩⟩
case round => (
clear H'
try clear c2
try clear p2
try clear q2
try clear hx2
try clear c3
try clear c4
try clear c5
try clear p6
try clear c27
try clear p27
try clear q27
try clear hx27
try clear c28
try clear p28
try clear q28
try clear hx28
try clear c31
try clear c35
try clear c35b0
try clear c36
try clear c38
try clear c38b0
try clear c38b1
try clear c48
try clear c48b0
try clear c48b1
try clear c49
try clear c49b0
try clear c49b1
try clear c50
try clear c50b0
try clear c50b1
try clear c50b2
try clear c51
try clear hx270_0
try clear hx270_1
try clear hx270_2
try clear hx270_3
try clear hx280_0
try clear hx280_1
try clear hx280_2
try clear hx280_3
try clear hx281_0
try clear hx281_1
try clear hx281_2
try clear hx281_3
try clear hx282_0
try clear hx282_1
try clear hx282_2
try clear hx282_3
try clear hx283_0
try clear hx283_1
try clear hx283_2
try clear hx283_3
try clear p270
try clear p280
try clear p281
try clear p282
try clear p283
try clear q270
try clear q280
try clear q281
try clear q282
try clear q283
obtain ⟨x14_4, x19_4, rfl, HA, HK4, HO_13, HO_14, BK257, HB⟩ := hrel
cases gk with
| zero => exact absurd HA.out (by simp [supercargolaw19_OrderSums.l1])
| succ k4 => (
have H := HA.out
clear HA
simp only [supercargolaw19_OrderSums.l1] at H
by_cases c56 : x19_4 < (l0_7.length : Int)
·(
rw [if_pos c56] at H
have c56b0 : decide (x19_4 < (l0_7.length : Int)) = true := decide_eq_true c56
clear c56
by_cases c57 : 0 ≤ x19_4
·(
rw [if_pos c57] at H
have c57b0 : decide (0 ≤ x19_4) = true := decide_eq_true c57
clear c57
by_cases c58 : x14_4.length < 5864062014805
·(
rw [if_pos c58] at H
have LMc58 := Aside0.mk c58
clear c58
obtain ⟨y289, hy289⟩ : ∃ y_ : List (S67), y_ = (x14_4 ++ [(⟨(rd_T65 l0_7 x19_4).f0, (rd_T65 l0_7 x19_4).f1⟩ : S67)]) := ⟨_, rfl⟩
replace H : (supercargolaw19_OrderSums.l1 k4 t264 t265 x13_3 y289 x15_3 (wrap64 (x19_4 + 1)) a0_0 a0_1 a0_2 a0_3 a0_4 a0_5 a0_6 l0_7) = some r := by first | (rw [hy289]; with_reducible exact H) | (have H2_ := (Option.bind_some _ _).symm.trans H; rw [hy289]; with_reducible exact H2_) | (have H2_ := (Option.bind_some _ _).symm.trans H; with_reducible exact H2_) | with_reducible exact H | (rw [hy289]; exact H) | exact H
have Ny289 := Aside0.mk hy289
clear hy289
have H' := Aside0.mk H
clear H
have hcz59_0 : wr.cell? ⟨gb257, 0, none⟩ = some (.string a0_0) := (blk_cell BK257.out 0).trans rfl
have hcz59_1 : wr.cell? ⟨gb257, 1, none⟩ = some (.string a0_1) := (blk_cell BK257.out 1).trans rfl
have hcz59_2 : wr.cell? ⟨gb257, 2, none⟩ = some (.string a0_2) := (blk_cell BK257.out 2).trans rfl
have hcz59_3 : wr.cell? ⟨gb257, 3, none⟩ = some (.string a0_3) := (blk_cell BK257.out 3).trans rfl
have hcz59_4 : wr.cell? ⟨gb257, 4, none⟩ = some (.string a0_4) := (blk_cell BK257.out 4).trans rfl
have hcz59_5 : wr.cell? ⟨gb257, 5, none⟩ = some (.string a0_5) := (blk_cell BK257.out 5).trans rfl
have hcz59_6 : wr.cell? ⟨gb257, 6, none⟩ = some (.int .i64 a0_6) := (blk_cell BK257.out 6).trans rfl
have hcz59_7 : wr.cell? ⟨gb257, 7, none⟩ = some (.slice A0_7 l0_7.length c0_7) := (blk_cell BK257.out 7).trans rfl
have hfz59_0 := blk_frozen BK257.out 0
have hfz59_1 := blk_frozen BK257.out 1
have hfz59_2 := blk_frozen BK257.out 2
have hfz59_3 := blk_frozen BK257.out 3
have hfz59_4 := blk_frozen BK257.out 4
have hfz59_5 := blk_frozen BK257.out 5
have hfz59_6 := blk_frozen BK257.out 6
have hfz59_7 := blk_frozen BK257.out 7
try go_wp2
have n0_ := Aside0.mk (Kd.R_drew HO_13.out)
have n1_ := Aside0.mk (Kd.R_drew HO_14.out)
have n2_ := Aside0.mk (blk_drew BK257.out)
have n3_ := Aside0.mk (below_drew1 HB.out)
clear HO_13
clear HO_14
clear BK257
clear HB
have HO_13 := n0_
have HO_14 := n1_
have BK257 := n2_
have HB := n3_
clear n0_ n1_ n2_ n3_
have p287 : 0 ≤ (x19_4 : Int) := of_decide_eq_true (by first | (with_reducible assumption) | assumption)
have q287 : x19_4 < (l0_7.length : Int) := of_decide_eq_true (by first | (with_reducible assumption) | assumption)
obtain ⟨ad287, e287, hx287_0, hx287_1, hx287_2⟩ := at_T65 HR0_7.out x19_4 p287 q287
have hw287_2 := hx287_2
have hw287_1 := hx287_1
have hw287_0 := hx287_0
cases e287
replace hx287_0 := (HB.out.cell (World.block_lt_of_cell? w _ hx287_0)).trans hx287_0
replace hx287_1 := (HB.out.cell (World.block_lt_of_cell? w _ hx287_1)).trans hx287_1
replace hx287_2 := (HB.out.cell (World.block_lt_of_cell? w _ hx287_2)).trans hx287_2
replace p287 := eq_true p287
replace q287 := eq_true q287
have p288 : 0 ≤ (x19_4 : Int) := of_decide_eq_true (by first | (with_reducible assumption) | assumption)
have q288 : x19_4 < (l0_7.length : Int) := of_decide_eq_true (by first | (with_reducible assumption) | assumption)
obtain ⟨ad288, e288, hx288_0, hx288_1, hx288_2⟩ := at_T65 HR0_7.out x19_4 p288 q288
have hw288_2 := hx288_2
have hw288_1 := hx288_1
have hw288_0 := hx288_0
obtain rfl : ad287 = ad288 := (by injection e288)
replace hx288_0 := (HB.out.cell (World.block_lt_of_cell? w _ hx288_0)).trans hx288_0
replace hx288_1 := (HB.out.cell (World.block_lt_of_cell? w _ hx288_1)).trans hx288_1
replace hx288_2 := (HB.out.cell (World.block_lt_of_cell? w _ hx288_2)).trans hx288_2
replace p288 := eq_true p288
replace q288 := eq_true q288
refine start_ (n := 17) (S := fun w' => w'.cell? ⟨gb257, 0, none⟩ = some (.string a0_0) ∧ w'.cell? ⟨gb257, 1, none⟩ = some (.string a0_1) ∧ w'.cell? ⟨gb257, 2, none⟩ = some (.string a0_2) ∧ w'.cell? ⟨gb257, 3, none⟩ = some (.string a0_3) ∧ w'.cell? ⟨gb257, 4, none⟩ = some (.string a0_4) ∧ w'.cell? ⟨gb257, 5, none⟩ = some (.string a0_5) ∧ w'.cell? ⟨gb257, 6, none⟩ = some (.int .i64 a0_6) ∧ w'.cell? ⟨gb257, 7, none⟩ = some (.slice (some ad287) l0_7.length c0_7) ∧ w'.cell? (ad287.add ((x19_4).toNat * 3)) = some (.string ((rd_T65 l0_7 x19_4).f0)) ∧ w'.cell? ⟨(ad287.add ((x19_4).toNat * 3)).block, (ad287.add ((x19_4).toNat * 3)).off + 1, none⟩ = some (.int .i64 ((rd_T65 l0_7 x19_4).f1)) ∧ w'.cell? ⟨(ad287.add ((x19_4).toNat * 3)).block, (ad287.add ((x19_4).toNat * 3)).off + 2, none⟩ = some (.int .i64 ((rd_T65 l0_7 x19_4).f2)) ∧ w'.cell? (ad287.add ((x19_4).toNat * 3)) = some (.string ((rd_T65 l0_7 x19_4).f0)) ∧ w'.cell? ⟨(ad287.add ((x19_4).toNat * 3)).block, (ad287.add ((x19_4).toNat * 3)).off + 1, none⟩ = some (.int .i64 ((rd_T65 l0_7 x19_4).f1)) ∧ w'.cell? ⟨(ad287.add ((x19_4).toNat * 3)).block, (ad287.add ((x19_4).toNat * 3)).off + 2, none⟩ = some (.int .i64 ((rd_T65 l0_7 x19_4).f2))) (ds := []) #[F,F,F,F,F,F,F,F,F,F,F,F,F,F,F,F,F] (by kernel_rfl) rfl rfl ⟨(blk_cell BK257.out 0).trans rfl, (blk_cell BK257.out 1).trans rfl, (blk_cell BK257.out 2).trans rfl, (blk_cell BK257.out 3).trans rfl, (blk_cell BK257.out 4).trans rfl, (blk_cell BK257.out 5).trans rfl, (blk_cell BK257.out 6).trans rfl, (blk_cell BK257.out 7).trans rfl, ((HB.out.cell (World.block_lt_of_cell? w _ hw287_0)).trans hw287_0), ((HB.out.cell (World.block_lt_of_cell? w _ hw287_1)).trans hw287_1), ((HB.out.cell (World.block_lt_of_cell? w _ hw287_2)).trans hw287_2), ((HB.out.cell (World.block_lt_of_cell? w _ hw288_0)).trans hw288_0), ((HB.out.cell (World.block_lt_of_cell? w _ hw288_1)).trans hw288_1), ((HB.out.cell (World.block_lt_of_cell? w _ hw288_2)).trans hw288_2)⟩ (fun hHeld => ?_); refine with_tabW supercargolaw19_OrderSums.tab25 supercargolaw19_OrderSums.bits25 (fun HT_ HW_ => ?_)
generalize wr.drew = w60 at HO_13 HO_14 BK257 HB hx287_0 hx287_1 hx287_2 hx288_0 hx288_1 hx288_2 hHeld ⊢
refine pure_ (i := 0) (N := some 139) (v := ?_) (a' := ?_) #[T,F,F,F,F,F,F,F,F,F,F,F,F,F,F,F,F] rfl rfl (any_of HT_.out (by kernel_rfl)) (fun _ _ _ h => h) (Or.inl ⟨by rfl, ?_⟩) ?_ ?_
rotate_left
·(
intro w'
go_simp
with_reducible rfl
)
rotate_left
·(
simp only [Act.put, List.setIfInBounds_toArray, List.set_cons_zero, List.set_cons_succ, i64_w, i32_w]
rfl
)
refine pure_ (i := 1) (N := some 140) (v := ?_) (a' := ?_) #[T,T,F,F,F,F,F,F,F,F,F,F,F,F,F,F,F] rfl rfl (any_of HT_.out (by kernel_rfl)) (fun _ _ _ h => h) (Or.inl ⟨by rfl, ?_⟩) ?_ ?_
rotate_left
·(
intro w'
go_simp
with_reducible rfl
)
rotate_left
·(
simp only [Act.put, List.setIfInBounds_toArray, List.set_cons_zero, List.set_cons_succ, i64_w, i32_w]
rfl
)
refine pure_ (i := 3) (N := some 142) (v := ?_) (a' := ?_) #[T,T,F,T,F,F,F,F,F,F,F,F,F,F,F,F,F] rfl rfl (any_of HT_.out (by kernel_rfl)) (fun _ _ _ h => h) (Or.inl ⟨by rfl, ?_⟩) ?_ ?_
rotate_left
·(
intro w'
go_simp
with_reducible rfl
)
rotate_left
·(
simp only [Act.put, List.setIfInBounds_toArray, List.set_cons_zero, List.set_cons_succ, i64_w, i32_w]
rfl
)
refine pure_ (i := 7) (N := some 146) (v := ?_) (a' := ?_) #[T,T,F,T,F,F,F,T,F,F,F,F,F,F,F,F,F] rfl rfl (any_of HT_.out (by kernel_rfl)) (fun _ _ _ h => h) (Or.inl ⟨by rfl, ?_⟩) ?_ ?_
rotate_left
·(
intro w'
go_simp
with_reducible rfl
)
rotate_left
·(
simp only [Act.put, List.setIfInBounds_toArray, List.set_cons_zero, List.set_cons_succ, i64_w, i32_w]
rfl
)
refine pure_ (i := 9) (N := some 148) (v := ?_) (a' := ?_) #[T,T,F,T,F,F,F,T,F,T,F,F,F,F,F,F,F] rfl rfl (any_of HT_.out (by kernel_rfl)) (fun _ _ _ h => h) (Or.inl ⟨by rfl, ?_⟩) ?_ ?_
rotate_left
·(
intro w'
go_simp
with_reducible rfl
)
rotate_left
·(
simp only [Act.put, List.setIfInBounds_toArray, List.set_cons_zero, List.set_cons_succ, i64_w, i32_w]
rfl
)
refine take_ (i := 2) (N := some 141) (v := ?_) (a' := ?_) #[T,T,T,T,F,F,F,T,F,T,F,F,F,F,F,F,F] rfl rfl (take_ofW HT_.out HW_.out (by kernel_rfl)) (fun _ _ _ h => h) (Or.inl ⟨by rfl, ?_⟩) hHeld ?_ ?_
rotate_left
·(
rintro w' ⟨s0, s1, s2, s3, s4, s5, s6, s7, s8, s9, s10, s11, s12, s13⟩
go_simp
with_reducible rfl
)
rotate_left
·(
simp only [Act.put, List.setIfInBounds_toArray, List.set_cons_zero, List.set_cons_succ, i64_w, i32_w]
rfl
)
refine pure_ (i := 4) (N := some 143) (v := ?_) (a' := ?_) #[T,T,T,T,T,F,F,T,F,T,F,F,F,F,F,F,F] rfl rfl (any_of HT_.out (by kernel_rfl)) (fun _ _ _ h => h) (Or.inl ⟨by rfl, ?_⟩) ?_ ?_
rotate_left
·(
intro w'
go_simp
with_reducible rfl
)
rotate_left
·(
simp only [Act.put, List.setIfInBounds_toArray, List.set_cons_zero, List.set_cons_succ, i64_w, i32_w]
rfl
)
refine pure_ (i := 5) (N := some 144) (v := ?_) (a' := ?_) #[T,T,T,T,T,T,F,T,F,T,F,F,F,F,F,F,F] rfl rfl (any_of HT_.out (by kernel_rfl)) (fun _ _ _ h => h) (Or.inl ⟨by rfl, ?_⟩) ?_ ?_
rotate_left
·(
intro w'
go_simp
with_reducible rfl
)
rotate_left
·(
simp only [Act.put, List.setIfInBounds_toArray, List.set_cons_zero, List.set_cons_succ, i64_w, i32_w]
rfl
)
refine take_ (i := 6) (N := some 145) (v := ?_) (a' := ?_) #[T,T,T,T,T,T,T,T,F,T,F,F,F,F,F,F,F] rfl rfl (take_ofW HT_.out HW_.out (by kernel_rfl)) (fun _ _ _ h => h) (Or.inl ⟨by rfl, ?_⟩) hHeld ?_ ?_
rotate_left
·(
rintro w' ⟨s0, s1, s2, s3, s4, s5, s6, s7, s8, s9, s10, s11, s12, s13⟩
go_simp
with_reducible rfl
)
rotate_left
·(
simp only [Act.put, List.setIfInBounds_toArray, List.set_cons_zero, List.set_cons_succ, i64_w, i32_w]
rfl
)
refine take_ (i := 8) (N := some 147) (v := ?_) (a' := ?_) #[T,T,T,T,T,T,T,T,T,T,F,F,F,F,F,F,F] rfl rfl (take_ofW HT_.out HW_.out (by kernel_rfl)) (fun _ _ _ h => h) (Or.inl ⟨by rfl, ?_⟩) hHeld ?_ ?_
rotate_left
·(
rintro w' ⟨s0, s1, s2, s3, s4, s5, s6, s7, s8, s9, s10, s11, s12, s13⟩
go_simp
with_reducible rfl
)
rotate_left
·(
simp only [Act.put, List.setIfInBounds_toArray, List.set_cons_zero, List.set_cons_succ, i64_w, i32_w]
rfl
)
refine pure_ (i := 10) (N := some 149) (v := ?_) (a' := ?_) #[T,T,T,T,T,T,T,T,T,T,T,F,F,F,F,F,F] rfl rfl (any_of HT_.out (by kernel_rfl)) (fun _ _ _ h => h) (Or.inl ⟨by rfl, ?_⟩) ?_ ?_
rotate_left
·(
intro w'
go_simp
with_reducible rfl
)
rotate_left
·(
simp only [Act.put, List.setIfInBounds_toArray, List.set_cons_zero, List.set_cons_succ, i64_w, i32_w]
rfl
)
refine pure_ (i := 11) (N := some 150) (v := ?_) (a' := ?_) #[T,T,T,T,T,T,T,T,T,T,T,T,F,F,F,F,F] rfl rfl (any_of HT_.out (by kernel_rfl)) (fun _ _ _ h => h) (Or.inl ⟨by rfl, ?_⟩) ?_ ?_
rotate_left
·(
intro w'
go_simp
with_reducible rfl
)
rotate_left
·(
simp only [Act.put, List.setIfInBounds_toArray, List.set_cons_zero, List.set_cons_succ, i64_w, i32_w]
rfl
)
refine take_ (i := 12) (N := some 151) (v := ?_) (a' := ?_) #[T,T,T,T,T,T,T,T,T,T,T,T,T,F,F,F,F] rfl rfl (take_ofW HT_.out HW_.out (by kernel_rfl)) (fun _ _ _ h => h) (Or.inl ⟨by rfl, ?_⟩) hHeld ?_ ?_
rotate_left
·(
rintro w' ⟨s0, s1, s2, s3, s4, s5, s6, s7, s8, s9, s10, s11, s12, s13⟩
go_simp
with_reducible rfl
)
rotate_left
·(
simp only [Act.put, List.setIfInBounds_toArray, List.set_cons_zero, List.set_cons_succ, i64_w, i32_w]
rfl
)
refine pure_ (i := 13) (N := some 152) (v := ?_) (a' := ?_) #[T,T,T,T,T,T,T,T,T,T,T,T,T,T,F,F,F] rfl rfl (any_of HT_.out (by kernel_rfl)) (fun _ _ _ h => h) (Or.inl ⟨by rfl, ?_⟩) ?_ ?_
rotate_left
·(
intro w'
go_simp
with_reducible rfl
)
rotate_left
·(
simp only [Act.put, List.setIfInBounds_toArray, List.set_cons_zero, List.set_cons_succ, i64_w, i32_w]
rfl
)
refine one_ (i := 14) (N := some 153) #[T,T,T,T,T,T,T,T,T,T,T,T,T,T,T,F,F] rfl rfl (one_of HT_.out (by kernel_rfl)) (by decide) (fun K hK => ?_)
refine value_ (w1 := ?_) (v := ?_) (by rfl) rfl ?_ ?_
rotate_left 2
·(
go_simp
constructor
·rfl
·rfl
)
refine hK.out _ _ ⟨(blk_cell (blk_alloc BK257.out _) 0).trans rfl, (blk_cell (blk_alloc BK257.out _) 1).trans rfl, (blk_cell (blk_alloc BK257.out _) 2).trans rfl, (blk_cell (blk_alloc BK257.out _) 3).trans rfl, (blk_cell (blk_alloc BK257.out _) 4).trans rfl, (blk_cell (blk_alloc BK257.out _) 5).trans rfl, (blk_cell (blk_alloc BK257.out _) 6).trans rfl, (blk_cell (blk_alloc BK257.out _) 7).trans rfl, (World.cell?_alloc_lt _ _ _ (World.block_lt_of_cell? _ _ (((HB.out.cell (World.block_lt_of_cell? w _ hw287_0)).trans hw287_0)))).trans (((HB.out.cell (World.block_lt_of_cell? w _ hw287_0)).trans hw287_0)), (World.cell?_alloc_lt _ _ _ (World.block_lt_of_cell? _ _ (((HB.out.cell (World.block_lt_of_cell? w _ hw287_1)).trans hw287_1)))).trans (((HB.out.cell (World.block_lt_of_cell? w _ hw287_1)).trans hw287_1)), (World.cell?_alloc_lt _ _ _ (World.block_lt_of_cell? _ _ (((HB.out.cell (World.block_lt_of_cell? w _ hw287_2)).trans hw287_2)))).trans (((HB.out.cell (World.block_lt_of_cell? w _ hw287_2)).trans hw287_2)), (World.cell?_alloc_lt _ _ _ (World.block_lt_of_cell? _ _ (((HB.out.cell (World.block_lt_of_cell? w _ hw288_0)).trans hw288_0)))).trans (((HB.out.cell (World.block_lt_of_cell? w _ hw288_0)).trans hw288_0)), (World.cell?_alloc_lt _ _ _ (World.block_lt_of_cell? _ _ (((HB.out.cell (World.block_lt_of_cell? w _ hw288_1)).trans hw288_1)))).trans (((HB.out.cell (World.block_lt_of_cell? w _ hw288_1)).trans hw288_1)), (World.cell?_alloc_lt _ _ _ (World.block_lt_of_cell? _ _ (((HB.out.cell (World.block_lt_of_cell? w _ hw288_2)).trans hw288_2)))).trans (((HB.out.cell (World.block_lt_of_cell? w _ hw288_2)).trans hw288_2))⟩ (fun hHeld => ?_)
clear hK K
refine norm_ (a' := ?_) ?_ ?_
rotate_left
·(
show Act.put _ (some 153) _ = _
simp only [Act.put, List.setIfInBounds_toArray, List.set_cons_zero, List.set_cons_succ, i64_w, i32_w]
rfl
)
refine one_ (i := 15) (N := some 154) #[T,T,T,T,T,T,T,T,T,T,T,T,T,T,T,T,F] rfl rfl (one_of HT_.out (by kernel_rfl)) (by decide) (fun K hK => ?_)
refine Kd.R_append_step k67 (w0 := w) w.heap.size (by rfl) (.tmp 139) (.tmp 153) 40 67 (.agg #[(.string ⟨#[]⟩), (.int .i64 0)]) 24 rfl Try.underlying40 info67 rfl (by decide) (by omega) u14 x14_4 (⟨(rd_T65 l0_7 x19_4).f0, (rd_T65 l0_7 x19_4).f1⟩ : S67) [.string ((rd_T65 l0_7 x19_4).f0), .int .i64 ((rd_T65 l0_7 x19_4).f1)] (fun k_ => some k_ ≠ (u13 : Value).ownBlock) (fun _ => False) rfl rfl ?aP (fun _ hk => hk.elim) ?aF ?aO ?aB ?aS ?aL ?_
(case aP => exact k67_mkM _ _ _ (⟨(rd_T65 l0_7 x19_4).f0, (rd_T65 l0_7 x19_4).f1⟩ : S67))
(case aB => exact (by repeat (first | (with_reducible first | exact HB.out | apply below_alloc | apply pw_below_drewN | apply below_drew1 | refine below_set ?_ GE257.out) | exact HB.out)))
(case aF => exact (fun k_ hk => Kd.fresh' (Kd.R_lt (by (with_reducible repeat (first | apply Kd.R_alloc | apply Kd.R_drewN | apply Kd.R_drew)); exact HO_13.out)) k_ hk))
(case aO => exact (by (with_reducible repeat (first | apply Kd.R_alloc | apply Kd.R_drewN | apply Kd.R_drew)); exact HO_14.out))
(case aS => exact (below_size (by repeat (first | (with_reducible first | exact HB.out | apply below_alloc | apply pw_below_drewN | apply below_drew1 | refine below_set ?_ GE257.out) | exact HB.out))))
(case aL => have := LMc58.out; omega)
intro v290 w61 ho hb hg hat
rw [← Ny289.out] at ho
have n0_ := Aside0.mk (Kd.R_after (ok := (fun _ => True)) (by (with_reducible repeat (first | apply Kd.R_alloc | apply Kd.R_drewN | apply Kd.R_drew)); exact Kd.R_mono HO_13.out (fun _ hk => ⟨trivial, hk⟩)) hg hat)
have n1_ := Aside0.mk (blk_grown (g := gb257) (o := .cells #[.string a0_0, .string a0_1, .string a0_2, .string a0_3, .string a0_4, .string a0_5, .int .i64 a0_6, .slice (some ad287) l0_7.length c0_7] 24 (0, 0)) (by (with_reducible repeat (first | refine blk_drewN ?_ _ | refine blk_drew ?_ | refine blk_alloc ?_ _)); exact BK257.out) hg (Kd.R_ne HO_14.out BK257.out (by decide)))
have n2_ := Aside0.mk (hb)
have n3_ := Aside0.mk (ho)
clear HO_13
clear BK257
clear HB
clear HO_14
have HO_13 := n0_
have BK257 := n1_
have HB := n2_
have HO291 := n3_
clear n0_ n1_ n2_ n3_
clear ho hb hg hat
refine hK.out _ _ ⟨(blk_cell BK257.out 0).trans rfl, (blk_cell BK257.out 1).trans rfl, (blk_cell BK257.out 2).trans rfl, (blk_cell BK257.out 3).trans rfl, (blk_cell BK257.out 4).trans rfl, (blk_cell BK257.out 5).trans rfl, (blk_cell BK257.out 6).trans rfl, (blk_cell BK257.out 7).trans rfl, ((HB.out.cell (World.block_lt_of_cell? w _ hw287_0)).trans hw287_0), ((HB.out.cell (World.block_lt_of_cell? w _ hw287_1)).trans hw287_1), ((HB.out.cell (World.block_lt_of_cell? w _ hw287_2)).trans hw287_2), ((HB.out.cell (World.block_lt_of_cell? w _ hw288_0)).trans hw288_0), ((HB.out.cell (World.block_lt_of_cell? w _ hw288_1)).trans hw288_1), ((HB.out.cell (World.block_lt_of_cell? w _ hw288_2)).trans hw288_2)⟩ (fun hHeld => ?_)
clear hK K
refine norm_ (a' := ?_) ?_ ?_
rotate_left
·(
show Act.put _ (some 154) _ = _
simp only [Act.put, List.setIfInBounds_toArray, List.set_cons_zero, List.set_cons_succ, i64_w, i32_w]
rfl
)
refine pure_ (i := 16) (N := some 14) (v := ?_) (a' := ?_) #[T,T,T,T,T,T,T,T,T,T,T,T,T,T,T,T,T] rfl rfl (any_of HT_.out (by kernel_rfl)) (fun _ _ _ h => h) (Or.inl ⟨by rfl, ?_⟩) ?_ ?_
rotate_left
·(
intro w'
go_simp
with_reducible rfl
)
rotate_left
·(
simp only [Act.put, List.setIfInBounds_toArray, List.set_cons_zero, List.set_cons_succ, i64_w, i32_w]
rfl
)
refine done_ (done_of HT_.out (by kernel_rfl)) ?_
try go_wp2
go_roundg k4
case measure => have := HJ5.out; have := HJ22.out; have := HK3.out; have := HK4.out; omega
case rel => exact ⟨(y289), (wrap64 (x19_4 + 1)), (by first | rfl | (simp; done) | (simp [*]; done)), H', ⟨by have := HJ5.out; have := HJ22.out; have := HK3.out; have := HK4.out; omega⟩, ⟨by (with_reducible repeat (first | apply Kd.R_alloc | apply Kd.R_drewN | apply Kd.R_drew)); exact Kd.R_mono HO_13.out (fun _ hk => hk.2)⟩, ⟨by (with_reducible repeat (first | apply Kd.R_alloc | apply Kd.R_drewN | apply Kd.R_drew)); exact HO291.out⟩, ⟨by (with_reducible repeat (first | refine blk_drewN ?_ _ | refine blk_drew ?_ | refine blk_alloc ?_ _)); exact BK257.out⟩, ⟨by repeat (first | (with_reducible first | exact HB.out | apply below_alloc | apply pw_below_drewN | apply below_drew1 | refine below_set ?_ GE257.out) | exact HB.out)⟩⟩
)
·(
rw [if_neg c58] at H
exact absurd H (by simp)
)
)
·(
rw [if_neg c57] at H
exact absurd H (by simp)
)
)
·(
rw [if_neg c56] at H
have c56b0 : decide (x19_4 < (l0_7.length : Int)) = false := decide_eq_false c56
clear c56
by_cases c62 : t265 = 0
·(
rw [if_pos c62] at H
have c62b0 : (t265 == 0) = true := beq_iff_eq.mpr c62
have c62b1 : (t265 != 0) = false := bne_eq_false_iff_eq.mpr c62
clear c62
by_cases c63 : x15_3 = t264
·(
rw [if_pos c63] at H
have c63b0 : (x15_3 == t264) = true := beq_iff_eq.mpr c63
have c63b1 : (x15_3 != t264) = false := bne_eq_false_iff_eq.mpr c63
clear c63
replace H := Option.bind_eq_some_iff.mp H
obtain ⟨t292, A640, H⟩ := H
replace H : ((goods_Join.f x14_4).bind fun t295 => ((sr11_Same.f k4 t292 t295).bind fun t298 => (some t298))) = some r := H
have A64 := Aside0.mk A640
clear A640
replace H := Option.bind_eq_some_iff.mp H
obtain ⟨t295, A650, H⟩ := H
replace H : ((sr11_Same.f k4 t292 t295).bind fun t298 => (some t298)) = some r := H
have A65 := Aside0.mk A650
clear A650
replace H := Option.bind_eq_some_iff.mp H
obtain ⟨t298, A660, H⟩ := H
replace H : (some t298) = some r := H
have A66 := Aside0.mk A660
clear A660
clear hT; obtain rfl := Option.some.inj H
have hcz67_0 : wr.cell? ⟨gb257, 0, none⟩ = some (.string a0_0) := (blk_cell BK257.out 0).trans rfl
have hcz67_1 : wr.cell? ⟨gb257, 1, none⟩ = some (.string a0_1) := (blk_cell BK257.out 1).trans rfl
have hcz67_2 : wr.cell? ⟨gb257, 2, none⟩ = some (.string a0_2) := (blk_cell BK257.out 2).trans rfl
have hcz67_3 : wr.cell? ⟨gb257, 3, none⟩ = some (.string a0_3) := (blk_cell BK257.out 3).trans rfl
have hcz67_4 : wr.cell? ⟨gb257, 4, none⟩ = some (.string a0_4) := (blk_cell BK257.out 4).trans rfl
have hcz67_5 : wr.cell? ⟨gb257, 5, none⟩ = some (.string a0_5) := (blk_cell BK257.out 5).trans rfl
have hcz67_6 : wr.cell? ⟨gb257, 6, none⟩ = some (.int .i64 a0_6) := (blk_cell BK257.out 6).trans rfl
have hcz67_7 : wr.cell? ⟨gb257, 7, none⟩ = some (.slice A0_7 l0_7.length c0_7) := (blk_cell BK257.out 7).trans rfl
have hfz67_0 := blk_frozen BK257.out 0
have hfz67_1 := blk_frozen BK257.out 1
have hfz67_2 := blk_frozen BK257.out 2
have hfz67_3 := blk_frozen BK257.out 3
have hfz67_4 := blk_frozen BK257.out 4
have hfz67_5 := blk_frozen BK257.out 5
have hfz67_6 := blk_frozen BK257.out 6
have hfz67_7 := blk_frozen BK257.out 7
obtain ⟨Ao68, co68, eo68⟩ := Kd.R_slice HO_13.out
subst eo68
go_wp2_with (first | (go_at_call 33; (with_reducible refine (goods_Join.calls _ _ x13_3 t292 _ ?side1 ?side2 A64.out).mono ?_); (case side1 => repeat (first | exact (Kd.R_reads' HO_13.out).2.2 | (with_reducible refine Kd.C_alloc ?_ _) | (with_reducible refine Kd.C_drewN ?_ _) | (with_reducible refine Kd.C_drew ?_))); (case side2 => exact (Kd.R_reads' HO_13.out).2.1); rintro e w69 ⟨v293, rfl, ho0, hb⟩; have n0_ := Aside0.mk (Kd.R_elder' (by (with_reducible repeat (first | apply Kd.R_alloc | apply Kd.R_drewN | apply Kd.R_drew)); exact HO_13.out) (Kd.R_base ho0) hb); have n1_ := Aside0.mk (Kd.R_elder' (by (with_reducible repeat (first | apply Kd.R_alloc | apply Kd.R_drewN | apply Kd.R_drew)); exact HO_14.out) (Kd.R_base ho0) hb); have n2_ := Aside0.mk (Kd.R_lower (Kd.R_new' (Kd.R_new' ho0 (Kd.R_lt (by (with_reducible repeat (first | apply Kd.R_alloc | apply Kd.R_drewN | apply Kd.R_drew)); exact HO_13.out))) (Kd.R_lt (by (with_reducible repeat (first | apply Kd.R_alloc | apply Kd.R_drewN | apply Kd.R_drew)); exact HO_14.out))) (below_size (by repeat (first | (with_reducible first | exact HB.out | apply below_alloc | apply pw_below_drewN | apply below_drew1 | refine below_set ?_ GE257.out) | exact HB.out)))); have n3_ := Aside0.mk (blk_below (g := gb257) (o := .cells #[.string a0_0, .string a0_1, .string a0_2, .string a0_3, .string a0_4, .string a0_5, .int .i64 a0_6, .slice A0_7 l0_7.length c0_7] 24 (0, 0)) (by (with_reducible repeat (first | refine blk_drewN ?_ _ | refine blk_drew ?_ | refine blk_alloc ?_ _)); exact BK257.out) hb); have n4_ := Aside0.mk (below_step (by repeat (first | (with_reducible first | exact HB.out | apply below_alloc | apply pw_below_drewN | apply below_drew1 | refine below_set ?_ GE257.out) | exact HB.out)) hb); clear HO_13; clear HO_14; clear BK257; clear HB; have HO_13 := n0_; have HO_14 := n1_; have HO294 := n2_; have BK257 := n3_; have HB := n4_; clear n0_ n1_ n2_ n3_ n4_; (try clear hb); (try clear hb2); (try clear hk); (try clear hi); (try clear ho0); obtain ⟨Ao70, co70, eo70⟩ := Kd.R_slice HO_14.out; subst eo70) | (go_at_call 33; (with_reducible refine (goods_Join.calls _ _ x14_4 t295 _ ?side1 ?side2 A65.out).mono ?_); (case side1 => repeat (first | exact (Kd.R_reads' HO_14.out).2.2 | (with_reducible refine Kd.C_alloc ?_ _) | (with_reducible refine Kd.C_drewN ?_ _) | (with_reducible refine Kd.C_drew ?_))); (case side2 => exact (Kd.R_reads' HO_14.out).2.1); rintro e w71 ⟨v296, rfl, ho0, hb⟩; have n0_ := Aside0.mk (Kd.R_elder' (by (with_reducible repeat (first | apply Kd.R_alloc | apply Kd.R_drewN | apply Kd.R_drew)); exact HO_13.out) (Kd.R_base ho0) hb); have n1_ := Aside0.mk (Kd.R_elder' (by (with_reducible repeat (first | apply Kd.R_alloc | apply Kd.R_drewN | apply Kd.R_drew)); exact HO_14.out) (Kd.R_base ho0) hb); have n2_ := Aside0.mk (Kd.R_elder' (by (with_reducible repeat (first | apply Kd.R_alloc | apply Kd.R_drewN | apply Kd.R_drew)); exact HO294.out) (Kd.R_base ho0) hb); have n3_ := Aside0.mk (Kd.R_lower (Kd.R_new' (Kd.R_new' (Kd.R_new' ho0 (Kd.R_lt (by (with_reducible repeat (first | apply Kd.R_alloc | apply Kd.R_drewN | apply Kd.R_drew)); exact HO_13.out))) (Kd.R_lt (by (with_reducible repeat (first | apply Kd.R_alloc | apply Kd.R_drewN | apply Kd.R_drew)); exact HO_14.out))) (Kd.R_lt (by (with_reducible repeat (first | apply Kd.R_alloc | apply Kd.R_drewN | apply Kd.R_drew)); exact HO294.out))) (below_size (by repeat (first | (with_reducible first | exact HB.out | apply below_alloc | apply pw_below_drewN | apply below_drew1 | refine below_set ?_ GE257.out) | exact HB.out)))); have n4_ := Aside0.mk (blk_below (g := gb257) (o := .cells #[.string a0_0, .string a0_1, .string a0_2, .string a0_3, .string a0_4, .string a0_5, .int .i64 a0_6, .slice A0_7 l0_7.length c0_7] 24 (0, 0)) (by (with_reducible repeat (first | refine blk_drewN ?_ _ | refine blk_drew ?_ | refine blk_alloc ?_ _)); exact BK257.out) hb); have n5_ := Aside0.mk (below_step (by repeat (first | (with_reducible first | exact HB.out | apply below_alloc | apply pw_below_drewN | apply below_drew1 | refine below_set ?_ GE257.out) | exact HB.out)) hb); clear HO_13; clear HO_14; clear HO294; clear BK257; clear HB; have HO_13 := n0_; have HO_14 := n1_; have HO294 := n2_; have HO297 := n3_; have BK257 := n4_; have HB := n5_; clear n0_ n1_ n2_ n3_ n4_ n5_; (try clear hb); (try clear hb2); (try clear hk); (try clear hi); (try clear ho0); obtain ⟨Ao72, co72, eo72⟩ := Kd.R_slice HO294.out; subst eo72; obtain ⟨Ao73, co73, eo73⟩ := Kd.R_slice HO297.out; subst eo73) | (go_at_call 32; (with_reducible refine (sr11_Same.calls k4 _ _ t292 _ _ t295 t298 _ ?side1 ?side2 ?side3 ?side4 A66.out).mono ?_); (case side1 => repeat (first | exact (Kd.R_reads' HO294.out).2.2 | (with_reducible refine Kd.C_alloc ?_ _) | (with_reducible refine Kd.C_drewN ?_ _) | (with_reducible refine Kd.C_drew ?_))); (case side2 => exact (Kd.R_reads' HO294.out).2.1); (case side3 => repeat (first | exact (Kd.R_reads' HO297.out).2.2 | (with_reducible refine Kd.C_alloc ?_ _) | (with_reducible refine Kd.C_drewN ?_ _) | (with_reducible refine Kd.C_drew ?_))); (case side4 => exact (Kd.R_reads' HO297.out).2.1); rintro e w' ⟨rfl, ⟨nd, rfl⟩⟩))
go_ret
exact ⟨by first | rfl | (simp [errW_none, errW_some] <;> rfl) | (simp [*, errW_none, errW_some] <;> rfl), by repeat (first | (with_reducible first | exact HB.out | apply below_alloc | apply pw_below_drewN | apply below_drew1 | refine below_set ?_ GE257.out) | exact HB.out)⟩
)
·(
rw [if_neg c63] at H
have c63b0 : (x15_3 == t264) = false := beq_eq_false_iff_ne.mpr c63
have c63b1 : (x15_3 != t264) = true := bne_iff_ne.mpr c63
exact absurd (Option.some.inj H) (by rw [hT.out]; decide)
)
)
·(
rw [if_neg c62] at H
have c62b0 : (t265 == 0) = false := beq_eq_false_iff_ne.mpr c62
have c62b1 : (t265 != 0) = true := bne_iff_ne.mpr c62
replace H := Option.bind_eq_some_iff.mp H
obtain ⟨t299, A740, H⟩ := H
replace H : ((goods_Join.f x14_4).bind fun t302 => ((sr11_Same.f k4 t299 t302).bind fun t305 => (some t305))) = some r := H
have A74 := Aside0.mk A740
clear A740
replace H := Option.bind_eq_some_iff.mp H
obtain ⟨t302, A750, H⟩ := H
replace H : ((sr11_Same.f k4 t299 t302).bind fun t305 => (some t305)) = some r := H
have A75 := Aside0.mk A750
clear A750
replace H := Option.bind_eq_some_iff.mp H
obtain ⟨t305, A760, H⟩ := H
replace H : (some t305) = some r := H
have A76 := Aside0.mk A760
clear A760
clear hT; obtain rfl := Option.some.inj H
have hcz77_0 : wr.cell? ⟨gb257, 0, none⟩ = some (.string a0_0) := (blk_cell BK257.out 0).trans rfl
have hcz77_1 : wr.cell? ⟨gb257, 1, none⟩ = some (.string a0_1) := (blk_cell BK257.out 1).trans rfl
have hcz77_2 : wr.cell? ⟨gb257, 2, none⟩ = some (.string a0_2) := (blk_cell BK257.out 2).trans rfl
have hcz77_3 : wr.cell? ⟨gb257, 3, none⟩ = some (.string a0_3) := (blk_cell BK257.out 3).trans rfl
have hcz77_4 : wr.cell? ⟨gb257, 4, none⟩ = some (.string a0_4) := (blk_cell BK257.out 4).trans rfl
have hcz77_5 : wr.cell? ⟨gb257, 5, none⟩ = some (.string a0_5) := (blk_cell BK257.out 5).trans rfl
have hcz77_6 : wr.cell? ⟨gb257, 6, none⟩ = some (.int .i64 a0_6) := (blk_cell BK257.out 6).trans rfl
have hcz77_7 : wr.cell? ⟨gb257, 7, none⟩ = some (.slice A0_7 l0_7.length c0_7) := (blk_cell BK257.out 7).trans rfl
have hfz77_0 := blk_frozen BK257.out 0
have hfz77_1 := blk_frozen BK257.out 1
have hfz77_2 := blk_frozen BK257.out 2
have hfz77_3 := blk_frozen BK257.out 3
have hfz77_4 := blk_frozen BK257.out 4
have hfz77_5 := blk_frozen BK257.out 5
have hfz77_6 := blk_frozen BK257.out 6
have hfz77_7 := blk_frozen BK257.out 7
obtain ⟨Ao78, co78, eo78⟩ := Kd.R_slice HO_13.out
subst eo78
go_wp2_with (first | (go_at_call 33; (with_reducible refine (goods_Join.calls _ _ x13_3 t299 _ ?side1 ?side2 A74.out).mono ?_); (case side1 => repeat (first | exact (Kd.R_reads' HO_13.out).2.2 | (with_reducible refine Kd.C_alloc ?_ _) | (with_reducible refine Kd.C_drewN ?_ _) | (with_reducible refine Kd.C_drew ?_))); (case side2 => exact (Kd.R_reads' HO_13.out).2.1); rintro e w79 ⟨v300, rfl, ho0, hb⟩; have n0_ := Aside0.mk (Kd.R_elder' (by (with_reducible repeat (first | apply Kd.R_alloc | apply Kd.R_drewN | apply Kd.R_drew)); exact HO_13.out) (Kd.R_base ho0) hb); have n1_ := Aside0.mk (Kd.R_elder' (by (with_reducible repeat (first | apply Kd.R_alloc | apply Kd.R_drewN | apply Kd.R_drew)); exact HO_14.out) (Kd.R_base ho0) hb); have n2_ := Aside0.mk (Kd.R_lower (Kd.R_new' (Kd.R_new' ho0 (Kd.R_lt (by (with_reducible repeat (first | apply Kd.R_alloc | apply Kd.R_drewN | apply Kd.R_drew)); exact HO_13.out))) (Kd.R_lt (by (with_reducible repeat (first | apply Kd.R_alloc | apply Kd.R_drewN | apply Kd.R_drew)); exact HO_14.out))) (below_size (by repeat (first | (with_reducible first | exact HB.out | apply below_alloc | apply pw_below_drewN | apply below_drew1 | refine below_set ?_ GE257.out) | exact HB.out)))); have n3_ := Aside0.mk (blk_below (g := gb257) (o := .cells #[.string a0_0, .string a0_1, .string a0_2, .string a0_3, .string a0_4, .string a0_5, .int .i64 a0_6, .slice A0_7 l0_7.length c0_7] 24 (0, 0)) (by (with_reducible repeat (first | refine blk_drewN ?_ _ | refine blk_drew ?_ | refine blk_alloc ?_ _)); exact BK257.out) hb); have n4_ := Aside0.mk (below_step (by repeat (first | (with_reducible first | exact HB.out | apply below_alloc | apply pw_below_drewN | apply below_drew1 | refine below_set ?_ GE257.out) | exact HB.out)) hb); clear HO_13; clear HO_14; clear BK257; clear HB; have HO_13 := n0_; have HO_14 := n1_; have HO301 := n2_; have BK257 := n3_; have HB := n4_; clear n0_ n1_ n2_ n3_ n4_; (try clear hb); (try clear hb2); (try clear hk); (try clear hi); (try clear ho0); obtain ⟨Ao80, co80, eo80⟩ := Kd.R_slice HO_14.out; subst eo80) | (go_at_call 33; (with_reducible refine (goods_Join.calls _ _ x14_4 t302 _ ?side1 ?side2 A75.out).mono ?_); (case side1 => repeat (first | exact (Kd.R_reads' HO_14.out).2.2 | (with_reducible refine Kd.C_alloc ?_ _) | (with_reducible refine Kd.C_drewN ?_ _) | (with_reducible refine Kd.C_drew ?_))); (case side2 => exact (Kd.R_reads' HO_14.out).2.1); rintro e w81 ⟨v303, rfl, ho0, hb⟩; have n0_ := Aside0.mk (Kd.R_elder' (by (with_reducible repeat (first | apply Kd.R_alloc | apply Kd.R_drewN | apply Kd.R_drew)); exact HO_13.out) (Kd.R_base ho0) hb); have n1_ := Aside0.mk (Kd.R_elder' (by (with_reducible repeat (first | apply Kd.R_alloc | apply Kd.R_drewN | apply Kd.R_drew)); exact HO_14.out) (Kd.R_base ho0) hb); have n2_ := Aside0.mk (Kd.R_elder' (by (with_reducible repeat (first | apply Kd.R_alloc | apply Kd.R_drewN | apply Kd.R_drew)); exact HO301.out) (Kd.R_base ho0) hb); have n3_ := Aside0.mk (Kd.R_lower (Kd.R_new' (Kd.R_new' (Kd.R_new' ho0 (Kd.R_lt (by (with_reducible repeat (first | apply Kd.R_alloc | apply Kd.R_drewN | apply Kd.R_drew)); exact HO_13.out))) (Kd.R_lt (by (with_reducible repeat (first | apply Kd.R_alloc | apply Kd.R_drewN | apply Kd.R_drew)); exact HO_14.out))) (Kd.R_lt (by (with_reducible repeat (first | apply Kd.R_alloc | apply Kd.R_drewN | apply Kd.R_drew)); exact HO301.out))) (below_size (by repeat (first | (with_reducible first | exact HB.out | apply below_alloc | apply pw_below_drewN | apply below_drew1 | refine below_set ?_ GE257.out) | exact HB.out)))); have n4_ := Aside0.mk (blk_below (g := gb257) (o := .cells #[.string a0_0, .string a0_1, .string a0_2, .string a0_3, .string a0_4, .string a0_5, .int .i64 a0_6, .slice A0_7 l0_7.length c0_7] 24 (0, 0)) (by (with_reducible repeat (first | refine blk_drewN ?_ _ | refine blk_drew ?_ | refine blk_alloc ?_ _)); exact BK257.out) hb); have n5_ := Aside0.mk (below_step (by repeat (first | (with_reducible first | exact HB.out | apply below_alloc | apply pw_below_drewN | apply below_drew1 | refine below_set ?_ GE257.out) | exact HB.out)) hb); clear HO_13; clear HO_14; clear HO301; clear BK257; clear HB; have HO_13 := n0_; have HO_14 := n1_; have HO301 := n2_; have HO304 := n3_; have BK257 := n4_; have HB := n5_; clear n0_ n1_ n2_ n3_ n4_ n5_; (try clear hb); (try clear hb2); (try clear hk); (try clear hi); (try clear ho0); obtain ⟨Ao82, co82, eo82⟩ := Kd.R_slice HO301.out; subst eo82; obtain ⟨Ao83, co83, eo83⟩ := Kd.R_slice HO304.out; subst eo83) | (go_at_call 32; (with_reducible refine (sr11_Same.calls k4 _ _ t299 _ _ t302 t305 _ ?side1 ?side2 ?side3 ?side4 A76.out).mono ?_); (case side1 => repeat (first | exact (Kd.R_reads' HO301.out).2.2 | (with_reducible refine Kd.C_alloc ?_ _) | (with_reducible refine Kd.C_drewN ?_ _) | (with_reducible refine Kd.C_drew ?_))); (case side2 => exact (Kd.R_reads' HO301.out).2.1); (case side3 => repeat (first | exact (Kd.R_reads' HO304.out).2.2 | (with_reducible refine Kd.C_alloc ?_ _) | (with_reducible refine Kd.C_drewN ?_ _) | (with_reducible refine Kd.C_drew ?_))); (case side4 => exact (Kd.R_reads' HO304.out).2.1); rintro e w' ⟨rfl, ⟨nd, rfl⟩⟩))
go_ret
exact ⟨by first | rfl | (simp [errW_none, errW_some] <;> rfl) | (simp [*, errW_none, errW_some] <;> rfl), by repeat (first | (with_reducible first | exact HB.out | apply below_alloc | apply pw_below_drewN | apply below_drew1 | refine below_set ?_ GE257.out) | exact HB.out)⟩
)
)
)
)
)
)
)
)
)
)
)
·(
rw [if_neg c20] at H
have c20b0 : (t263 == 0) = false := beq_eq_false_iff_ne.mpr c20
have c20b1 : (t263 != 0) = true := bne_iff_ne.mpr c20
clear hT; obtain rfl := Option.some.inj H
have hcz84_0 : wc.cell? ⟨gb257, 0, none⟩ = some (.string a0_0) := (blk_cell BK257.out 0).trans rfl
have hcz84_1 : wc.cell? ⟨gb257, 1, none⟩ = some (.string a0_1) := (blk_cell BK257.out 1).trans rfl
have hcz84_2 : wc.cell? ⟨gb257, 2, none⟩ = some (.string a0_2) := (blk_cell BK257.out 2).trans rfl
have hcz84_3 : wc.cell? ⟨gb257, 3, none⟩ = some (.string a0_3) := (blk_cell BK257.out 3).trans rfl
have hcz84_4 : wc.cell? ⟨gb257, 4, none⟩ = some (.string a0_4) := (blk_cell BK257.out 4).trans rfl
have hcz84_5 : wc.cell? ⟨gb257, 5, none⟩ = some (.string a0_5) := (blk_cell BK257.out 5).trans rfl
have hcz84_6 : wc.cell? ⟨gb257, 6, none⟩ = some (.int .i64 a0_6) := (blk_cell BK257.out 6).trans rfl
have hcz84_7 : wc.cell? ⟨gb257, 7, none⟩ = some (.slice A0_7 l0_7.length c0_7) := (blk_cell BK257.out 7).trans rfl
have hfz84_0 := blk_frozen BK257.out 0
have hfz84_1 := blk_frozen BK257.out 1
have hfz84_2 := blk_frozen BK257.out 2
have hfz84_3 := blk_frozen BK257.out 3
have hfz84_4 := blk_frozen BK257.out 4
have hfz84_5 := blk_frozen BK257.out 5
have hfz84_6 := blk_frozen BK257.out 6
have hfz84_7 := blk_frozen BK257.out 7
go_wp2_with (first | ((with_reducible refine gate_callee (f := 19) rfl ?_); refine goesL_ (some 39) rfl rfl Try.func19 (by kernel_rfl) rfl #[.agg #[.string a0_0, .string a0_1, .string a0_2, .string a0_3, .string a0_4, .string a0_5, .int .i64 a0_6, .slice A0_7 l0_7.length c0_7], .slice A1 l1.length c1, .slice A2 l2.length c2] rfl (by (try simp only [List.map_toArray, List.map_cons, List.map_nil]); first | done | rfl | (simp only [List.length_drop, List.length_take]; rfl)) ?_; (with_reducible refine (order_Cut.calls kj5 a0_0 a0_1 a0_2 a0_3 a0_4 a0_5 a0_6 _ _ l0_7 _ _ l1 _ _ l2 t260 t263 _ ?side1 ?side2 ?side3 ?side4 ?side5 ?side6 A19.out).mono ?_); (case side1 => repeat (first | exact (Kd.C_below HR0_7.out HB.out) | (with_reducible refine Kd.C_alloc ?_ _) | (with_reducible refine Kd.C_drewN ?_ _) | (with_reducible refine Kd.C_drew ?_))); (case side2 => exact HC0_7.out); (case side3 => repeat (first | exact (Kd.C_below HR1.out HB.out) | (with_reducible refine Kd.C_alloc ?_ _) | (with_reducible refine Kd.C_drewN ?_ _) | (with_reducible refine Kd.C_drew ?_))); (case side4 => exact HC1.out); (case side5 => repeat (first | exact (Kd.C_below HR2.out HB.out) | (with_reducible refine Kd.C_alloc ?_ _) | (with_reducible refine Kd.C_drewN ?_ _) | (with_reducible refine Kd.C_drew ?_))); (case side6 => exact HC2.out); rintro e w85 ⟨v261, rfl, ho0, hb⟩; refine ⟨_, rfl, ?_⟩; have n0_ := Aside0.mk (Kd.S_lower ho0 (below_size (by repeat (first | (with_reducible first | exact HB.out | apply below_alloc | apply pw_below_drewN | apply below_drew1 | refine below_set ?_ GE257.out) | exact HB.out)))); have n1_ := Aside0.mk (blk_below (g := gb257) (o := .cells #[.string a0_0, .string a0_1, .string a0_2, .string a0_3, .string a0_4, .string a0_5, .int .i64 a0_6, .slice A0_7 l0_7.length c0_7] 24 (0, 0)) (by (with_reducible repeat (first | refine blk_drewN ?_ _ | refine blk_drew ?_ | refine blk_alloc ?_ _)); exact BK257.out) hb); have n2_ := Aside0.mk (below_step (by repeat (first | (with_reducible first | exact HB.out | apply below_alloc | apply pw_below_drewN | apply below_drew1 | refine below_set ?_ GE257.out) | exact HB.out)) hb); clear BK257; clear HB; have HO262 := n0_; have BK257 := n1_; have HB := n2_; clear n0_ n1_ n2_; (try clear hb); (try clear hb2); (try clear hk); (try clear hi); (try clear ho0); obtain ⟨Ao86, co86, eo86⟩ := Kd.S_slice HO262.out; subst eo86))
go_ret
exact ⟨by first | rfl | (simp [errW_none, errW_some] <;> rfl) | (simp [*, errW_none, errW_some] <;> rfl), by repeat (first | (with_reducible first | exact HB.out | apply below_alloc | apply pw_below_drewN | apply below_drew1 | refine below_set ?_ GE257.out) | exact HB.out)⟩
)
)
)
)
)
 ·(
replace c5 := Bool.eq_false_iff.mpr c5
subst c5
have H1 : (some false) = some r := by rw [if_neg (show ¬ (false = true) by decide)] at H; exact H
clear H
have H := H1
clear H1
exact absurd (Option.some.inj H) (by rw [hT.out]; decide)
)

end Go.Proofs.Ytlhaaccdiienbaa.X
