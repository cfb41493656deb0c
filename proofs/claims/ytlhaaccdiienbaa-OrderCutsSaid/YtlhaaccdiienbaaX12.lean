-- Written for this claim by a program of this session (wip/tools/xprint.py) out of the translation.
import Derived.Test.YtlhaaccdiienbaaX0
import Derived.Test.YtlhaaccdiienbaaX8
namespace Go.Proofs.Ytlhaaccdiienbaa.X
open Go.RowKit Go.Proofs.YtlhaaccdiienbaaW.PrintWords Go.Proofs.YtlhaaccdiienbaaW.PrintLast Go.Proofs.YtlhaaccdiienbaaW.PrintMore
attribute [local go_sem] max2_int min2_int max_two min_two max_three min_three max_four min_four   -- for this text's walks alone
set_option linter.unusedVariables false
set_option linter.unusedSimpArgs false

mutual
def sr19_Wrong.j0 : Nat → List Int → List (List Int) → Bool → ByteArray → ByteArray → ByteArray → ByteArray → ByteArray → ByteArray → Int → List (S65) → Option (Int)
 | 0, _, _, _, _, _, _, _, _, _, _, _ => none
 | k + 1, x1, x2, x35, x182000, x182001, x182002, x182003, x182004, x182005, x182006, x182007 => if x35 = true then (some 1) else (sr19_Wrong.l0 k x1 x2 0 x182000 x182001 x182002 x182003 x182004 x182005 x182006 x182007)
def sr19_Wrong.l0 : Nat → List Int → List (List Int) → Int → ByteArray → ByteArray → ByteArray → ByteArray → ByteArray → ByteArray → Int → List (S65) → Option (Int)
 | 0, _, _, _, _, _, _, _, _, _, _, _ => none
 | k + 1, x1, x2, x7, x182000, x182001, x182002, x182003, x182004, x182005, x182006, x182007 => if x7 < (x2.length : Int) then (if 0 ≤ x7 then (if x7 < (x1.length : Int) then (if (rd x1 x7) < 0 then (sr19_Wrong.j2 k x1 x2 x7 true x182000 x182001 x182002 x182003 x182004 x182005 x182006 x182007) else (if (rd x1 x7) > 1048576 then (sr19_Wrong.j2 k x1 x2 x7 true x182000 x182001 x182002 x182003 x182004 x182005 x182006 x182007) else (sr19_Wrong.j2 k x1 x2 x7 (((rd_L5 x2 x7).length : Int) != (x182007.length : Int)) x182000 x182001 x182002 x182003 x182004 x182005 x182006 x182007))) else (none)) else (none)) else (sr19_Wrong.l2 k x1 x2 1 x182000 x182001 x182002 x182003 x182004 x182005 x182006 x182007)
def sr19_Wrong.j2 : Nat → List Int → List (List Int) → Int → Bool → ByteArray → ByteArray → ByteArray → ByteArray → ByteArray → ByteArray → Int → List (S65) → Option (Int)
 | 0, _, _, _, _, _, _, _, _, _, _, _, _ => none
 | k + 1, x1, x2, x7, x64, x182000, x182001, x182002, x182003, x182004, x182005, x182006, x182007 => if x64 = true then (some 1) else (sr19_Wrong.l1 k x1 x2 x7 0 x182000 x182001 x182002 x182003 x182004 x182005 x182006 x182007)
def sr19_Wrong.l1 : Nat → List Int → List (List Int) → Int → Int → ByteArray → ByteArray → ByteArray → ByteArray → ByteArray → ByteArray → Int → List (S65) → Option (Int)
 | 0, _, _, _, _, _, _, _, _, _, _, _, _ => none
 | k + 1, x1, x2, x7, x8, x182000, x182001, x182002, x182003, x182004, x182005, x182006, x182007 => if 0 ≤ x7 then (if x7 < (x2.length : Int) then (if x8 < ((rd_L5 x2 x7).length : Int) then (if 0 ≤ x8 then (if (rd (rd_L5 x2 x7) x8) < 0 then (some 1) else (sr19_Wrong.l1 k x1 x2 x7 (wrap64 (x8 + 1)) x182000 x182001 x182002 x182003 x182004 x182005 x182006 x182007)) else (none)) else (sr19_Wrong.l0 k x1 x2 (wrap64 (x7 + 1)) x182000 x182001 x182002 x182003 x182004 x182005 x182006 x182007)) else (none)) else (none)
def sr19_Wrong.l2 : Nat → List Int → List (List Int) → Int → ByteArray → ByteArray → ByteArray → ByteArray → ByteArray → ByteArray → Int → List (S65) → Option (Int)
 | 0, _, _, _, _, _, _, _, _, _, _, _ => none
 | k + 1, x1, x2, x9, x182000, x182001, x182002, x182003, x182004, x182005, x182006, x182007 => if x9 < (x1.length : Int) then (if 0 ≤ x9 then (if 0 ≤ (wrap64 (x9 - 1)) then (if (wrap64 (x9 - 1)) < (x1.length : Int) then (if (rd x1 x9) < (rd x1 (wrap64 (x9 - 1))) then (some 6) else (sr19_Wrong.l2 k x1 x2 (wrap64 (x9 + 1)) x182000 x182001 x182002 x182003 x182004 x182005 x182006 x182007)) else (none)) else (none)) else (none)) else (sr19_Wrong.l3 k x2 0 x182000 x182001 x182002 x182003 x182004 x182005 x182006 x182007)
def sr19_Wrong.l3 : Nat → List (List Int) → Int → ByteArray → ByteArray → ByteArray → ByteArray → ByteArray → ByteArray → Int → List (S65) → Option (Int)
 | 0, _, _, _, _, _, _, _, _, _, _ => none
 | k + 1, x2, x10, x182000, x182001, x182002, x182003, x182004, x182005, x182006, x182007 => if x10 < (x2.length : Int) then (sr19_Wrong.l4 k x2 x10 false 0 x182000 x182001 x182002 x182003 x182004 x182005 x182006 x182007) else (sr19_Wrong.l5 k x2 0 x182000 x182001 x182002 x182003 x182004 x182005 x182006 x182007)
def sr19_Wrong.l4 : Nat → List (List Int) → Int → Bool → Int → ByteArray → ByteArray → ByteArray → ByteArray → ByteArray → ByteArray → Int → List (S65) → Option (Int)
 | 0, _, _, _, _, _, _, _, _, _, _, _, _ => none
 | k + 1, x2, x10, x11, x12, x182000, x182001, x182002, x182003, x182004, x182005, x182006, x182007 => if 0 ≤ x10 then (if x10 < (x2.length : Int) then (if x12 < ((rd_L5 x2 x10).length : Int) then (if x11 = true then (sr19_Wrong.l4 k x2 x10 true (wrap64 (x12 + 1)) x182000 x182001 x182002 x182003 x182004 x182005 x182006 x182007) else (if 0 ≤ x12 then (sr19_Wrong.l4 k x2 x10 (decide ((rd (rd_L5 x2 x10) x12) > 0)) (wrap64 (x12 + 1)) x182000 x182001 x182002 x182003 x182004 x182005 x182006 x182007) else (none))) else (if x11 = true then (sr19_Wrong.l3 k x2 (wrap64 (x10 + 1)) x182000 x182001 x182002 x182003 x182004 x182005 x182006 x182007) else (some 4))) else (none)) else (none)
def sr19_Wrong.l5 : Nat → List (List Int) → Int → ByteArray → ByteArray → ByteArray → ByteArray → ByteArray → ByteArray → Int → List (S65) → Option (Int)
 | 0, _, _, _, _, _, _, _, _, _, _ => none
 | k + 1, x2, x13, x182000, x182001, x182002, x182003, x182004, x182005, x182006, x182007 => if x13 < (x182007.length : Int) then (if 0 ≤ x13 then (sr19_Wrong.l6 k x2 x13 ((rd_T65 x182007 x13).f1) 0 x182000 x182001 x182002 x182003 x182004 x182005 x182006 x182007) else (none)) else (some 0)
def sr19_Wrong.l6 : Nat → List (List Int) → Int → Int → Int → ByteArray → ByteArray → ByteArray → ByteArray → ByteArray → ByteArray → Int → List (S65) → Option (Int)
 | 0, _, _, _, _, _, _, _, _, _, _, _, _ => none
 | k + 1, x2, x13, x14, x15, x182000, x182001, x182002, x182003, x182004, x182005, x182006, x182007 => if x15 < (x2.length : Int) then (if 0 ≤ x15 then (if 0 ≤ x13 then (if x13 < ((rd_L5 x2 x15).length : Int) then (if (rd (rd_L5 x2 x15) x13) > x14 then (some 3) else (sr19_Wrong.l6 k x2 x13 (wrap64 (x14 - (rd (rd_L5 x2 x15) x13))) (wrap64 (x15 + 1)) x182000 x182001 x182002 x182003 x182004 x182005 x182006 x182007)) else (none)) else (none)) else (none)) else (if x14 = 0 then (sr19_Wrong.l5 k x2 (wrap64 (x13 + 1)) x182000 x182001 x182002 x182003 x182004 x182005 x182006 x182007) else (some 3))
end
def sr19_Wrong.f (k : Nat) (a0_0 : ByteArray) (a0_1 : ByteArray) (a0_2 : ByteArray) (a0_3 : ByteArray) (a0_4 : ByteArray) (a0_5 : ByteArray) (a0_6 : Int) (l0_7 : List (S65)) (l1 : List Int) (l2 : List (List Int)) : Option (Int) := (sr19_May.f k a0_0 a0_1 a0_2 a0_3 a0_4 a0_5 a0_6 l0_7).bind fun t182 => (if t182 = true then (if (l2.length : Int) = (l1.length : Int) then (if (l2.length : Int) < 1 then (sr19_Wrong.j0 k l1 l2 true a0_0 a0_1 a0_2 a0_3 a0_4 a0_5 a0_6 l0_7) else (sr19_Wrong.j0 k l1 l2 (decide ((l2.length : Int) > 64)) a0_0 a0_1 a0_2 a0_3 a0_4 a0_5 a0_6 l0_7)) else (sr19_Wrong.j0 k l1 l2 true a0_0 a0_1 a0_2 a0_3 a0_4 a0_5 a0_6 l0_7)) else (sr19_Wrong.j0 k l1 l2 true a0_0 a0_1 a0_2 a0_3 a0_4 a0_5 a0_6 l0_7))
theorem sr19_Wrong.mono_l : ∀ k, (∀ y0 y1 y2 y3 y4 y5 y6 y7 y8 y9 y10, LeO (sr19_Wrong.j0 k y0 y1 y2 y3 y4 y5 y6 y7 y8 y9 y10) (sr19_Wrong.j0 (k + 1) y0 y1 y2 y3 y4 y5 y6 y7 y8 y9 y10)) ∧ (∀ y0 y1 y2 y3 y4 y5 y6 y7 y8 y9 y10, LeO (sr19_Wrong.l0 k y0 y1 y2 y3 y4 y5 y6 y7 y8 y9 y10) (sr19_Wrong.l0 (k + 1) y0 y1 y2 y3 y4 y5 y6 y7 y8 y9 y10)) ∧ (∀ y0 y1 y2 y3 y4 y5 y6 y7 y8 y9 y10 y11, LeO (sr19_Wrong.j2 k y0 y1 y2 y3 y4 y5 y6 y7 y8 y9 y10 y11) (sr19_Wrong.j2 (k + 1) y0 y1 y2 y3 y4 y5 y6 y7 y8 y9 y10 y11)) ∧ (∀ y0 y1 y2 y3 y4 y5 y6 y7 y8 y9 y10 y11, LeO (sr19_Wrong.l1 k y0 y1 y2 y3 y4 y5 y6 y7 y8 y9 y10 y11) (sr19_Wrong.l1 (k + 1) y0 y1 y2 y3 y4 y5 y6 y7 y8 y9 y10 y11)) ∧ (∀ y0 y1 y2 y3 y4 y5 y6 y7 y8 y9 y10, LeO (sr19_Wrong.l2 k y0 y1 y2 y3 y4 y5 y6 y7 y8 y9 y10) (sr19_Wrong.l2 (k + 1) y0 y1 y2 y3 y4 y5 y6 y7 y8 y9 y10)) ∧ (∀ y0 y1 y2 y3 y4 y5 y6 y7 y8 y9, LeO (sr19_Wrong.l3 k y0 y1 y2 y3 y4 y5 y6 y7 y8 y9) (sr19_Wrong.l3 (k + 1) y0 y1 y2 y3 y4 y5 y6 y7 y8 y9)) ∧ (∀ y0 y1 y2 y3 y4 y5 y6 y7 y8 y9 y10 y11, LeO (sr19_Wrong.l4 k y0 y1 y2 y3 y4 y5 y6 y7 y8 y9 y10 y11) (sr19_Wrong.l4 (k + 1) y0 y1 y2 y3 y4 y5 y6 y7 y8 y9 y10 y11)) ∧ (∀ y0 y1 y2 y3 y4 y5 y6 y7 y8 y9, LeO (sr19_Wrong.l5 k y0 y1 y2 y3 y4 y5 y6 y7 y8 y9) (sr19_Wrong.l5 (k + 1) y0 y1 y2 y3 y4 y5 y6 y7 y8 y9)) ∧ (∀ y0 y1 y2 y3 y4 y5 y6 y7 y8 y9 y10 y11, LeO (sr19_Wrong.l6 k y0 y1 y2 y3 y4 y5 y6 y7 y8 y9 y10 y11) (sr19_Wrong.l6 (k + 1) y0 y1 y2 y3 y4 y5 y6 y7 y8 y9 y10 y11))
 | 0 => ⟨fun _ _ _ _ _ _ _ _ _ _ _ r h => by simp [sr19_Wrong.j0] at h, fun _ _ _ _ _ _ _ _ _ _ _ r h => by simp [sr19_Wrong.l0] at h, fun _ _ _ _ _ _ _ _ _ _ _ _ r h => by simp [sr19_Wrong.j2] at h, fun _ _ _ _ _ _ _ _ _ _ _ _ r h => by simp [sr19_Wrong.l1] at h, fun _ _ _ _ _ _ _ _ _ _ _ r h => by simp [sr19_Wrong.l2] at h, fun _ _ _ _ _ _ _ _ _ _ r h => by simp [sr19_Wrong.l3] at h, fun _ _ _ _ _ _ _ _ _ _ _ _ r h => by simp [sr19_Wrong.l4] at h, fun _ _ _ _ _ _ _ _ _ _ r h => by simp [sr19_Wrong.l5] at h, fun _ _ _ _ _ _ _ _ _ _ _ _ r h => by simp [sr19_Wrong.l6] at h⟩
 | k + 1 => by
  obtain ⟨ih0, ih1, ih2, ih3, ih4, ih5, ih6, ih7, ih8⟩ := sr19_Wrong.mono_l k
  refine ⟨?_, ?_, ?_, ?_, ?_, ?_, ?_, ?_, ?_⟩
  ·intro y0 y1 y2 y3 y4 y5 y6 y7 y8 y9 y10
   unfold sr19_Wrong.j0
   repeat' first
   | (with_reducible exact ih0 _ _ _ _ _ _ _ _ _ _ _)
   | (with_reducible exact ih1 _ _ _ _ _ _ _ _ _ _ _)
   | (with_reducible exact ih2 _ _ _ _ _ _ _ _ _ _ _ _)
   | (with_reducible exact ih3 _ _ _ _ _ _ _ _ _ _ _ _)
   | (with_reducible exact ih4 _ _ _ _ _ _ _ _ _ _ _)
   | (with_reducible exact ih5 _ _ _ _ _ _ _ _ _ _)
   | (with_reducible exact ih6 _ _ _ _ _ _ _ _ _ _ _ _)
   | (with_reducible exact ih7 _ _ _ _ _ _ _ _ _ _)
   | (with_reducible exact ih8 _ _ _ _ _ _ _ _ _ _ _ _)
   | (with_reducible exact sr19_May.mono _ _ _ _ _ _ _ _ _)
   | (with_reducible exact LeO.refl _)
   | (with_reducible exact LeO.none _)
   | (with_reducible refine LeO.ite ?_ ?_)
   | (with_reducible refine LeO.bind ?_ (fun _ => ?_))
   | exact ih0 _ _ _ _ _ _ _ _ _ _ _
   | exact ih1 _ _ _ _ _ _ _ _ _ _ _
   | exact ih2 _ _ _ _ _ _ _ _ _ _ _ _
   | exact ih3 _ _ _ _ _ _ _ _ _ _ _ _
   | exact ih4 _ _ _ _ _ _ _ _ _ _ _
   | exact ih5 _ _ _ _ _ _ _ _ _ _
   | exact ih6 _ _ _ _ _ _ _ _ _ _ _ _
   | exact ih7 _ _ _ _ _ _ _ _ _ _
   | exact ih8 _ _ _ _ _ _ _ _ _ _ _ _
   | exact sr19_May.mono _ _ _ _ _ _ _ _ _
   | exact LeO.none _
   | refine LeO.ite ?_ ?_
   | refine LeO.bind ?_ (fun _ => ?_)
  ·intro y0 y1 y2 y3 y4 y5 y6 y7 y8 y9 y10
   unfold sr19_Wrong.l0
   repeat' first
   | (with_reducible exact ih0 _ _ _ _ _ _ _ _ _ _ _)
   | (with_reducible exact ih1 _ _ _ _ _ _ _ _ _ _ _)
   | (with_reducible exact ih2 _ _ _ _ _ _ _ _ _ _ _ _)
   | (with_reducible exact ih3 _ _ _ _ _ _ _ _ _ _ _ _)
   | (with_reducible exact ih4 _ _ _ _ _ _ _ _ _ _ _)
   | (with_reducible exact ih5 _ _ _ _ _ _ _ _ _ _)
   | (with_reducible exact ih6 _ _ _ _ _ _ _ _ _ _ _ _)
   | (with_reducible exact ih7 _ _ _ _ _ _ _ _ _ _)
   | (with_reducible exact ih8 _ _ _ _ _ _ _ _ _ _ _ _)
   | (with_reducible exact sr19_May.mono _ _ _ _ _ _ _ _ _)
   | (with_reducible exact LeO.refl _)
   | (with_reducible exact LeO.none _)
   | (with_reducible refine LeO.ite ?_ ?_)
   | (with_reducible refine LeO.bind ?_ (fun _ => ?_))
   | exact ih0 _ _ _ _ _ _ _ _ _ _ _
   | exact ih1 _ _ _ _ _ _ _ _ _ _ _
   | exact ih2 _ _ _ _ _ _ _ _ _ _ _ _
   | exact ih3 _ _ _ _ _ _ _ _ _ _ _ _
   | exact ih4 _ _ _ _ _ _ _ _ _ _ _
   | exact ih5 _ _ _ _ _ _ _ _ _ _
   | exact ih6 _ _ _ _ _ _ _ _ _ _ _ _
   | exact ih7 _ _ _ _ _ _ _ _ _ _
   | exact ih8 _ _ _ _ _ _ _ _ _ _ _ _
   | exact sr19_May.mono _ _ _ _ _ _ _ _ _
   | exact LeO.none _
   | refine LeO.ite ?_ ?_
   | refine LeO.bind ?_ (fun _ => ?_)
  ·intro y0 y1 y2 y3 y4 y5 y6 y7 y8 y9 y10 y11
   unfold sr19_Wrong.j2
   repeat' first
   | (with_reducible exact ih0 _ _ _ _ _ _ _ _ _ _ _)
   | (with_reducible exact ih1 _ _ _ _ _ _ _ _ _ _ _)
   | (with_reducible exact ih2 _ _ _ _ _ _ _ _ _ _ _ _)
   | (with_reducible exact ih3 _ _ _ _ _ _ _ _ _ _ _ _)
   | (with_reducible exact ih4 _ _ _ _ _ _ _ _ _ _ _)
   | (with_reducible exact ih5 _ _ _ _ _ _ _ _ _ _)
   | (with_reducible exact ih6 _ _ _ _ _ _ _ _ _ _ _ _)
   | (with_reducible exact ih7 _ _ _ _ _ _ _ _ _ _)
   | (with_reducible exact ih8 _ _ _ _ _ _ _ _ _ _ _ _)
   | (with_reducible exact sr19_May.mono _ _ _ _ _ _ _ _ _)
   | (with_reducible exact LeO.refl _)
   | (with_reducible exact LeO.none _)
   | (with_reducible refine LeO.ite ?_ ?_)
   | (with_reducible refine LeO.bind ?_ (fun _ => ?_))
   | exact ih0 _ _ _ _ _ _ _ _ _ _ _
   | exact ih1 _ _ _ _ _ _ _ _ _ _ _
   | exact ih2 _ _ _ _ _ _ _ _ _ _ _ _
   | exact ih3 _ _ _ _ _ _ _ _ _ _ _ _
   | exact ih4 _ _ _ _ _ _ _ _ _ _ _
   | exact ih5 _ _ _ _ _ _ _ _ _ _
   | exact ih6 _ _ _ _ _ _ _ _ _ _ _ _
   | exact ih7 _ _ _ _ _ _ _ _ _ _
   | exact ih8 _ _ _ _ _ _ _ _ _ _ _ _
   | exact sr19_May.mono _ _ _ _ _ _ _ _ _
   | exact LeO.none _
   | refine LeO.ite ?_ ?_
   | refine LeO.bind ?_ (fun _ => ?_)
  ·intro y0 y1 y2 y3 y4 y5 y6 y7 y8 y9 y10 y11
   unfold sr19_Wrong.l1
   repeat' first
   | (with_reducible exact ih0 _ _ _ _ _ _ _ _ _ _ _)
   | (with_reducible exact ih1 _ _ _ _ _ _ _ _ _ _ _)
   | (with_reducible exact ih2 _ _ _ _ _ _ _ _ _ _ _ _)
   | (with_reducible exact ih3 _ _ _ _ _ _ _ _ _ _ _ _)
   | (with_reducible exact ih4 _ _ _ _ _ _ _ _ _ _ _)
   | (with_reducible exact ih5 _ _ _ _ _ _ _ _ _ _)
   | (with_reducible exact ih6 _ _ _ _ _ _ _ _ _ _ _ _)
   | (with_reducible exact ih7 _ _ _ _ _ _ _ _ _ _)
   | (with_reducible exact ih8 _ _ _ _ _ _ _ _ _ _ _ _)
   | (with_reducible exact sr19_May.mono _ _ _ _ _ _ _ _ _)
   | (with_reducible exact LeO.refl _)
   | (with_reducible exact LeO.none _)
   | (with_reducible refine LeO.ite ?_ ?_)
   | (with_reducible refine LeO.bind ?_ (fun _ => ?_))
   | exact ih0 _ _ _ _ _ _ _ _ _ _ _
   | exact ih1 _ _ _ _ _ _ _ _ _ _ _
   | exact ih2 _ _ _ _ _ _ _ _ _ _ _ _
   | exact ih3 _ _ _ _ _ _ _ _ _ _ _ _
   | exact ih4 _ _ _ _ _ _ _ _ _ _ _
   | exact ih5 _ _ _ _ _ _ _ _ _ _
   | exact ih6 _ _ _ _ _ _ _ _ _ _ _ _
   | exact ih7 _ _ _ _ _ _ _ _ _ _
   | exact ih8 _ _ _ _ _ _ _ _ _ _ _ _
   | exact sr19_May.mono _ _ _ _ _ _ _ _ _
   | exact LeO.none _
   | refine LeO.ite ?_ ?_
   | refine LeO.bind ?_ (fun _ => ?_)
  ·intro y0 y1 y2 y3 y4 y5 y6 y7 y8 y9 y10
   unfold sr19_Wrong.l2
   repeat' first
   | (with_reducible exact ih0 _ _ _ _ _ _ _ _ _ _ _)
   | (with_reducible exact ih1 _ _ _ _ _ _ _ _ _ _ _)
   | (with_reducible exact ih2 _ _ _ _ _ _ _ _ _ _ _ _)
   | (with_reducible exact ih3 _ _ _ _ _ _ _ _ _ _ _ _)
   | (with_reducible exact ih4 _ _ _ _ _ _ _ _ _ _ _)
   | (with_reducible exact ih5 _ _ _ _ _ _ _ _ _ _)
   | (with_reducible exact ih6 _ _ _ _ _ _ _ _ _ _ _ _)
   | (with_reducible exact ih7 _ _ _ _ _ _ _ _ _ _)
   | (with_reducible exact ih8 _ _ _ _ _ _ _ _ _ _ _ _)
   | (with_reducible exact sr19_May.mono _ _ _ _ _ _ _ _ _)
   | (with_reducible exact LeO.refl _)
   | (with_reducible exact LeO.none _)
   | (with_reducible refine LeO.ite ?_ ?_)
   | (with_reducible refine LeO.bind ?_ (fun _ => ?_))
   | exact ih0 _ _ _ _ _ _ _ _ _ _ _
   | exact ih1 _ _ _ _ _ _ _ _ _ _ _
   | exact ih2 _ _ _ _ _ _ _ _ _ _ _ _
   | exact ih3 _ _ _ _ _ _ _ _ _ _ _ _
   | exact ih4 _ _ _ _ _ _ _ _ _ _ _
   | exact ih5 _ _ _ _ _ _ _ _ _ _
   | exact ih6 _ _ _ _ _ _ _ _ _ _ _ _
   | exact ih7 _ _ _ _ _ _ _ _ _ _
   | exact ih8 _ _ _ _ _ _ _ _ _ _ _ _
   | exact sr19_May.mono _ _ _ _ _ _ _ _ _
   | exact LeO.none _
   | refine LeO.ite ?_ ?_
   | refine LeO.bind ?_ (fun _ => ?_)
  ·intro y0 y1 y2 y3 y4 y5 y6 y7 y8 y9
   unfold sr19_Wrong.l3
   repeat' first
   | (with_reducible exact ih0 _ _ _ _ _ _ _ _ _ _ _)
   | (with_reducible exact ih1 _ _ _ _ _ _ _ _ _ _ _)
   | (with_reducible exact ih2 _ _ _ _ _ _ _ _ _ _ _ _)
   | (with_reducible exact ih3 _ _ _ _ _ _ _ _ _ _ _ _)
   | (with_reducible exact ih4 _ _ _ _ _ _ _ _ _ _ _)
   | (with_reducible exact ih5 _ _ _ _ _ _ _ _ _ _)
   | (with_reducible exact ih6 _ _ _ _ _ _ _ _ _ _ _ _)
   | (with_reducible exact ih7 _ _ _ _ _ _ _ _ _ _)
   | (with_reducible exact ih8 _ _ _ _ _ _ _ _ _ _ _ _)
   | (with_reducible exact sr19_May.mono _ _ _ _ _ _ _ _ _)
   | (with_reducible exact LeO.refl _)
   | (with_reducible exact LeO.none _)
   | (with_reducible refine LeO.ite ?_ ?_)
   | (with_reducible refine LeO.bind ?_ (fun _ => ?_))
   | exact ih0 _ _ _ _ _ _ _ _ _ _ _
   | exact ih1 _ _ _ _ _ _ _ _ _ _ _
   | exact ih2 _ _ _ _ _ _ _ _ _ _ _ _
   | exact ih3 _ _ _ _ _ _ _ _ _ _ _ _
   | exact ih4 _ _ _ _ _ _ _ _ _ _ _
   | exact ih5 _ _ _ _ _ _ _ _ _ _
   | exact ih6 _ _ _ _ _ _ _ _ _ _ _ _
   | exact ih7 _ _ _ _ _ _ _ _ _ _
   | exact ih8 _ _ _ _ _ _ _ _ _ _ _ _
   | exact sr19_May.mono _ _ _ _ _ _ _ _ _
   | exact LeO.none _
   | refine LeO.ite ?_ ?_
   | refine LeO.bind ?_ (fun _ => ?_)
  ·intro y0 y1 y2 y3 y4 y5 y6 y7 y8 y9 y10 y11
   unfold sr19_Wrong.l4
   repeat' first
   | (with_reducible exact ih0 _ _ _ _ _ _ _ _ _ _ _)
   | (with_reducible exact ih1 _ _ _ _ _ _ _ _ _ _ _)
   | (with_reducible exact ih2 _ _ _ _ _ _ _ _ _ _ _ _)
   | (with_reducible exact ih3 _ _ _ _ _ _ _ _ _ _ _ _)
   | (with_reducible exact ih4 _ _ _ _ _ _ _ _ _ _ _)
   | (with_reducible exact ih5 _ _ _ _ _ _ _ _ _ _)
   | (with_reducible exact ih6 _ _ _ _ _ _ _ _ _ _ _ _)
   | (with_reducible exact ih7 _ _ _ _ _ _ _ _ _ _)
   | (with_reducible exact ih8 _ _ _ _ _ _ _ _ _ _ _ _)
   | (with_reducible exact sr19_May.mono _ _ _ _ _ _ _ _ _)
   | (with_reducible exact LeO.refl _)
   | (with_reducible exact LeO.none _)
   | (with_reducible refine LeO.ite ?_ ?_)
   | (with_reducible refine LeO.bind ?_ (fun _ => ?_))
   | exact ih0 _ _ _ _ _ _ _ _ _ _ _
   | exact ih1 _ _ _ _ _ _ _ _ _ _ _
   | exact ih2 _ _ _ _ _ _ _ _ _ _ _ _
   | exact ih3 _ _ _ _ _ _ _ _ _ _ _ _
   | exact ih4 _ _ _ _ _ _ _ _ _ _ _
   | exact ih5 _ _ _ _ _ _ _ _ _ _
   | exact ih6 _ _ _ _ _ _ _ _ _ _ _ _
   | exact ih7 _ _ _ _ _ _ _ _ _ _
   | exact ih8 _ _ _ _ _ _ _ _ _ _ _ _
   | exact sr19_May.mono _ _ _ _ _ _ _ _ _
   | exact LeO.none _
   | refine LeO.ite ?_ ?_
   | refine LeO.bind ?_ (fun _ => ?_)
  ·intro y0 y1 y2 y3 y4 y5 y6 y7 y8 y9
   unfold sr19_Wrong.l5
   repeat' first
   | (with_reducible exact ih0 _ _ _ _ _ _ _ _ _ _ _)
   | (with_reducible exact ih1 _ _ _ _ _ _ _ _ _ _ _)
   | (with_reducible exact ih2 _ _ _ _ _ _ _ _ _ _ _ _)
   | (with_reducible exact ih3 _ _ _ _ _ _ _ _ _ _ _ _)
   | (with_reducible exact ih4 _ _ _ _ _ _ _ _ _ _ _)
   | (with_reducible exact ih5 _ _ _ _ _ _ _ _ _ _)
   | (with_reducible exact ih6 _ _ _ _ _ _ _ _ _ _ _ _)
   | (with_reducible exact ih7 _ _ _ _ _ _ _ _ _ _)
   | (with_reducible exact ih8 _ _ _ _ _ _ _ _ _ _ _ _)
   | (with_reducible exact sr19_May.mono _ _ _ _ _ _ _ _ _)
   | (with_reducible exact LeO.refl _)
   | (with_reducible exact LeO.none _)
   | (with_reducible refine LeO.ite ?_ ?_)
   | (with_reducible refine LeO.bind ?_ (fun _ => ?_))
   | exact ih0 _ _ _ _ _ _ _ _ _ _ _
   | exact ih1 _ _ _ _ _ _ _ _ _ _ _
   | exact ih2 _ _ _ _ _ _ _ _ _ _ _ _
   | exact ih3 _ _ _ _ _ _ _ _ _ _ _ _
   | exact ih4 _ _ _ _ _ _ _ _ _ _ _
   | exact ih5 _ _ _ _ _ _ _ _ _ _
   | exact ih6 _ _ _ _ _ _ _ _ _ _ _ _
   | exact ih7 _ _ _ _ _ _ _ _ _ _
   | exact ih8 _ _ _ _ _ _ _ _ _ _ _ _
   | exact sr19_May.mono _ _ _ _ _ _ _ _ _
   | exact LeO.none _
   | refine LeO.ite ?_ ?_
   | refine LeO.bind ?_ (fun _ => ?_)
  ·intro y0 y1 y2 y3 y4 y5 y6 y7 y8 y9 y10 y11
   unfold sr19_Wrong.l6
   repeat' first
   | (with_reducible exact ih0 _ _ _ _ _ _ _ _ _ _ _)
   | (with_reducible exact ih1 _ _ _ _ _ _ _ _ _ _ _)
   | (with_reducible exact ih2 _ _ _ _ _ _ _ _ _ _ _ _)
   | (with_reducible exact ih3 _ _ _ _ _ _ _ _ _ _ _ _)
   | (with_reducible exact ih4 _ _ _ _ _ _ _ _ _ _ _)
   | (with_reducible exact ih5 _ _ _ _ _ _ _ _ _ _)
   | (with_reducible exact ih6 _ _ _ _ _ _ _ _ _ _ _ _)
   | (with_reducible exact ih7 _ _ _ _ _ _ _ _ _ _)
   | (with_reducible exact ih8 _ _ _ _ _ _ _ _ _ _ _ _)
   | (with_reducible exact sr19_May.mono _ _ _ _ _ _ _ _ _)
   | (with_reducible exact LeO.refl _)
   | (with_reducible exact LeO.none _)
   | (with_reducible refine LeO.ite ?_ ?_)
   | (with_reducible refine LeO.bind ?_ (fun _ => ?_))
   | exact ih0 _ _ _ _ _ _ _ _ _ _ _
   | exact ih1 _ _ _ _ _ _ _ _ _ _ _
   | exact ih2 _ _ _ _ _ _ _ _ _ _ _ _
   | exact ih3 _ _ _ _ _ _ _ _ _ _ _ _
   | exact ih4 _ _ _ _ _ _ _ _ _ _ _
   | exact ih5 _ _ _ _ _ _ _ _ _ _
   | exact ih6 _ _ _ _ _ _ _ _ _ _ _ _
   | exact ih7 _ _ _ _ _ _ _ _ _ _
   | exact ih8 _ _ _ _ _ _ _ _ _ _ _ _
   | exact sr19_May.mono _ _ _ _ _ _ _ _ _
   | exact LeO.none _
   | refine LeO.ite ?_ ?_
   | refine LeO.bind ?_ (fun _ => ?_)
theorem sr19_Wrong.mono : ∀ a0 a1 a2 a3 a4 a5 a6 a7 a8 a9 k, LeO (sr19_Wrong.f k a0 a1 a2 a3 a4 a5 a6 a7 a8 a9) (sr19_Wrong.f (k + 1) a0 a1 a2 a3 a4 a5 a6 a7 a8 a9) := by
 intro a0 a1 a2 a3 a4 a5 a6 a7 a8 a9 k
 obtain ⟨ih0, ih1, ih2, ih3, ih4, ih5, ih6, ih7, ih8⟩ := sr19_Wrong.mono_l k
 unfold sr19_Wrong.f
 repeat' first
   | (with_reducible exact ih0 _ _ _ _ _ _ _ _ _ _ _)
   | (with_reducible exact ih1 _ _ _ _ _ _ _ _ _ _ _)
   | (with_reducible exact ih2 _ _ _ _ _ _ _ _ _ _ _ _)
   | (with_reducible exact ih3 _ _ _ _ _ _ _ _ _ _ _ _)
   | (with_reducible exact ih4 _ _ _ _ _ _ _ _ _ _ _)
   | (with_reducible exact ih5 _ _ _ _ _ _ _ _ _ _)
   | (with_reducible exact ih6 _ _ _ _ _ _ _ _ _ _ _ _)
   | (with_reducible exact ih7 _ _ _ _ _ _ _ _ _ _)
   | (with_reducible exact ih8 _ _ _ _ _ _ _ _ _ _ _ _)
   | (with_reducible exact sr19_May.mono _ _ _ _ _ _ _ _ _)
   | (with_reducible exact LeO.refl _)
   | (with_reducible exact LeO.none _)
   | (with_reducible refine LeO.ite ?_ ?_)
   | (with_reducible refine LeO.bind ?_ (fun _ => ?_))
   | exact ih0 _ _ _ _ _ _ _ _ _ _ _
   | exact ih1 _ _ _ _ _ _ _ _ _ _ _
   | exact ih2 _ _ _ _ _ _ _ _ _ _ _ _
   | exact ih3 _ _ _ _ _ _ _ _ _ _ _ _
   | exact ih4 _ _ _ _ _ _ _ _ _ _ _
   | exact ih5 _ _ _ _ _ _ _ _ _ _
   | exact ih6 _ _ _ _ _ _ _ _ _ _ _ _
   | exact ih7 _ _ _ _ _ _ _ _ _ _
   | exact ih8 _ _ _ _ _ _ _ _ _ _ _ _
   | exact sr19_May.mono _ _ _ _ _ _ _ _ _
   | exact LeO.none _
   | refine LeO.ite ?_ ?_
   | refine LeO.bind ?_ (fun _ => ?_)
set_option maxHeartbeats 8000000 in
set_option maxRecDepth 100000 in
theorem sr19_Wrong.calls (k : Nat) (a0_0 : ByteArray) (a0_1 : ByteArray) (a0_2 : ByteArray) (a0_3 : ByteArray) (a0_4 : ByteArray) (a0_5 : ByteArray) (a0_6 : Int) (A0_7 : Option Addr) (c0_7 : Nat) (l0_7 : List (S65)) (A1 : Option Addr) (c1 : Nat) (l1 : List Int) (A2 : Option Addr) (c2 : Nat) (l2 : List (List Int)) (r : Int) (w : World) (hr0_7 : Kd.C k65 w A0_7 l0_7.length l0_7) (hc0_7 : l0_7.length ≤ c0_7) (hr1 : Kd.C (Kd.int .i64) w A1 l1.length l1) (hc1 : l1.length ≤ c1) (hr2 : Kd.C (Kd.slice 3 (Kd.int .i64)) w A2 l2.length l2) (hc2 : l2.length ≤ c2) (h : sr19_Wrong.f k a0_0 a0_1 a0_2 a0_3 a0_4 a0_5 a0_6 l0_7 l1 l2 = some r) :
  Calls Try.prog 59 #[.agg #[.string a0_0, .string a0_1, .string a0_2, .string a0_3, .string a0_4, .string a0_5, .int .i64 a0_6, .slice A0_7 l0_7.length c0_7], .slice A1 l1.length c1, .slice A2 l2.length c2] w fun e w' => e = .returned (.int .i64 r) ∧ Below w.heap.size w w' := by
 have hu24 := Try.underlying24
 have HR0_7 := Aside0.mk hr0_7
 have HC0_7 := Aside0.mk hc0_7
 clear hr0_7 hc0_7
 have HR1 := Aside0.mk hr1
 have HC1 := Aside0.mk hc1
 clear hr1 hc1
 have HR2 := Aside0.mk hr2
 have HC2 := Aside0.mk hc2
 clear hr2 hc2
 have HB := Aside0.mk (Below.refl w.heap.size w)
 have H : ((sr19_May.f k a0_0 a0_1 a0_2 a0_3 a0_4 a0_5 a0_6 l0_7).bind fun t182 => (if t182 = true then (if (l2.length : Int) = (l1.length : Int) then (if (l2.length : Int) < 1 then (sr19_Wrong.j0 k l1 l2 true a0_0 a0_1 a0_2 a0_3 a0_4 a0_5 a0_6 l0_7) else (sr19_Wrong.j0 k l1 l2 (decide ((l2.length : Int) > 64)) a0_0 a0_1 a0_2 a0_3 a0_4 a0_5 a0_6 l0_7)) else (sr19_Wrong.j0 k l1 l2 true a0_0 a0_1 a0_2 a0_3 a0_4 a0_5 a0_6 l0_7)) else (sr19_Wrong.j0 k l1 l2 true a0_0 a0_1 a0_2 a0_3 a0_4 a0_5 a0_6 l0_7))) = some r := h
 clear h
 have HC4 := Aside0.mk H
 clear H
 go_enter Try.func59, Try.ntmps59
 go_upto_region 1 with (first | ((with_reducible refine gate_dst (N := 3) rfl ?_); (try (refine gate_guard (by rfl) ?_; dsimp only)); refine box_event ?hg (N := 3) ?hd (cs := #[.string a0_0, .string a0_1, .string a0_2, .string a0_3, .string a0_4, .string a0_5, .int .i64 a0_6, .slice A0_7 l0_7.length c0_7]) (t := 24) ?hr ?_; (case hd => rfl); (case hg => rfl); (case hr => first | (go_simp; done) | (go_simp; rfl)); intro gb181 hg w5 hbox hb; have n0_ := Aside0.mk (below_step (by repeat (first | (with_reducible first | exact HB.out | apply below_alloc | apply pw_below_drewN | apply below_drew1) | exact HB.out)) hb); have n1_ := Aside0.mk (hbox); have n2_ := Aside0.mk ((by rw [hg]; exact (below_size (by repeat (first | (with_reducible first | exact HB.out | apply below_alloc | apply pw_below_drewN | apply below_drew1) | exact HB.out))) : w.heap.size ≤ gb181)); have n3_ := Aside0.mk ((by rw [hg]; exact (below_size (by repeat (first | (with_reducible first | exact HB.out | apply below_alloc | apply pw_below_drewN | apply below_drew1) | exact HB.out))) : w.heap.size ≤ gb181)); clear HB; have HB := n0_; have BK181 := n1_; have GW181 := n2_; have GE181 := n3_; clear n0_ n1_ n2_ n3_; clear hb hbox hg))
 repeat (go_quiet (first | ((with_reducible refine gate_dst (N := 3) rfl ?_); (try (refine gate_guard (by rfl) ?_; dsimp only)); refine box_event ?hg (N := 3) ?hd (cs := #[.string a0_0, .string a0_1, .string a0_2, .string a0_3, .string a0_4, .string a0_5, .int .i64 a0_6, .slice A0_7 l0_7.length c0_7]) (t := 24) ?hr ?_; (case hd => rfl); (case hg => rfl); (case hr => first | (go_simp; done) | (go_simp; rfl)); intro gb181 hg w5 hbox hb; have n0_ := Aside0.mk (below_step (by repeat (first | (with_reducible first | exact HB.out | apply below_alloc | apply pw_below_drewN | apply below_drew1) | exact HB.out)) hb); have n1_ := Aside0.mk (hbox); have n2_ := Aside0.mk ((by rw [hg]; exact (below_size (by repeat (first | (with_reducible first | exact HB.out | apply below_alloc | apply pw_below_drewN | apply below_drew1) | exact HB.out))) : w.heap.size ≤ gb181)); have n3_ := Aside0.mk ((by rw [hg]; exact (below_size (by repeat (first | (with_reducible first | exact HB.out | apply below_alloc | apply pw_below_drewN | apply below_drew1) | exact HB.out))) : w.heap.size ≤ gb181)); clear HB; have HB := n0_; have BK181 := n1_; have GW181 := n2_; have GE181 := n3_; clear n0_ n1_ n2_ n3_; clear hb hbox hg)); go_upto_region 1 with (first | ((with_reducible refine gate_dst (N := 3) rfl ?_); (try (refine gate_guard (by rfl) ?_; dsimp only)); refine box_event ?hg (N := 3) ?hd (cs := #[.string a0_0, .string a0_1, .string a0_2, .string a0_3, .string a0_4, .string a0_5, .int .i64 a0_6, .slice A0_7 l0_7.length c0_7]) (t := 24) ?hr ?_; (case hd => rfl); (case hg => rfl); (case hr => first | (go_simp; done) | (go_simp; rfl)); intro gb181 hg w5 hbox hb; have n0_ := Aside0.mk (below_step (by repeat (first | (with_reducible first | exact HB.out | apply below_alloc | apply pw_below_drewN | apply below_drew1) | exact HB.out)) hb); have n1_ := Aside0.mk (hbox); have n2_ := Aside0.mk ((by rw [hg]; exact (below_size (by repeat (first | (with_reducible first | exact HB.out | apply below_alloc | apply pw_below_drewN | apply below_drew1) | exact HB.out))) : w.heap.size ≤ gb181)); have n3_ := Aside0.mk ((by rw [hg]; exact (below_size (by repeat (first | (with_reducible first | exact HB.out | apply below_alloc | apply pw_below_drewN | apply below_drew1) | exact HB.out))) : w.heap.size ≤ gb181)); clear HB; have HB := n0_; have BK181 := n1_; have GW181 := n2_; have GE181 := n3_; clear n0_ n1_ n2_ n3_; clear hb hbox hg)))
 (try simp only [Act.put, List.setIfInBounds_toArray, List.set_cons_zero, List.set_cons_succ])
 go_cut [35] (fun v35 wc => ∃ (kq : Nat) (x35_3 : Bool), v35 = .bool x35_3 ∧ Aside0 (sr19_Wrong.j0 kq l1 l2 x35_3 a0_0 a0_1 a0_2 a0_3 a0_4 a0_5 a0_6 l0_7 = some r) ∧ Aside0 (kq ≤ k) ∧ Aside0 (wc.heap[gb181]? = some (.cells #[.string a0_0, .string a0_1, .string a0_2, .string a0_3, .string a0_4, .string a0_5, .int .i64 a0_6, (.slice A0_7 l0_7.length c0_7)] 24 (0, 0))) ∧ Aside0 (Below w.heap.size w wc))
 case first => (
have H := HC4.out
clear HC4
replace H := Option.bind_eq_some_iff.mp H
obtain ⟨t182, A60, H⟩ := H
replace H : (if t182 = true then (if (l2.length : Int) = (l1.length : Int) then (if (l2.length : Int) < 1 then (sr19_Wrong.j0 k l1 l2 true a0_0 a0_1 a0_2 a0_3 a0_4 a0_5 a0_6 l0_7) else (sr19_Wrong.j0 k l1 l2 (decide ((l2.length : Int) > 64)) a0_0 a0_1 a0_2 a0_3 a0_4 a0_5 a0_6 l0_7)) else (sr19_Wrong.j0 k l1 l2 true a0_0 a0_1 a0_2 a0_3 a0_4 a0_5 a0_6 l0_7)) else (sr19_Wrong.j0 k l1 l2 true a0_0 a0_1 a0_2 a0_3 a0_4 a0_5 a0_6 l0_7)) = some r := H
have A6 := Aside0.mk A60
clear A60
by_cases c7 : t182 = true
·(
subst c7
have H1 : (if (l2.length : Int) = (l1.length : Int) then (if (l2.length : Int) < 1 then (sr19_Wrong.j0 k l1 l2 true a0_0 a0_1 a0_2 a0_3 a0_4 a0_5 a0_6 l0_7) else (sr19_Wrong.j0 k l1 l2 (decide ((l2.length : Int) > 64)) a0_0 a0_1 a0_2 a0_3 a0_4 a0_5 a0_6 l0_7)) else (sr19_Wrong.j0 k l1 l2 true a0_0 a0_1 a0_2 a0_3 a0_4 a0_5 a0_6 l0_7)) = some r := by rw [if_pos rfl] at H; exact H
clear H
have H := H1
clear H1
by_cases c8 : (l2.length : Int) = (l1.length : Int)
·(
rw [if_pos c8] at H
have c8b0 : ((l2.length : Int) == (l1.length : Int)) = true := beq_iff_eq.mpr c8
have c8b1 : ((l2.length : Int) != (l1.length : Int)) = false := bne_eq_false_iff_eq.mpr c8
have c8b2 : (l2.length == l1.length) = true := by first | simpa using c8 | (simp at c8 ⊢; omega)
clear c8
(first | rw [c8b0] | (simp only [i64_w, i32_w]; rw [c8b0]) | skip)
by_cases c9 : (l2.length : Int) < 1
·(
rw [if_pos c9] at H
have c9b0 : decide ((l2.length : Int) < 1) = true := decide_eq_true c9
have c9b1 : decide (l2.length < 1) = true := decide_eq_true (by omega)
clear c9
have H' := Aside0.mk H
clear H
have hcz10_0 : w5.cell? ⟨gb181, 0, none⟩ = some (.string a0_0) := (blk_cell BK181.out 0).trans rfl
have hcz10_1 : w5.cell? ⟨gb181, 1, none⟩ = some (.string a0_1) := (blk_cell BK181.out 1).trans rfl
have hcz10_2 : w5.cell? ⟨gb181, 2, none⟩ = some (.string a0_2) := (blk_cell BK181.out 2).trans rfl
have hcz10_3 : w5.cell? ⟨gb181, 3, none⟩ = some (.string a0_3) := (blk_cell BK181.out 3).trans rfl
have hcz10_4 : w5.cell? ⟨gb181, 4, none⟩ = some (.string a0_4) := (blk_cell BK181.out 4).trans rfl
have hcz10_5 : w5.cell? ⟨gb181, 5, none⟩ = some (.string a0_5) := (blk_cell BK181.out 5).trans rfl
have hcz10_6 : w5.cell? ⟨gb181, 6, none⟩ = some (.int .i64 a0_6) := (blk_cell BK181.out 6).trans rfl
have hcz10_7 : w5.cell? ⟨gb181, 7, none⟩ = some (.slice A0_7 l0_7.length c0_7) := (blk_cell BK181.out 7).trans rfl
have hfz10_0 := blk_frozen BK181.out 0
have hfz10_1 := blk_frozen BK181.out 1
have hfz10_2 := blk_frozen BK181.out 2
have hfz10_3 := blk_frozen BK181.out 3
have hfz10_4 := blk_frozen BK181.out 4
have hfz10_5 := blk_frozen BK181.out 5
have hfz10_6 := blk_frozen BK181.out 6
have hfz10_7 := blk_frozen BK181.out 7
go_wp2_with (first | (go_at_call 16; (with_reducible refine (sr19_May.calls k a0_0 a0_1 a0_2 a0_3 a0_4 a0_5 a0_6 _ _ l0_7 true _ ?side1 ?side2 A6.out).mono ?_); (case side1 => repeat (first | exact (Kd.C_below HR0_7.out HB.out) | (with_reducible refine Kd.C_alloc ?_ _) | (with_reducible refine Kd.C_drewN ?_ _) | (with_reducible refine Kd.C_drew ?_))); (case side2 => exact HC0_7.out); rintro e w11 ⟨rfl, hb⟩; have n0_ := Aside0.mk (blk_below (g := gb181) (o := .cells #[.string a0_0, .string a0_1, .string a0_2, .string a0_3, .string a0_4, .string a0_5, .int .i64 a0_6, .slice A0_7 l0_7.length c0_7] 24 (0, 0)) (by (with_reducible repeat (first | refine blk_drewN ?_ _ | refine blk_drew ?_ | refine blk_alloc ?_ _)); exact BK181.out) hb); have n1_ := Aside0.mk (below_step (by repeat (first | (with_reducible first | exact HB.out | apply below_alloc | apply pw_below_drewN | apply below_drew1 | refine below_set ?_ GE181.out) | exact HB.out)) hb); clear BK181; clear HB; have BK181 := n0_; have HB := n1_; clear n0_ n1_; (try clear hb); (try clear hb2); (try clear hk); (try clear hi)))
repeat (go_quiet (first | (go_at_call 16; (with_reducible refine (sr19_May.calls k a0_0 a0_1 a0_2 a0_3 a0_4 a0_5 a0_6 _ _ l0_7 true _ ?side1 ?side2 A6.out).mono ?_); (case side1 => repeat (first | exact (Kd.C_below HR0_7.out HB.out) | (with_reducible refine Kd.C_alloc ?_ _) | (with_reducible refine Kd.C_drewN ?_ _) | (with_reducible refine Kd.C_drew ?_))); (case side2 => exact HC0_7.out); rintro e w11 ⟨rfl, hb⟩; have n0_ := Aside0.mk (blk_below (g := gb181) (o := .cells #[.string a0_0, .string a0_1, .string a0_2, .string a0_3, .string a0_4, .string a0_5, .int .i64 a0_6, .slice A0_7 l0_7.length c0_7] 24 (0, 0)) (by (with_reducible repeat (first | refine blk_drewN ?_ _ | refine blk_drew ?_ | refine blk_alloc ?_ _)); exact BK181.out) hb); have n1_ := Aside0.mk (below_step (by repeat (first | (with_reducible first | exact HB.out | apply below_alloc | apply pw_below_drewN | apply below_drew1 | refine below_set ?_ GE181.out) | exact HB.out)) hb); clear BK181; clear HB; have BK181 := n0_; have HB := n1_; clear n0_ n1_; (try clear hb); (try clear hb2); (try clear hk); (try clear hi))); try go_wp2_with (first | (go_at_call 16; (with_reducible refine (sr19_May.calls k a0_0 a0_1 a0_2 a0_3 a0_4 a0_5 a0_6 _ _ l0_7 true _ ?side1 ?side2 A6.out).mono ?_); (case side1 => repeat (first | exact (Kd.C_below HR0_7.out HB.out) | (with_reducible refine Kd.C_alloc ?_ _) | (with_reducible refine Kd.C_drewN ?_ _) | (with_reducible refine Kd.C_drew ?_))); (case side2 => exact HC0_7.out); rintro e w11 ⟨rfl, hb⟩; have n0_ := Aside0.mk (blk_below (g := gb181) (o := .cells #[.string a0_0, .string a0_1, .string a0_2, .string a0_3, .string a0_4, .string a0_5, .int .i64 a0_6, .slice A0_7 l0_7.length c0_7] 24 (0, 0)) (by (with_reducible repeat (first | refine blk_drewN ?_ _ | refine blk_drew ?_ | refine blk_alloc ?_ _)); exact BK181.out) hb); have n1_ := Aside0.mk (below_step (by repeat (first | (with_reducible first | exact HB.out | apply below_alloc | apply pw_below_drewN | apply below_drew1 | refine below_set ?_ GE181.out) | exact HB.out)) hb); clear BK181; clear HB; have BK181 := n0_; have HB := n1_; clear n0_ n1_; (try clear hb); (try clear hb2); (try clear hk); (try clear hi))))
go_meet
case rel => exact ⟨_, (true), (by first | rfl | (simp; done) | (simp [*]; done)), H', ⟨by first | omega | exact Nat.le_refl _⟩, ⟨by (with_reducible repeat (first | refine blk_drewN ?_ _ | refine blk_drew ?_ | refine blk_alloc ?_ _)); exact BK181.out⟩, ⟨by repeat (first | (with_reducible first | exact HB.out | apply below_alloc | apply pw_below_drewN | apply below_drew1 | refine below_set ?_ GE181.out) | exact HB.out)⟩⟩
)
·(
rw [if_neg c9] at H
have c9b0 : decide ((l2.length : Int) < 1) = false := decide_eq_false c9
have c9b1 : decide (l2.length < 1) = false := decide_eq_false (by omega)
clear c9
have H' := Aside0.mk H
clear H
have hcz12_0 : w5.cell? ⟨gb181, 0, none⟩ = some (.string a0_0) := (blk_cell BK181.out 0).trans rfl
have hcz12_1 : w5.cell? ⟨gb181, 1, none⟩ = some (.string a0_1) := (blk_cell BK181.out 1).trans rfl
have hcz12_2 : w5.cell? ⟨gb181, 2, none⟩ = some (.string a0_2) := (blk_cell BK181.out 2).trans rfl
have hcz12_3 : w5.cell? ⟨gb181, 3, none⟩ = some (.string a0_3) := (blk_cell BK181.out 3).trans rfl
have hcz12_4 : w5.cell? ⟨gb181, 4, none⟩ = some (.string a0_4) := (blk_cell BK181.out 4).trans rfl
have hcz12_5 : w5.cell? ⟨gb181, 5, none⟩ = some (.string a0_5) := (blk_cell BK181.out 5).trans rfl
have hcz12_6 : w5.cell? ⟨gb181, 6, none⟩ = some (.int .i64 a0_6) := (blk_cell BK181.out 6).trans rfl
have hcz12_7 : w5.cell? ⟨gb181, 7, none⟩ = some (.slice A0_7 l0_7.length c0_7) := (blk_cell BK181.out 7).trans rfl
have hfz12_0 := blk_frozen BK181.out 0
have hfz12_1 := blk_frozen BK181.out 1
have hfz12_2 := blk_frozen BK181.out 2
have hfz12_3 := blk_frozen BK181.out 3
have hfz12_4 := blk_frozen BK181.out 4
have hfz12_5 := blk_frozen BK181.out 5
have hfz12_6 := blk_frozen BK181.out 6
have hfz12_7 := blk_frozen BK181.out 7
go_wp2_with (first | (go_at_call 16; (with_reducible refine (sr19_May.calls k a0_0 a0_1 a0_2 a0_3 a0_4 a0_5 a0_6 _ _ l0_7 true _ ?side1 ?side2 A6.out).mono ?_); (case side1 => repeat (first | exact (Kd.C_below HR0_7.out HB.out) | (with_reducible refine Kd.C_alloc ?_ _) | (with_reducible refine Kd.C_drewN ?_ _) | (with_reducible refine Kd.C_drew ?_))); (case side2 => exact HC0_7.out); rintro e w13 ⟨rfl, hb⟩; have n0_ := Aside0.mk (blk_below (g := gb181) (o := .cells #[.string a0_0, .string a0_1, .string a0_2, .string a0_3, .string a0_4, .string a0_5, .int .i64 a0_6, .slice A0_7 l0_7.length c0_7] 24 (0, 0)) (by (with_reducible repeat (first | refine blk_drewN ?_ _ | refine blk_drew ?_ | refine blk_alloc ?_ _)); exact BK181.out) hb); have n1_ := Aside0.mk (below_step (by repeat (first | (with_reducible first | exact HB.out | apply below_alloc | apply pw_below_drewN | apply below_drew1 | refine below_set ?_ GE181.out) | exact HB.out)) hb); clear BK181; clear HB; have BK181 := n0_; have HB := n1_; clear n0_ n1_; (try clear hb); (try clear hb2); (try clear hk); (try clear hi)))
repeat (go_quiet (first | (go_at_call 16; (with_reducible refine (sr19_May.calls k a0_0 a0_1 a0_2 a0_3 a0_4 a0_5 a0_6 _ _ l0_7 true _ ?side1 ?side2 A6.out).mono ?_); (case side1 => repeat (first | exact (Kd.C_below HR0_7.out HB.out) | (with_reducible refine Kd.C_alloc ?_ _) | (with_reducible refine Kd.C_drewN ?_ _) | (with_reducible refine Kd.C_drew ?_))); (case side2 => exact HC0_7.out); rintro e w13 ⟨rfl, hb⟩; have n0_ := Aside0.mk (blk_below (g := gb181) (o := .cells #[.string a0_0, .string a0_1, .string a0_2, .string a0_3, .string a0_4, .string a0_5, .int .i64 a0_6, .slice A0_7 l0_7.length c0_7] 24 (0, 0)) (by (with_reducible repeat (first | refine blk_drewN ?_ _ | refine blk_drew ?_ | refine blk_alloc ?_ _)); exact BK181.out) hb); have n1_ := Aside0.mk (below_step (by repeat (first | (with_reducible first | exact HB.out | apply below_alloc | apply pw_below_drewN | apply below_drew1 | refine below_set ?_ GE181.out) | exact HB.out)) hb); clear BK181; clear HB; have BK181 := n0_; have HB := n1_; clear n0_ n1_; (try clear hb); (try clear hb2); (try clear hk); (try clear hi))); try go_wp2_with (first | (go_at_call 16; (with_reducible refine (sr19_May.calls k a0_0 a0_1 a0_2 a0_3 a0_4 a0_5 a0_6 _ _ l0_7 true _ ?side1 ?side2 A6.out).mono ?_); (case side1 => repeat (first | exact (Kd.C_below HR0_7.out HB.out) | (with_reducible refine Kd.C_alloc ?_ _) | (with_reducible refine Kd.C_drewN ?_ _) | (with_reducible refine Kd.C_drew ?_))); (case side2 => exact HC0_7.out); rintro e w13 ⟨rfl, hb⟩; have n0_ := Aside0.mk (blk_below (g := gb181) (o := .cells #[.string a0_0, .string a0_1, .string a0_2, .string a0_3, .string a0_4, .string a0_5, .int .i64 a0_6, .slice A0_7 l0_7.length c0_7] 24 (0, 0)) (by (with_reducible repeat (first | refine blk_drewN ?_ _ | refine blk_drew ?_ | refine blk_alloc ?_ _)); exact BK181.out) hb); have n1_ := Aside0.mk (below_step (by repeat (first | (with_reducible first | exact HB.out | apply below_alloc | apply pw_below_drewN | apply below_drew1 | refine below_set ?_ GE181.out) | exact HB.out)) hb); clear BK181; clear HB; have BK181 := n0_; have HB := n1_; clear n0_ n1_; (try clear hb); (try clear hb2); (try clear hk); (try clear hi))))
go_meet
case rel => exact ⟨_, (decide ((l2.length : Int) > 64)), (by first | rfl | (simp; done) | (simp [*]; done)), H', ⟨by first | omega | exact Nat.le_refl _⟩, ⟨by (with_reducible repeat (first | refine blk_drewN ?_ _ | refine blk_drew ?_ | refine blk_alloc ?_ _)); exact BK181.out⟩, ⟨by repeat (first | (with_reducible first | exact HB.out | apply below_alloc | apply pw_below_drewN | apply below_drew1 | refine below_set ?_ GE181.out) | exact HB.out)⟩⟩
)
)
·(
rw [if_neg c8] at H
have c8b0 : ((l2.length : Int) == (l1.length : Int)) = false := beq_eq_false_iff_ne.mpr c8
have c8b1 : ((l2.length : Int) != (l1.length : Int)) = true := bne_iff_ne.mpr c8
have c8b2 : (l2.length == l1.length) = false := by first | simpa using c8 | (simp at c8 ⊢; omega)
(first | rw [c8b0] | (simp only [i64_w, i32_w]; rw [c8b0]) | skip)
have H' := Aside0.mk H
clear H
have hcz14_0 : w5.cell? ⟨gb181, 0, none⟩ = some (.string a0_0) := (blk_cell BK181.out 0).trans rfl
have hcz14_1 : w5.cell? ⟨gb181, 1, none⟩ = some (.string a0_1) := (blk_cell BK181.out 1).trans rfl
have hcz14_2 : w5.cell? ⟨gb181, 2, none⟩ = some (.string a0_2) := (blk_cell BK181.out 2).trans rfl
have hcz14_3 : w5.cell? ⟨gb181, 3, none⟩ = some (.string a0_3) := (blk_cell BK181.out 3).trans rfl
have hcz14_4 : w5.cell? ⟨gb181, 4, none⟩ = some (.string a0_4) := (blk_cell BK181.out 4).trans rfl
have hcz14_5 : w5.cell? ⟨gb181, 5, none⟩ = some (.string a0_5) := (blk_cell BK181.out 5).trans rfl
have hcz14_6 : w5.cell? ⟨gb181, 6, none⟩ = some (.int .i64 a0_6) := (blk_cell BK181.out 6).trans rfl
have hcz14_7 : w5.cell? ⟨gb181, 7, none⟩ = some (.slice A0_7 l0_7.length c0_7) := (blk_cell BK181.out 7).trans rfl
have hfz14_0 := blk_frozen BK181.out 0
have hfz14_1 := blk_frozen BK181.out 1
have hfz14_2 := blk_frozen BK181.out 2
have hfz14_3 := blk_frozen BK181.out 3
have hfz14_4 := blk_frozen BK181.out 4
have hfz14_5 := blk_frozen BK181.out 5
have hfz14_6 := blk_frozen BK181.out 6
have hfz14_7 := blk_frozen BK181.out 7
go_wp2_with (first | (go_at_call 16; (with_reducible refine (sr19_May.calls k a0_0 a0_1 a0_2 a0_3 a0_4 a0_5 a0_6 _ _ l0_7 true _ ?side1 ?side2 A6.out).mono ?_); (case side1 => repeat (first | exact (Kd.C_below HR0_7.out HB.out) | (with_reducible refine Kd.C_alloc ?_ _) | (with_reducible refine Kd.C_drewN ?_ _) | (with_reducible refine Kd.C_drew ?_))); (case side2 => exact HC0_7.out); rintro e w15 ⟨rfl, hb⟩; have n0_ := Aside0.mk (blk_below (g := gb181) (o := .cells #[.string a0_0, .string a0_1, .string a0_2, .string a0_3, .string a0_4, .string a0_5, .int .i64 a0_6, .slice A0_7 l0_7.length c0_7] 24 (0, 0)) (by (with_reducible repeat (first | refine blk_drewN ?_ _ | refine blk_drew ?_ | refine blk_alloc ?_ _)); exact BK181.out) hb); have n1_ := Aside0.mk (below_step (by repeat (first | (with_reducible first | exact HB.out | apply below_alloc | apply pw_below_drewN | apply below_drew1 | refine below_set ?_ GE181.out) | exact HB.out)) hb); clear BK181; clear HB; have BK181 := n0_; have HB := n1_; clear n0_ n1_; (try clear hb); (try clear hb2); (try clear hk); (try clear hi)))
repeat (go_quiet (first | (go_at_call 16; (with_reducible refine (sr19_May.calls k a0_0 a0_1 a0_2 a0_3 a0_4 a0_5 a0_6 _ _ l0_7 true _ ?side1 ?side2 A6.out).mono ?_); (case side1 => repeat (first | exact (Kd.C_below HR0_7.out HB.out) | (with_reducible refine Kd.C_alloc ?_ _) | (with_reducible refine Kd.C_drewN ?_ _) | (with_reducible refine Kd.C_drew ?_))); (case side2 => exact HC0_7.out); rintro e w15 ⟨rfl, hb⟩; have n0_ := Aside0.mk (blk_below (g := gb181) (o := .cells #[.string a0_0, .string a0_1, .string a0_2, .string a0_3, .string a0_4, .string a0_5, .int .i64 a0_6, .slice A0_7 l0_7.length c0_7] 24 (0, 0)) (by (with_reducible repeat (first | refine blk_drewN ?_ _ | refine blk_drew ?_ | refine blk_alloc ?_ _)); exact BK181.out) hb); have n1_ := Aside0.mk (below_step (by repeat (first | (with_reducible first | exact HB.out | apply below_alloc | apply pw_below_drewN | apply below_drew1 | refine below_set ?_ GE181.out) | exact HB.out)) hb); clear BK181; clear HB; have BK181 := n0_; have HB := n1_; clear n0_ n1_; (try clear hb); (try clear hb2); (try clear hk); (try clear hi))); try go_wp2_with (first | (go_at_call 16; (with_reducible refine (sr19_May.calls k a0_0 a0_1 a0_2 a0_3 a0_4 a0_5 a0_6 _ _ l0_7 true _ ?side1 ?side2 A6.out).mono ?_); (case side1 => repeat (first | exact (Kd.C_below HR0_7.out HB.out) | (with_reducible refine Kd.C_alloc ?_ _) | (with_reducible refine Kd.C_drewN ?_ _) | (with_reducible refine Kd.C_drew ?_))); (case side2 => exact HC0_7.out); rintro e w15 ⟨rfl, hb⟩; have n0_ := Aside0.mk (blk_below (g := gb181) (o := .cells #[.string a0_0, .string a0_1, .string a0_2, .string a0_3, .string a0_4, .string a0_5, .int .i64 a0_6, .slice A0_7 l0_7.length c0_7] 24 (0, 0)) (by (with_reducible repeat (first | refine blk_drewN ?_ _ | refine blk_drew ?_ | refine blk_alloc ?_ _)); exact BK181.out) hb); have n1_ := Aside0.mk (below_step (by repeat (first | (with_reducible first | exact HB.out | apply below_alloc | apply pw_below_drewN | apply below_drew1 | refine below_set ?_ GE181.out) | exact HB.out)) hb); clear BK181; clear HB; have BK181 := n0_; have HB := n1_; clear n0_ n1_; (try clear hb); (try clear hb2); (try clear hk); (try clear hi))))
go_meet
case rel => exact ⟨_, (true), (by first | rfl | (simp; done) | (simp [*]; done)), H', ⟨by first | omega | exact Nat.le_refl _⟩, ⟨by (with_reducible repeat (first | refine blk_drewN ?_ _ | refine blk_drew ?_ | refine blk_alloc ?_ _)); exact BK181.out⟩, ⟨by repeat (first | (with_reducible first | exact HB.out | apply below_alloc | apply pw_below_drewN | apply below_drew1 | refine below_set ?_ GE181.out) | exact HB.out)⟩⟩
)
)
·(
replace c7 := Bool.eq_false_iff.mpr c7
subst c7
have H1 : (sr19_Wrong.j0 k l1 l2 true a0_0 a0_1 a0_2 a0_3 a0_4 a0_5 a0_6 l0_7) = some r := by rw [if_neg (show ¬ (false = true) by decide)] at H; exact H
clear H
have H := H1
clear H1
have H' := Aside0.mk H
clear H
have hcz16_0 : w5.cell? ⟨gb181, 0, none⟩ = some (.string a0_0) := (blk_cell BK181.out 0).trans rfl
have hcz16_1 : w5.cell? ⟨gb181, 1, none⟩ = some (.string a0_1) := (blk_cell BK181.out 1).trans rfl
have hcz16_2 : w5.cell? ⟨gb181, 2, none⟩ = some (.string a0_2) := (blk_cell BK181.out 2).trans rfl
have hcz16_3 : w5.cell? ⟨gb181, 3, none⟩ = some (.string a0_3) := (blk_cell BK181.out 3).trans rfl
have hcz16_4 : w5.cell? ⟨gb181, 4, none⟩ = some (.string a0_4) := (blk_cell BK181.out 4).trans rfl
have hcz16_5 : w5.cell? ⟨gb181, 5, none⟩ = some (.string a0_5) := (blk_cell BK181.out 5).trans rfl
have hcz16_6 : w5.cell? ⟨gb181, 6, none⟩ = some (.int .i64 a0_6) := (blk_cell BK181.out 6).trans rfl
have hcz16_7 : w5.cell? ⟨gb181, 7, none⟩ = some (.slice A0_7 l0_7.length c0_7) := (blk_cell BK181.out 7).trans rfl
have hfz16_0 := blk_frozen BK181.out 0
have hfz16_1 := blk_frozen BK181.out 1
have hfz16_2 := blk_frozen BK181.out 2
have hfz16_3 := blk_frozen BK181.out 3
have hfz16_4 := blk_frozen BK181.out 4
have hfz16_5 := blk_frozen BK181.out 5
have hfz16_6 := blk_frozen BK181.out 6
have hfz16_7 := blk_frozen BK181.out 7
go_wp2_with (first | (go_at_call 16; (with_reducible refine (sr19_May.calls k a0_0 a0_1 a0_2 a0_3 a0_4 a0_5 a0_6 _ _ l0_7 false _ ?side1 ?side2 A6.out).mono ?_); (case side1 => repeat (first | exact (Kd.C_below HR0_7.out HB.out) | (with_reducible refine Kd.C_alloc ?_ _) | (with_reducible refine Kd.C_drewN ?_ _) | (with_reducible refine Kd.C_drew ?_))); (case side2 => exact HC0_7.out); rintro e w17 ⟨rfl, hb⟩; have n0_ := Aside0.mk (blk_below (g := gb181) (o := .cells #[.string a0_0, .string a0_1, .string a0_2, .string a0_3, .string a0_4, .string a0_5, .int .i64 a0_6, .slice A0_7 l0_7.length c0_7] 24 (0, 0)) (by (with_reducible repeat (first | refine blk_drewN ?_ _ | refine blk_drew ?_ | refine blk_alloc ?_ _)); exact BK181.out) hb); have n1_ := Aside0.mk (below_step (by repeat (first | (with_reducible first | exact HB.out | apply below_alloc | apply pw_below_drewN | apply below_drew1 | refine below_set ?_ GE181.out) | exact HB.out)) hb); clear BK181; clear HB; have BK181 := n0_; have HB := n1_; clear n0_ n1_; (try clear hb); (try clear hb2); (try clear hk); (try clear hi)))
repeat (go_quiet (first | (go_at_call 16; (with_reducible refine (sr19_May.calls k a0_0 a0_1 a0_2 a0_3 a0_4 a0_5 a0_6 _ _ l0_7 false _ ?side1 ?side2 A6.out).mono ?_); (case side1 => repeat (first | exact (Kd.C_below HR0_7.out HB.out) | (with_reducible refine Kd.C_alloc ?_ _) | (with_reducible refine Kd.C_drewN ?_ _) | (with_reducible refine Kd.C_drew ?_))); (case side2 => exact HC0_7.out); rintro e w17 ⟨rfl, hb⟩; have n0_ := Aside0.mk (blk_below (g := gb181) (o := .cells #[.string a0_0, .string a0_1, .string a0_2, .string a0_3, .string a0_4, .string a0_5, .int .i64 a0_6, .slice A0_7 l0_7.length c0_7] 24 (0, 0)) (by (with_reducible repeat (first | refine blk_drewN ?_ _ | refine blk_drew ?_ | refine blk_alloc ?_ _)); exact BK181.out) hb); have n1_ := Aside0.mk (below_step (by repeat (first | (with_reducible first | exact HB.out | apply below_alloc | apply pw_below_drewN | apply below_drew1 | refine below_set ?_ GE181.out) | exact HB.out)) hb); clear BK181; clear HB; have BK181 := n0_; have HB := n1_; clear n0_ n1_; (try clear hb); (try clear hb2); (try clear hk); (try clear hi))); try go_wp2_with (first | (go_at_call 16; (with_reducible refine (sr19_May.calls k a0_0 a0_1 a0_2 a0_3 a0_4 a0_5 a0_6 _ _ l0_7 false _ ?side1 ?side2 A6.out).mono ?_); (case side1 => repeat (first | exact (Kd.C_below HR0_7.out HB.out) | (with_reducible refine Kd.C_alloc ?_ _) | (with_reducible refine Kd.C_drewN ?_ _) | (with_reducible refine Kd.C_drew ?_))); (case side2 => exact HC0_7.out); rintro e w17 ⟨rfl, hb⟩; have n0_ := Aside0.mk (blk_below (g := gb181) (o := .cells #[.string a0_0, .string a0_1, .string a0_2, .string a0_3, .string a0_4, .string a0_5, .int .i64 a0_6, .slice A0_7 l0_7.length c0_7] 24 (0, 0)) (by (with_reducible repeat (first | refine blk_drewN ?_ _ | refine blk_drew ?_ | refine blk_alloc ?_ _)); exact BK181.out) hb); have n1_ := Aside0.mk (below_step (by repeat (first | (with_reducible first | exact HB.out | apply below_alloc | apply pw_below_drewN | apply below_drew1 | refine below_set ?_ GE181.out) | exact HB.out)) hb); clear BK181; clear HB; have BK181 := n0_; have HB := n1_; clear n0_ n1_; (try clear hb); (try clear hb2); (try clear hk); (try clear hi))))
go_meet
case rel => exact ⟨_, (true), (by first | rfl | (simp; done) | (simp [*]; done)), H', ⟨by first | omega | exact Nat.le_refl _⟩, ⟨by (with_reducible repeat (first | refine blk_drewN ?_ _ | refine blk_drew ?_ | refine blk_alloc ?_ _)); exact BK181.out⟩, ⟨by repeat (first | (with_reducible first | exact HB.out | apply below_alloc | apply pw_below_drewN | apply below_drew1 | refine below_set ?_ GE181.out) | exact HB.out)⟩⟩
)
)
 case rest => (
clear HC4
try clear c1
try clear c2
try clear p2
try clear c5
try clear c7
try clear c8
try clear c8b0
try clear c8b1
try clear c8b2
try clear c9
try clear c9b0
try clear c9b1
try clear hcz10_0
try clear hcz10_1
try clear hcz10_2
try clear hcz10_3
try clear hcz10_4
try clear hcz10_5
try clear hcz10_6
try clear hcz10_7
try clear hcz12_0
try clear hcz12_1
try clear hcz12_2
try clear hcz12_3
try clear hcz12_4
try clear hcz12_5
try clear hcz12_6
try clear hcz12_7
try clear hcz14_0
try clear hcz14_1
try clear hcz14_2
try clear hcz14_3
try clear hcz14_4
try clear hcz14_5
try clear hcz14_6
try clear hcz14_7
try clear hcz16_0
try clear hcz16_1
try clear hcz16_2
try clear hcz16_3
try clear hcz16_4
try clear hcz16_5
try clear hcz16_6
try clear hcz16_7
try clear hfz10_0
try clear hfz10_1
try clear hfz10_2
try clear hfz10_3
try clear hfz10_4
try clear hfz10_5
try clear hfz10_6
try clear hfz10_7
try clear hfz12_0
try clear hfz12_1
try clear hfz12_2
try clear hfz12_3
try clear hfz12_4
try clear hfz12_5
try clear hfz12_6
try clear hfz12_7
try clear hfz14_0
try clear hfz14_1
try clear hfz14_2
try clear hfz14_3
try clear hfz14_4
try clear hfz14_5
try clear hfz14_6
try clear hfz14_7
try clear hfz16_0
try clear hfz16_1
try clear hfz16_2
try clear hfz16_3
try clear hfz16_4
try clear hfz16_5
try clear hfz16_6
try clear hfz16_7
obtain ⟨kq, x35_3, rfl, HA, HJ3, BK181, HB⟩ := hcut
cases kq with
| zero => exact absurd HA.out (by simp [sr19_Wrong.j0])
| succ kj3 => (
have H := HA.out
clear HA
simp only [sr19_Wrong.j0] at H
by_cases c18 : x35_3 = true
·(
subst c18
have H1 : (some 1) = some r := by rw [if_pos rfl] at H; exact H
clear H
have H := H1
clear H1
obtain rfl := Option.some.inj H
go_wp2
repeat (go_quiet (fail); try go_wp2)
go_ret
exact ⟨by first | rfl | (simp [errW_none, errW_some] <;> rfl) | (simp [*, errW_none, errW_some] <;> rfl), by repeat (first | (with_reducible first | exact HB.out | apply below_alloc | apply pw_below_drewN | apply below_drew1 | refine below_set ?_ GE181.out) | exact HB.out)⟩
)
·(
replace c18 := Bool.eq_false_iff.mpr c18
subst c18
have H1 : (sr19_Wrong.l0 kj3 l1 l2 0 a0_0 a0_1 a0_2 a0_3 a0_4 a0_5 a0_6 l0_7) = some r := by rw [if_neg (show ¬ (false = true) by decide)] at H; exact H
clear H
have H := H1
clear H1
have H' := Aside0.mk H
clear H
go_wp2
repeat (go_quiet (fail); try go_wp2)
go_loopg [7] kj3 (fun kq v7 w' => ∃ (x7_2 : Int), v7 = .int .i64 x7_2 ∧ Aside0 (sr19_Wrong.l0 kq l1 l2 x7_2 a0_0 a0_1 a0_2 a0_3 a0_4 a0_5 a0_6 l0_7 = some r) ∧ Aside0 (kq ≤ kj3) ∧ Aside0 (w'.heap[gb181]? = some (.cells #[.string a0_0, .string a0_1, .string a0_2, .string a0_3, .string a0_4, .string a0_5, .int .i64 a0_6, (.slice A0_7 l0_7.length c0_7)] 24 (0, 0))) ∧ Aside0 (Below w.heap.size w w'))
case atStart => exact ⟨(0), (by first | rfl | (simp; done) | (simp [*]; done)), H', ⟨Nat.le_refl _⟩, ⟨by (with_reducible repeat (first | refine blk_drewN ?_ _ | refine blk_drew ?_ | refine blk_alloc ?_ _)); exact BK181.out⟩, ⟨by repeat (first | (with_reducible first | exact HB.out | apply below_alloc | apply pw_below_drewN | apply below_drew1 | refine below_set ?_ GE181.out) | exact HB.out)⟩⟩
case round => (
clear H'
try clear c1
try clear c2
try clear p2
try clear c5
try clear c7
try clear c8
try clear c8b0
try clear c8b1
try clear c8b2
try clear c9
try clear c9b0
try clear c9b1
try clear c18
try clear hcz10_0
try clear hcz10_1
try clear hcz10_2
try clear hcz10_3
try clear hcz10_4
try clear hcz10_5
try clear hcz10_6
try clear hcz10_7
try clear hcz12_0
try clear hcz12_1
try clear hcz12_2
try clear hcz12_3
try clear hcz12_4
try clear hcz12_5
try clear hcz12_6
try clear hcz12_7
try clear hcz14_0
try clear hcz14_1
try clear hcz14_2
try clear hcz14_3
try clear hcz14_4
try clear hcz14_5
try clear hcz14_6
try clear hcz14_7
try clear hcz16_0
try clear hcz16_1
try clear hcz16_2
try clear hcz16_3
try clear hcz16_4
try clear hcz16_5
try clear hcz16_6
try clear hcz16_7
try clear hfz10_0
try clear hfz10_1
try clear hfz10_2
try clear hfz10_3
try clear hfz10_4
try clear hfz10_5
try clear hfz10_6
try clear hfz10_7
try clear hfz12_0
try clear hfz12_1
try clear hfz12_2
try clear hfz12_3
try clear hfz12_4
try clear hfz12_5
try clear hfz12_6
try clear hfz12_7
try clear hfz14_0
try clear hfz14_1
try clear hfz14_2
try clear hfz14_3
try clear hfz14_4
try clear hfz14_5
try clear hfz14_6
try clear hfz14_7
try clear hfz16_0
try clear hfz16_1
try clear hfz16_2
try clear hfz16_3
try clear hfz16_4
try clear hfz16_5
try clear hfz16_6
try clear hfz16_7
try clear p2
obtain ⟨x7_2, rfl, HA, HK2, BK181, HB⟩ := hrel
cases gk with
| zero => exact absurd HA.out (by simp [sr19_Wrong.l0])
| succ k2 => (
have H := HA.out
clear HA
simp only [sr19_Wrong.l0] at H
by_cases c19 : x7_2 < (l2.length : Int)
·(
rw [if_pos c19] at H
have c19b0 : decide (x7_2 < (l2.length : Int)) = true := decide_eq_true c19
clear c19
have HC20 := Aside0.mk H
clear H
go_upto_region 6 with (fail)
repeat (go_quiet (fail); go_upto_region 6 with (fail))
go_cut [64] (fun v64 wc => ∃ (kq : Nat) (x64_19 : Bool), v64 = .bool x64_19 ∧ Aside0 (sr19_Wrong.j2 kq l1 l2 x7_2 x64_19 a0_0 a0_1 a0_2 a0_3 a0_4 a0_5 a0_6 l0_7 = some r) ∧ Aside0 (kq ≤ k2) ∧ Aside0 (wc.heap[gb181]? = some (.cells #[.string a0_0, .string a0_1, .string a0_2, .string a0_3, .string a0_4, .string a0_5, .int .i64 a0_6, (.slice A0_7 l0_7.length c0_7)] 24 (0, 0))) ∧ Aside0 (Below w.heap.size w wc))
case first => (
have H := HC20.out
clear HC20
by_cases c21 : 0 ≤ x7_2
·(
rw [if_pos c21] at H
have c21b0 : decide (0 ≤ x7_2) = true := decide_eq_true c21
clear c21
(first | rw [c21b0] | (simp only [i64_w, i32_w]; rw [c21b0]) | skip)
by_cases c22 : x7_2 < (l1.length : Int)
·(
rw [if_pos c22] at H
have c22b0 : decide (x7_2 < (l1.length : Int)) = true := decide_eq_true c22
clear c22
by_cases c23 : (rd l1 x7_2) < 0
·(
rw [if_pos c23] at H
have c23b0 : decide ((rd l1 x7_2) < 0) = true := decide_eq_true c23
clear c23
have H' := Aside0.mk H
clear H
have p183 : 0 ≤ (x7_2 : Int) := of_decide_eq_true (by first | (with_reducible assumption) | assumption)
have q183 : x7_2 < (l1.length : Int) := of_decide_eq_true (by first | (with_reducible assumption) | assumption)
obtain ⟨ad183, e183, hx183_0⟩ := Kd.at_int HR1.out x7_2 p183 q183
cases e183
replace hx183_0 := (HB.out.cell (World.block_lt_of_cell? w _ hx183_0)).trans hx183_0
replace p183 := eq_true p183
replace q183 := eq_true q183
go_wp2
repeat (go_quiet (fail); try go_wp2)
go_meet
case rel => exact ⟨_, (true), (by first | rfl | (simp; done) | (simp [*]; done)), H', ⟨by have := HJ3.out; have := HK2.out; first | omega | exact Nat.le_refl _⟩, ⟨by (with_reducible repeat (first | refine blk_drewN ?_ _ | refine blk_drew ?_ | refine blk_alloc ?_ _)); exact BK181.out⟩, ⟨by repeat (first | (with_reducible first | exact HB.out | apply below_alloc | apply pw_below_drewN | apply below_drew1 | refine below_set ?_ GE181.out) | exact HB.out)⟩⟩
)
·(
rw [if_neg c23] at H
have c23b0 : decide ((rd l1 x7_2) < 0) = false := decide_eq_false c23
clear c23
by_cases c24 : (rd l1 x7_2) > 1048576
·(
rw [if_pos c24] at H
have c24b0 : decide (1048576 < (rd l1 x7_2)) = true := decide_eq_true c24
clear c24
have H' := Aside0.mk H
clear H
have p183 : 0 ≤ (x7_2 : Int) := of_decide_eq_true (by first | (with_reducible assumption) | assumption)
have q183 : x7_2 < (l1.length : Int) := of_decide_eq_true (by first | (with_reducible assumption) | assumption)
obtain ⟨ad183, e183, hx183_0⟩ := Kd.at_int HR1.out x7_2 p183 q183
cases e183
replace hx183_0 := (HB.out.cell (World.block_lt_of_cell? w _ hx183_0)).trans hx183_0
replace p183 := eq_true p183
replace q183 := eq_true q183
have p184 : 0 ≤ (x7_2 : Int) := of_decide_eq_true (by first | (with_reducible assumption) | assumption)
have q184 : x7_2 < (l1.length : Int) := of_decide_eq_true (by first | (with_reducible assumption) | assumption)
obtain ⟨ad184, e184, hx184_0⟩ := Kd.at_int HR1.out x7_2 p184 q184
obtain rfl : ad183 = ad184 := (by injection e184)
replace hx184_0 := (HB.out.cell (World.block_lt_of_cell? w _ hx184_0)).trans hx184_0
replace p184 := eq_true p184
replace q184 := eq_true q184
go_wp2
repeat (go_quiet (fail); try go_wp2)
go_meet
case rel => exact ⟨_, (true), (by first | rfl | (simp; done) | (simp [*]; done)), H', ⟨by have := HJ3.out; have := HK2.out; first | omega | exact Nat.le_refl _⟩, ⟨by (with_reducible repeat (first | refine blk_drewN ?_ _ | refine blk_drew ?_ | refine blk_alloc ?_ _)); exact BK181.out⟩, ⟨by repeat (first | (with_reducible first | exact HB.out | apply below_alloc | apply pw_below_drewN | apply below_drew1 | refine below_set ?_ GE181.out) | exact HB.out)⟩⟩
)
·(
rw [if_neg c24] at H
have c24b0 : decide (1048576 < (rd l1 x7_2)) = false := decide_eq_false c24
clear c24
have H' := Aside0.mk H
clear H
have p183 : 0 ≤ (x7_2 : Int) := of_decide_eq_true (by first | (with_reducible assumption) | assumption)
have q183 : x7_2 < (l1.length : Int) := of_decide_eq_true (by first | (with_reducible assumption) | assumption)
obtain ⟨ad183, e183, hx183_0⟩ := Kd.at_int HR1.out x7_2 p183 q183
cases e183
replace hx183_0 := (HB.out.cell (World.block_lt_of_cell? w _ hx183_0)).trans hx183_0
replace p183 := eq_true p183
replace q183 := eq_true q183
have p184 : 0 ≤ (x7_2 : Int) := of_decide_eq_true (by first | (with_reducible assumption) | assumption)
have q184 : x7_2 < (l1.length : Int) := of_decide_eq_true (by first | (with_reducible assumption) | assumption)
obtain ⟨ad184, e184, hx184_0⟩ := Kd.at_int HR1.out x7_2 p184 q184
obtain rfl : ad183 = ad184 := (by injection e184)
replace hx184_0 := (HB.out.cell (World.block_lt_of_cell? w _ hx184_0)).trans hx184_0
replace p184 := eq_true p184
replace q184 := eq_true q184
have p185 : 0 ≤ (x7_2 : Int) := of_decide_eq_true (by first | (with_reducible assumption) | assumption)
have q185 : x7_2 < (l2.length : Int) := of_decide_eq_true (by first | (with_reducible assumption) | assumption)
obtain ⟨ad185, A185_0, c185_0, e185, hx185_0, hl185_0, hi185_0⟩ := at_L5 HR2.out x7_2 p185 q185
cases e185
replace hx185_0 := (HB.out.cell (World.block_lt_of_cell? w _ hx185_0)).trans hx185_0
have HR185_0 := Aside0.mk hi185_0
have HC185_0 := Aside0.mk hl185_0
clear hi185_0 hl185_0
replace p185 := eq_true p185
replace q185 := eq_true q185
have hcz25_0 : wr.cell? ⟨gb181, 0, none⟩ = some (.string a0_0) := (blk_cell BK181.out 0).trans rfl
have hcz25_1 : wr.cell? ⟨gb181, 1, none⟩ = some (.string a0_1) := (blk_cell BK181.out 1).trans rfl
have hcz25_2 : wr.cell? ⟨gb181, 2, none⟩ = some (.string a0_2) := (blk_cell BK181.out 2).trans rfl
have hcz25_3 : wr.cell? ⟨gb181, 3, none⟩ = some (.string a0_3) := (blk_cell BK181.out 3).trans rfl
have hcz25_4 : wr.cell? ⟨gb181, 4, none⟩ = some (.string a0_4) := (blk_cell BK181.out 4).trans rfl
have hcz25_5 : wr.cell? ⟨gb181, 5, none⟩ = some (.string a0_5) := (blk_cell BK181.out 5).trans rfl
have hcz25_6 : wr.cell? ⟨gb181, 6, none⟩ = some (.int .i64 a0_6) := (blk_cell BK181.out 6).trans rfl
have hcz25_7 : wr.cell? ⟨gb181, 7, none⟩ = some (.slice A0_7 l0_7.length c0_7) := (blk_cell BK181.out 7).trans rfl
have hfz25_0 := blk_frozen BK181.out 0
have hfz25_1 := blk_frozen BK181.out 1
have hfz25_2 := blk_frozen BK181.out 2
have hfz25_3 := blk_frozen BK181.out 3
have hfz25_4 := blk_frozen BK181.out 4
have hfz25_5 := blk_frozen BK181.out 5
have hfz25_6 := blk_frozen BK181.out 6
have hfz25_7 := blk_frozen BK181.out 7
go_wp2
repeat (go_quiet (fail); try go_wp2)
go_meet
case rel => exact ⟨_, ((((rd_L5 l2 x7_2).length : Int) != (l0_7.length : Int))), (by first | rfl | (simp; done) | (simp [*]; done)), H', ⟨by have := HJ3.out; have := HK2.out; first | omega | exact Nat.le_refl _⟩, ⟨by (with_reducible repeat (first | refine blk_drewN ?_ _ | refine blk_drew ?_ | refine blk_alloc ?_ _)); exact BK181.out⟩, ⟨by repeat (first | (with_reducible first | exact HB.out | apply below_alloc | apply pw_below_drewN | apply below_drew1 | refine below_set ?_ GE181.out) | exact HB.out)⟩⟩
)
)
)
·(
rw [if_neg c22] at H
exact absurd H (by simp)
)
)
·(
rw [if_neg c21] at H
exact absurd H (by simp)
)
)
case rest => (
clear HC20
try clear c1
try clear p1
try clear q1
try clear hx1
try clear c2
try clear p2
try clear c5
try clear c7
try clear c8
try clear c8b0
try clear c8b1
try clear c8b2
try clear c9
try clear c9b0
try clear c9b1
try clear c18
try clear p18
try clear q18
try clear hx18
try clear c19
try clear c19b0
try clear c21
try clear c21b0
try clear c22
try clear c22b0
try clear c23
try clear c23b0
try clear c24
try clear c24b0
try clear hcz10_0
try clear hcz10_1
try clear hcz10_2
try clear hcz10_3
try clear hcz10_4
try clear hcz10_5
try clear hcz10_6
try clear hcz10_7
try clear hcz12_0
try clear hcz12_1
try clear hcz12_2
try clear hcz12_3
try clear hcz12_4
try clear hcz12_5
try clear hcz12_6
try clear hcz12_7
try clear hcz14_0
try clear hcz14_1
try clear hcz14_2
try clear hcz14_3
try clear hcz14_4
try clear hcz14_5
try clear hcz14_6
try clear hcz14_7
try clear hcz16_0
try clear hcz16_1
try clear hcz16_2
try clear hcz16_3
try clear hcz16_4
try clear hcz16_5
try clear hcz16_6
try clear hcz16_7
try clear hcz25_0
try clear hcz25_1
try clear hcz25_2
try clear hcz25_3
try clear hcz25_4
try clear hcz25_5
try clear hcz25_6
try clear hcz25_7
try clear hfz10_0
try clear hfz10_1
try clear hfz10_2
try clear hfz10_3
try clear hfz10_4
try clear hfz10_5
try clear hfz10_6
try clear hfz10_7
try clear hfz12_0
try clear hfz12_1
try clear hfz12_2
try clear hfz12_3
try clear hfz12_4
try clear hfz12_5
try clear hfz12_6
try clear hfz12_7
try clear hfz14_0
try clear hfz14_1
try clear hfz14_2
try clear hfz14_3
try clear hfz14_4
try clear hfz14_5
try clear hfz14_6
try clear hfz14_7
try clear hfz16_0
try clear hfz16_1
try clear hfz16_2
try clear hfz16_3
try clear hfz16_4
try clear hfz16_5
try clear hfz16_6
try clear hfz16_7
try clear hfz25_0
try clear hfz25_1
try clear hfz25_2
try clear hfz25_3
try clear hfz25_4
try clear hfz25_5
try clear hfz25_6
try clear hfz25_7
try clear hx183_0
try clear hx184_0
try clear hx185_0
try clear p183
try clear p184
try clear p185
try clear p2
try clear q183
try clear q184
try clear q185
obtain ⟨kq, x64_19, rfl, HA, HJ19, BK181, HB⟩ := hcut
cases kq with
| zero => exact absurd HA.out (by simp [sr19_Wrong.j2])
| succ kj19 => (
have H := HA.out
clear HA
simp only [sr19_Wrong.j2] at H
by_cases c26 : x64_19 = true
·(
subst c26
have H1 : (some 1) = some r := by rw [if_pos rfl] at H; exact H
clear H
have H := H1
clear H1
obtain rfl := Option.some.inj H
go_wp2
repeat (go_quiet (fail); try go_wp2)
go_ret
exact ⟨by first | rfl | (simp [errW_none, errW_some] <;> rfl) | (simp [*, errW_none, errW_some] <;> rfl), by repeat (first | (with_reducible first | exact HB.out | apply below_alloc | apply pw_below_drewN | apply below_drew1 | refine below_set ?_ GE181.out) | exact HB.out)⟩
)
·(
replace c26 := Bool.eq_false_iff.mpr c26
subst c26
have H1 : (sr19_Wrong.l1 kj19 l1 l2 x7_2 0 a0_0 a0_1 a0_2 a0_3 a0_4 a0_5 a0_6 l0_7) = some r := by rw [if_neg (show ¬ (false = true) by decide)] at H; exact H
clear H
have H := H1
clear H1
have H' := Aside0.mk H
clear H
go_wp2
repeat (go_quiet (fail); try go_wp2)
go_loopg [8] kj19 (fun kq v8 w' => ∃ (x8_4 : Int), v8 = .int .i64 x8_4 ∧ Aside0 (sr19_Wrong.l1 kq l1 l2 x7_2 x8_4 a0_0 a0_1 a0_2 a0_3 a0_4 a0_5 a0_6 l0_7 = some r) ∧ Aside0 (kq ≤ kj19) ∧ Aside0 (w'.heap[gb181]? = some (.cells #[.string a0_0, .string a0_1, .string a0_2, .string a0_3, .string a0_4, .string a0_5, .int .i64 a0_6, (.slice A0_7 l0_7.length c0_7)] 24 (0, 0))) ∧ Aside0 (Below w.heap.size w w'))
case atStart => exact ⟨(0), (by first | rfl | (simp; done) | (simp [*]; done)), H', ⟨Nat.le_refl _⟩, ⟨by (with_reducible repeat (first | refine blk_drewN ?_ _ | refine blk_drew ?_ | refine blk_alloc ?_ _)); exact BK181.out⟩, ⟨by repeat (first | (with_reducible first | exact HB.out | apply below_alloc | apply pw_below_drewN | apply below_drew1 | refine below_set ?_ GE181.out) | exact HB.out)⟩⟩
case round => (
clear H'
try clear c1
try clear p1
try clear q1
try clear hx1
try clear c2
try clear p2
try clear c5
try clear c7
try clear c8
try clear c8b0
try clear c8b1
try clear c8b2
try clear c9
try clear c9b0
try clear c9b1
try clear c18
try clear p18
try clear q18
try clear hx18
try clear c19
try clear c19b0
try clear c21
try clear c21b0
try clear c22
try clear c22b0
try clear c23
try clear c23b0
try clear c24
try clear c24b0
try clear c26
try clear hcz10_0
try clear hcz10_1
try clear hcz10_2
try clear hcz10_3
try clear hcz10_4
try clear hcz10_5
try clear hcz10_6
try clear hcz10_7
try clear hcz12_0
try clear hcz12_1
try clear hcz12_2
try clear hcz12_3
try clear hcz12_4
try clear hcz12_5
try clear hcz12_6
try clear hcz12_7
try clear hcz14_0
try clear hcz14_1
try clear hcz14_2
try clear hcz14_3
try clear hcz14_4
try clear hcz14_5
try clear hcz14_6
try clear hcz14_7
try clear hcz16_0
try clear hcz16_1
try clear hcz16_2
try clear hcz16_3
try clear hcz16_4
try clear hcz16_5
try clear hcz16_6
try clear hcz16_7
try clear hcz25_0
try clear hcz25_1
try clear hcz25_2
try clear hcz25_3
try clear hcz25_4
try clear hcz25_5
try clear hcz25_6
try clear hcz25_7
try clear hfz10_0
try clear hfz10_1
try clear hfz10_2
try clear hfz10_3
try clear hfz10_4
try clear hfz10_5
try clear hfz10_6
try clear hfz10_7
try clear hfz12_0
try clear hfz12_1
try clear hfz12_2
try clear hfz12_3
try clear hfz12_4
try clear hfz12_5
try clear hfz12_6
try clear hfz12_7
try clear hfz14_0
try clear hfz14_1
try clear hfz14_2
try clear hfz14_3
try clear hfz14_4
try clear hfz14_5
try clear hfz14_6
try clear hfz14_7
try clear hfz16_0
try clear hfz16_1
try clear hfz16_2
try clear hfz16_3
try clear hfz16_4
try clear hfz16_5
try clear hfz16_6
try clear hfz16_7
try clear hfz25_0
try clear hfz25_1
try clear hfz25_2
try clear hfz25_3
try clear hfz25_4
try clear hfz25_5
try clear hfz25_6
try clear hfz25_7
try clear hx183_0
try clear hx184_0
try clear hx185_0
try clear p1
try clear p18
try clear p183
try clear p184
try clear p185
try clear p2
try clear q1
try clear q18
try clear q183
try clear q184
try clear q185
obtain ⟨x8_4, rfl, HA, HK4, BK181, HB⟩ := hrel
cases gk with
| zero => exact absurd HA.out (by simp [sr19_Wrong.l1])
| succ k4 => (
have H := HA.out
clear HA
simp only [sr19_Wrong.l1] at H
by_cases c27 : 0 ≤ x7_2
·(
rw [if_pos c27] at H
have c27b0 : decide (0 ≤ x7_2) = true := decide_eq_true c27
clear c27
by_cases c28 : x7_2 < (l2.length : Int)
·(
rw [if_pos c28] at H
have c28b0 : decide (x7_2 < (l2.length : Int)) = true := decide_eq_true c28
clear c28
by_cases c29 : x8_4 < ((rd_L5 l2 x7_2).length : Int)
·(
rw [if_pos c29] at H
have c29b0 : decide (x8_4 < ((rd_L5 l2 x7_2).length : Int)) = true := decide_eq_true c29
clear c29
by_cases c30 : 0 ≤ x8_4
·(
rw [if_pos c30] at H
have c30b0 : decide (0 ≤ x8_4) = true := decide_eq_true c30
clear c30
by_cases c31 : (rd (rd_L5 l2 x7_2) x8_4) < 0
·(
rw [if_pos c31] at H
have c31b0 : decide ((rd (rd_L5 l2 x7_2) x8_4) < 0) = true := decide_eq_true c31
clear c31
obtain rfl := Option.some.inj H
have p186 : 0 ≤ (x7_2 : Int) := of_decide_eq_true (by first | (with_reducible assumption) | assumption)
have q186 : x7_2 < (l2.length : Int) := of_decide_eq_true (by first | (with_reducible assumption) | assumption)
obtain ⟨ad186, A186_0, c186_0, e186, hx186_0, hl186_0, hi186_0⟩ := at_L5 HR2.out x7_2 p186 q186
cases e186
replace hx186_0 := (HB.out.cell (World.block_lt_of_cell? w _ hx186_0)).trans hx186_0
have HR186_0 := Aside0.mk hi186_0
have HC186_0 := Aside0.mk hl186_0
clear hi186_0 hl186_0
replace p186 := eq_true p186
replace q186 := eq_true q186
have p187 : 0 ≤ (x7_2 : Int) := of_decide_eq_true (by first | (with_reducible assumption) | assumption)
have q187 : x7_2 < (l2.length : Int) := of_decide_eq_true (by first | (with_reducible assumption) | assumption)
obtain ⟨ad187, A187_0, c187_0, e187, hx187_0, hl187_0, hi187_0⟩ := at_L5 HR2.out x7_2 p187 q187
obtain rfl : ad186 = ad187 := (by injection e187)
replace hx187_0 := (HB.out.cell (World.block_lt_of_cell? w _ hx187_0)).trans hx187_0
have HR187_0 := Aside0.mk hi187_0
have HC187_0 := Aside0.mk hl187_0
clear hi187_0 hl187_0
replace p187 := eq_true p187
replace q187 := eq_true q187
have ea_ := Option.some.inj (hx186_0.symm.trans hx187_0)
injection ea_ with ea_ en_ ec_
subst ea_
subst ec_
clear en_
have p188 : 0 ≤ (x8_4 : Int) := of_decide_eq_true (by first | (with_reducible assumption) | assumption)
have q188 : x8_4 < ((rd_L5 l2 x7_2).length : Int) := of_decide_eq_true (by first | (with_reducible assumption) | assumption)
obtain ⟨ad188, e188, hx188_0⟩ := Kd.at_int HR187_0.out x8_4 p188 q188
cases e188
replace hx188_0 := (HB.out.cell (World.block_lt_of_cell? w _ hx188_0)).trans hx188_0
replace p188 := eq_true p188
replace q188 := eq_true q188
go_wp2
repeat (go_quiet (fail); try go_wp2)
go_ret
exact ⟨by first | rfl | (simp [errW_none, errW_some] <;> rfl) | (simp [*, errW_none, errW_some] <;> rfl), by repeat (first | (with_reducible first | exact HB.out | apply below_alloc | apply pw_below_drewN | apply below_drew1 | refine below_set ?_ GE181.out) | exact HB.out)⟩
)
·(
rw [if_neg c31] at H
have c31b0 : decide ((rd (rd_L5 l2 x7_2) x8_4) < 0) = false := decide_eq_false c31
clear c31
have H' := Aside0.mk H
clear H
have p186 : 0 ≤ (x7_2 : Int) := of_decide_eq_true (by first | (with_reducible assumption) | assumption)
have q186 : x7_2 < (l2.length : Int) := of_decide_eq_true (by first | (with_reducible assumption) | assumption)
obtain ⟨ad186, A186_0, c186_0, e186, hx186_0, hl186_0, hi186_0⟩ := at_L5 HR2.out x7_2 p186 q186
cases e186
replace hx186_0 := (HB.out.cell (World.block_lt_of_cell? w _ hx186_0)).trans hx186_0
have HR186_0 := Aside0.mk hi186_0
have HC186_0 := Aside0.mk hl186_0
clear hi186_0 hl186_0
replace p186 := eq_true p186
replace q186 := eq_true q186
have p187 : 0 ≤ (x7_2 : Int) := of_decide_eq_true (by first | (with_reducible assumption) | assumption)
have q187 : x7_2 < (l2.length : Int) := of_decide_eq_true (by first | (with_reducible assumption) | assumption)
obtain ⟨ad187, A187_0, c187_0, e187, hx187_0, hl187_0, hi187_0⟩ := at_L5 HR2.out x7_2 p187 q187
obtain rfl : ad186 = ad187 := (by injection e187)
replace hx187_0 := (HB.out.cell (World.block_lt_of_cell? w _ hx187_0)).trans hx187_0
have HR187_0 := Aside0.mk hi187_0
have HC187_0 := Aside0.mk hl187_0
clear hi187_0 hl187_0
replace p187 := eq_true p187
replace q187 := eq_true q187
have ea_ := Option.some.inj (hx186_0.symm.trans hx187_0)
injection ea_ with ea_ en_ ec_
subst ea_
subst ec_
clear en_
have p188 : 0 ≤ (x8_4 : Int) := of_decide_eq_true (by first | (with_reducible assumption) | assumption)
have q188 : x8_4 < ((rd_L5 l2 x7_2).length : Int) := of_decide_eq_true (by first | (with_reducible assumption) | assumption)
obtain ⟨ad188, e188, hx188_0⟩ := Kd.at_int HR187_0.out x8_4 p188 q188
cases e188
replace hx188_0 := (HB.out.cell (World.block_lt_of_cell? w _ hx188_0)).trans hx188_0
replace p188 := eq_true p188
replace q188 := eq_true q188
go_wp2
repeat (go_quiet (fail); try go_wp2)
go_roundg k4
case measure => have := HJ3.out; have := HK2.out; have := HJ19.out; have := HK4.out; omega
case rel => exact ⟨(wrap64 (x8_4 + 1)), (by first | rfl | (simp; done) | (simp [*]; done)), H', ⟨by have := HJ3.out; have := HK2.out; have := HJ19.out; have := HK4.out; omega⟩, ⟨by (with_reducible repeat (first | refine blk_drewN ?_ _ | refine blk_drew ?_ | refine blk_alloc ?_ _)); exact BK181.out⟩, ⟨by repeat (first | (with_reducible first | exact HB.out | apply below_alloc | apply pw_below_drewN | apply below_drew1 | refine below_set ?_ GE181.out) | exact HB.out)⟩⟩
)
)
·(
rw [if_neg c30] at H
exact absurd H (by simp)
)
)
·(
rw [if_neg c29] at H
have c29b0 : decide (x8_4 < ((rd_L5 l2 x7_2).length : Int)) = false := decide_eq_false c29
clear c29
have H' := Aside0.mk H
clear H
have p186 : 0 ≤ (x7_2 : Int) := of_decide_eq_true (by first | (with_reducible assumption) | assumption)
have q186 : x7_2 < (l2.length : Int) := of_decide_eq_true (by first | (with_reducible assumption) | assumption)
obtain ⟨ad186, A186_0, c186_0, e186, hx186_0, hl186_0, hi186_0⟩ := at_L5 HR2.out x7_2 p186 q186
cases e186
replace hx186_0 := (HB.out.cell (World.block_lt_of_cell? w _ hx186_0)).trans hx186_0
have HR186_0 := Aside0.mk hi186_0
have HC186_0 := Aside0.mk hl186_0
clear hi186_0 hl186_0
replace p186 := eq_true p186
replace q186 := eq_true q186
go_wp2
repeat (go_quiet (fail); try go_wp2)
go_roundg k4
case measure => have := HJ3.out; have := HK2.out; have := HJ19.out; have := HK4.out; omega
case rel => exact ⟨(wrap64 (x7_2 + 1)), (by first | rfl | (simp; done) | (simp [*]; done)), H', ⟨by have := HJ3.out; have := HK2.out; have := HJ19.out; have := HK4.out; omega⟩, ⟨by (with_reducible repeat (first | refine blk_drewN ?_ _ | refine blk_drew ?_ | refine blk_alloc ?_ _)); exact BK181.out⟩, ⟨by repeat (first | (with_reducible first | exact HB.out | apply below_alloc | apply pw_below_drewN | apply below_drew1 | refine below_set ?_ GE181.out) | exact HB.out)⟩⟩
)
)
·(
rw [if_neg c28] at H
exact absurd H (by simp)
)
)
·(
rw [if_neg c27] at H
exact absurd H (by simp)
)
)
)
)
)
)
)
·(
rw [if_neg c19] at H
have c19b0 : decide (x7_2 < (l2.length : Int)) = false := decide_eq_false c19
clear c19
have H' := Aside0.mk H
clear H
go_wp2
repeat (go_quiet (fail); try go_wp2)
go_loopg [9] k2 (fun kq v9 w' => ∃ (x9_3 : Int), v9 = .int .i64 x9_3 ∧ Aside0 (sr19_Wrong.l2 kq l1 l2 x9_3 a0_0 a0_1 a0_2 a0_3 a0_4 a0_5 a0_6 l0_7 = some r) ∧ Aside0 (kq ≤ k2) ∧ Aside0 (w'.heap[gb181]? = some (.cells #[.string a0_0, .string a0_1, .string a0_2, .string a0_3, .string a0_4, .string a0_5, .int .i64 a0_6, (.slice A0_7 l0_7.length c0_7)] 24 (0, 0))) ∧ Aside0 (Below w.heap.size w w'))
case atStart => exact ⟨(1), (by first | rfl | (simp; done) | (simp [*]; done)), H', ⟨Nat.le_refl _⟩, ⟨by (with_reducible repeat (first | refine blk_drewN ?_ _ | refine blk_drew ?_ | refine blk_alloc ?_ _)); exact BK181.out⟩, ⟨by repeat (first | (with_reducible first | exact HB.out | apply below_alloc | apply pw_below_drewN | apply below_drew1 | refine below_set ?_ GE181.out) | exact HB.out)⟩⟩
case round => (
clear H'
try clear c1
try clear p1
try clear q1
try clear hx1
try clear c2
try clear p2
try clear c3
try clear c5
try clear p6
try clear c7
try clear c8
try clear c8b0
try clear c8b1
try clear c8b2
try clear c9
try clear c9b0
try clear c9b1
try clear c18
try clear p18
try clear q18
try clear hx18
try clear c19
try clear c19b0
try clear c21
try clear c21b0
try clear c22
try clear c22b0
try clear c23
try clear c23b0
try clear c24
try clear c24b0
try clear c26
try clear c27
try clear c27b0
try clear c28
try clear c28b0
try clear c29
try clear c29b0
try clear c30
try clear c30b0
try clear c31
try clear c31b0
try clear hcz10_0
try clear hcz10_1
try clear hcz10_2
try clear hcz10_3
try clear hcz10_4
try clear hcz10_5
try clear hcz10_6
try clear hcz10_7
try clear hcz12_0
try clear hcz12_1
try clear hcz12_2
try clear hcz12_3
try clear hcz12_4
try clear hcz12_5
try clear hcz12_6
try clear hcz12_7
try clear hcz14_0
try clear hcz14_1
try clear hcz14_2
try clear hcz14_3
try clear hcz14_4
try clear hcz14_5
try clear hcz14_6
try clear hcz14_7
try clear hcz16_0
try clear hcz16_1
try clear hcz16_2
try clear hcz16_3
try clear hcz16_4
try clear hcz16_5
try clear hcz16_6
try clear hcz16_7
try clear hcz25_0
try clear hcz25_1
try clear hcz25_2
try clear hcz25_3
try clear hcz25_4
try clear hcz25_5
try clear hcz25_6
try clear hcz25_7
try clear hfz10_0
try clear hfz10_1
try clear hfz10_2
try clear hfz10_3
try clear hfz10_4
try clear hfz10_5
try clear hfz10_6
try clear hfz10_7
try clear hfz12_0
try clear hfz12_1
try clear hfz12_2
try clear hfz12_3
try clear hfz12_4
try clear hfz12_5
try clear hfz12_6
try clear hfz12_7
try clear hfz14_0
try clear hfz14_1
try clear hfz14_2
try clear hfz14_3
try clear hfz14_4
try clear hfz14_5
try clear hfz14_6
try clear hfz14_7
try clear hfz16_0
try clear hfz16_1
try clear hfz16_2
try clear hfz16_3
try clear hfz16_4
try clear hfz16_5
try clear hfz16_6
try clear hfz16_7
try clear hfz25_0
try clear hfz25_1
try clear hfz25_2
try clear hfz25_3
try clear hfz25_4
try clear hfz25_5
try clear hfz25_6
try clear hfz25_7
try clear hx183_0
try clear hx184_0
try clear hx185_0
try clear hx186_0
try clear hx187_0
try clear hx188_0
try clear p1
try clear p18
try clear p183
try clear p184
try clear p185
try clear p186
try clear p187
try clear p188
try clear p2
try clear q1
try clear q18
try clear q183
try clear q184
try clear q185
try clear q186
try clear q187
try clear q188
obtain ⟨x9_3, rfl, HA, HK3, BK181, HB⟩ := hrel
cases gk with
| zero => exact absurd HA.out (by simp [sr19_Wrong.l2])
| succ k3 => (
have H := HA.out
clear HA
simp only [sr19_Wrong.l2] at H
by_cases c32 : x9_3 < (l1.length : Int)
·(
rw [if_pos c32] at H
have c32b0 : decide (x9_3 < (l1.length : Int)) = true := decide_eq_true c32
clear c32
by_cases c33 : 0 ≤ x9_3
·(
rw [if_pos c33] at H
have c33b0 : decide (0 ≤ x9_3) = true := decide_eq_true c33
clear c33
obtain ⟨ji34, hji34⟩ : ∃ j_ : Int, (wrap64 (x9_3 - 1)) = j_ := ⟨_, rfl⟩
replace H : (if 0 ≤ (ji34) then (if (ji34) < (l1.length : Int) then (if (rd l1 x9_3) < (rd l1 (ji34)) then (some 6) else (sr19_Wrong.l2 k3 l1 l2 (wrap64 (x9_3 + 1)) a0_0 a0_1 a0_2 a0_3 a0_4 a0_5 a0_6 l0_7)) else (none)) else (none)) = some r := by first | (rw [hji34] at H; exact H) | (simp only [hji34] at H ⊢; exact H)
have hji34w : (IntKind.i64.wrap (x9_3 - 1)) = ji34 := (i64_w _).trans hji34
by_cases c35 : 0 ≤ (ji34)
·(
rw [if_pos c35] at H
have c35b0 : decide (0 ≤ (ji34)) = true := decide_eq_true c35
clear c35
by_cases c36 : (ji34) < (l1.length : Int)
·(
rw [if_pos c36] at H
have c36b0 : decide ((ji34) < (l1.length : Int)) = true := decide_eq_true c36
clear c36
by_cases c37 : (rd l1 x9_3) < (rd l1 (ji34))
·(
rw [if_pos c37] at H
have c37b0 : decide ((rd l1 x9_3) < (rd l1 (ji34))) = true := decide_eq_true c37
clear c37
obtain rfl := Option.some.inj H
have p189 : 0 ≤ (x9_3 : Int) := of_decide_eq_true (by first | (with_reducible assumption) | assumption)
have q189 : x9_3 < (l1.length : Int) := of_decide_eq_true (by first | (with_reducible assumption) | assumption)
obtain ⟨ad189, e189, hx189_0⟩ := Kd.at_int HR1.out x9_3 p189 q189
cases e189
replace hx189_0 := (HB.out.cell (World.block_lt_of_cell? w _ hx189_0)).trans hx189_0
replace p189 := eq_true p189
replace q189 := eq_true q189
have p190 : 0 ≤ ((ji34) : Int) := of_decide_eq_true (by first | (with_reducible assumption) | assumption)
have q190 : (ji34) < (l1.length : Int) := of_decide_eq_true (by first | (with_reducible assumption) | assumption)
obtain ⟨ad190, e190, hx190_0⟩ := Kd.at_int HR1.out (ji34) p190 q190
obtain rfl : ad189 = ad190 := (by injection e190)
replace hx190_0 := (HB.out.cell (World.block_lt_of_cell? w _ hx190_0)).trans hx190_0
replace p190 := eq_true p190
replace q190 := eq_true q190
go_wp2
repeat (go_quiet (fail); try go_wp2)
go_ret
exact ⟨by first | rfl | (simp [errW_none, errW_some] <;> rfl) | (simp only [← hji34]; first | rfl | (simp [errW_none, errW_some] <;> rfl)) | (simp [*, errW_none, errW_some] <;> rfl), by repeat (first | (with_reducible first | exact HB.out | apply below_alloc | apply pw_below_drewN | apply below_drew1 | refine below_set ?_ GE181.out) | exact HB.out)⟩
)
·(
rw [if_neg c37] at H
have c37b0 : decide ((rd l1 x9_3) < (rd l1 (ji34))) = false := decide_eq_false c37
clear c37
have H' := Aside0.mk H
clear H
have p189 : 0 ≤ (x9_3 : Int) := of_decide_eq_true (by first | (with_reducible assumption) | assumption)
have q189 : x9_3 < (l1.length : Int) := of_decide_eq_true (by first | (with_reducible assumption) | assumption)
obtain ⟨ad189, e189, hx189_0⟩ := Kd.at_int HR1.out x9_3 p189 q189
cases e189
replace hx189_0 := (HB.out.cell (World.block_lt_of_cell? w _ hx189_0)).trans hx189_0
replace p189 := eq_true p189
replace q189 := eq_true q189
have p190 : 0 ≤ ((ji34) : Int) := of_decide_eq_true (by first | (with_reducible assumption) | assumption)
have q190 : (ji34) < (l1.length : Int) := of_decide_eq_true (by first | (with_reducible assumption) | assumption)
obtain ⟨ad190, e190, hx190_0⟩ := Kd.at_int HR1.out (ji34) p190 q190
obtain rfl : ad189 = ad190 := (by injection e190)
replace hx190_0 := (HB.out.cell (World.block_lt_of_cell? w _ hx190_0)).trans hx190_0
replace p190 := eq_true p190
replace q190 := eq_true q190
go_wp2
repeat (go_quiet (fail); try go_wp2)
go_roundg k3
case measure => have := HJ3.out; have := HK2.out; have := HK3.out; omega
case rel => exact ⟨(wrap64 (x9_3 + 1)), (by first | rfl | (simp; done) | (simp [*]; done)), H', ⟨by have := HJ3.out; have := HK2.out; have := HK3.out; omega⟩, ⟨by (with_reducible repeat (first | refine blk_drewN ?_ _ | refine blk_drew ?_ | refine blk_alloc ?_ _)); exact BK181.out⟩, ⟨by repeat (first | (with_reducible first | exact HB.out | apply below_alloc | apply pw_below_drewN | apply below_drew1 | refine below_set ?_ GE181.out) | exact HB.out)⟩⟩
)
)
·(
rw [if_neg c36] at H
exact absurd H (by simp)
)
)
·(
rw [if_neg c35] at H
exact absurd H (by simp)
)
)
·(
rw [if_neg c33] at H
exact absurd H (by simp)
)
)
·(
rw [if_neg c32] at H
have c32b0 : decide (x9_3 < (l1.length : Int)) = false := decide_eq_false c32
clear c32
have H' := Aside0.mk H
clear H
go_wp2
repeat (go_quiet (fail); try go_wp2)
go_loopg [10] k3 (fun kq v10 w' => ∃ (x10_4 : Int), v10 = .int .i64 x10_4 ∧ Aside0 (sr19_Wrong.l3 kq l2 x10_4 a0_0 a0_1 a0_2 a0_3 a0_4 a0_5 a0_6 l0_7 = some r) ∧ Aside0 (kq ≤ k3) ∧ Aside0 (w'.heap[gb181]? = some (.cells #[.string a0_0, .string a0_1, .string a0_2, .string a0_3, .string a0_4, .string a0_5, .int .i64 a0_6, (.slice A0_7 l0_7.length c0_7)] 24 (0, 0))) ∧ Aside0 (Below w.heap.size w w'))
case atStart => exact ⟨(0), (by first | rfl | (simp; done) | (simp [*]; done)), H', ⟨Nat.le_refl _⟩, ⟨by (with_reducible repeat (first | refine blk_drewN ?_ _ | refine blk_drew ?_ | refine blk_alloc ?_ _)); exact BK181.out⟩, ⟨by repeat (first | (with_reducible first | exact HB.out | apply below_alloc | apply pw_below_drewN | apply below_drew1 | refine below_set ?_ GE181.out) | exact HB.out)⟩⟩
case round => (
clear H'
try clear c1
try clear p1
try clear q1
try clear hx1
try clear c2
try clear p2
try clear c3
try clear c5
try clear p6
try clear c7
try clear c8
try clear c8b0
try clear c8b1
try clear c8b2
try clear c9
try clear c9b0
try clear c9b1
try clear c18
try clear p18
try clear q18
try clear hx18
try clear c19
try clear c19b0
try clear p19
try clear q19
try clear hx19
try clear c21
try clear c21b0
try clear c22
try clear c22b0
try clear c23
try clear c23b0
try clear c24
try clear c24b0
try clear c26
try clear c27
try clear c27b0
try clear c28
try clear c28b0
try clear c29
try clear c29b0
try clear c30
try clear c30b0
try clear c31
try clear c31b0
try clear c32
try clear c32b0
try clear c33
try clear c33b0
try clear c35
try clear c35b0
try clear c36
try clear c36b0
try clear c37
try clear c37b0
try clear hcz10_0
try clear hcz10_1
try clear hcz10_2
try clear hcz10_3
try clear hcz10_4
try clear hcz10_5
try clear hcz10_6
try clear hcz10_7
try clear hcz12_0
try clear hcz12_1
try clear hcz12_2
try clear hcz12_3
try clear hcz12_4
try clear hcz12_5
try clear hcz12_6
try clear hcz12_7
try clear hcz14_0
try clear hcz14_1
try clear hcz14_2
try clear hcz14_3
try clear hcz14_4
try clear hcz14_5
try clear hcz14_6
try clear hcz14_7
try clear hcz16_0
try clear hcz16_1
try clear hcz16_2
try clear hcz16_3
try clear hcz16_4
try clear hcz16_5
try clear hcz16_6
try clear hcz16_7
try clear hcz25_0
try clear hcz25_1
try clear hcz25_2
try clear hcz25_3
try clear hcz25_4
try clear hcz25_5
try clear hcz25_6
try clear hcz25_7
try clear hfz10_0
try clear hfz10_1
try clear hfz10_2
try clear hfz10_3
try clear hfz10_4
try clear hfz10_5
try clear hfz10_6
try clear hfz10_7
try clear hfz12_0
try clear hfz12_1
try clear hfz12_2
try clear hfz12_3
try clear hfz12_4
try clear hfz12_5
try clear hfz12_6
try clear hfz12_7
try clear hfz14_0
try clear hfz14_1
try clear hfz14_2
try clear hfz14_3
try clear hfz14_4
try clear hfz14_5
try clear hfz14_6
try clear hfz14_7
try clear hfz16_0
try clear hfz16_1
try clear hfz16_2
try clear hfz16_3
try clear hfz16_4
try clear hfz16_5
try clear hfz16_6
try clear hfz16_7
try clear hfz25_0
try clear hfz25_1
try clear hfz25_2
try clear hfz25_3
try clear hfz25_4
try clear hfz25_5
try clear hfz25_6
try clear hfz25_7
try clear hx183_0
try clear hx184_0
try clear hx185_0
try clear hx186_0
try clear hx187_0
try clear hx188_0
try clear hx189_0
try clear hx190_0
try clear p1
try clear p18
try clear p183
try clear p184
try clear p185
try clear p186
try clear p187
try clear p188
try clear p189
try clear p190
try clear p2
try clear p6
try clear q1
try clear q18
try clear q183
try clear q184
try clear q185
try clear q186
try clear q187
try clear q188
try clear q189
try clear q190
obtain ⟨x10_4, rfl, HA, HK4, BK181, HB⟩ := hrel
cases gk with
| zero => exact absurd HA.out (by simp [sr19_Wrong.l3])
| succ k4 => (
have H := HA.out
clear HA
simp only [sr19_Wrong.l3] at H
by_cases c38 : x10_4 < (l2.length : Int)
·(
rw [if_pos c38] at H
have c38b0 : decide (x10_4 < (l2.length : Int)) = true := decide_eq_true c38
clear c38
have H' := Aside0.mk H
clear H
go_wp2
repeat (go_quiet (fail); try go_wp2)
go_loopg [11, 12] k4 (fun kq v11 v12 w' => ∃ (x11_5 : Bool) (x12_5 : Int), v11 = .bool x11_5 ∧ v12 = .int .i64 x12_5 ∧ Aside0 (sr19_Wrong.l4 kq l2 x10_4 x11_5 x12_5 a0_0 a0_1 a0_2 a0_3 a0_4 a0_5 a0_6 l0_7 = some r) ∧ Aside0 (kq ≤ k4) ∧ Aside0 (w'.heap[gb181]? = some (.cells #[.string a0_0, .string a0_1, .string a0_2, .string a0_3, .string a0_4, .string a0_5, .int .i64 a0_6, (.slice A0_7 l0_7.length c0_7)] 24 (0, 0))) ∧ Aside0 (Below w.heap.size w w'))
case atStart => exact ⟨(false), (0), (by first | rfl | (simp; done) | (simp [*]; done)), (by first | rfl | (simp; done) | (simp [*]; done)), H', ⟨Nat.le_refl _⟩, ⟨by (with_reducible repeat (first | refine blk_drewN ?_ _ | refine blk_drew ?_ | refine blk_alloc ?_ _)); exact BK181.out⟩, ⟨by repeat (first | (with_reducible first | exact HB.out | apply below_alloc | apply pw_below_drewN | apply below_drew1 | refine below_set ?_ GE181.out) | exact HB.out)⟩⟩
case round => (
clear H'
try clear c1
try clear p1
try clear q1
try clear hx1
try clear c2
try clear p2
try clear c3
try clear c5
try clear p6
try clear c7
try clear c8
try clear c8b0
try clear c8b1
try clear c8b2
try clear c9
try clear c9b0
try clear c9b1
try clear c18
try clear p18
try clear q18
try clear hx18
try clear c19
try clear c19b0
try clear p19
try clear q19
try clear hx19
try clear c21
try clear c21b0
try clear c22
try clear c22b0
try clear c23
try clear c23b0
try clear c24
try clear c24b0
try clear c26
try clear c27
try clear c27b0
try clear c28
try clear c28b0
try clear c29
try clear c29b0
try clear c30
try clear c30b0
try clear c31
try clear c31b0
try clear c32
try clear c32b0
try clear c33
try clear c33b0
try clear c35
try clear c35b0
try clear c36
try clear c36b0
try clear c37
try clear c37b0
try clear c38
try clear c38b0
try clear hcz10_0
try clear hcz10_1
try clear hcz10_2
try clear hcz10_3
try clear hcz10_4
try clear hcz10_5
try clear hcz10_6
try clear hcz10_7
try clear hcz12_0
try clear hcz12_1
try clear hcz12_2
try clear hcz12_3
try clear hcz12_4
try clear hcz12_5
try clear hcz12_6
try clear hcz12_7
try clear hcz14_0
try clear hcz14_1
try clear hcz14_2
try clear hcz14_3
try clear hcz14_4
try clear hcz14_5
try clear hcz14_6
try clear hcz14_7
try clear hcz16_0
try clear hcz16_1
try clear hcz16_2
try clear hcz16_3
try clear hcz16_4
try clear hcz16_5
try clear hcz16_6
try clear hcz16_7
try clear hcz25_0
try clear hcz25_1
try clear hcz25_2
try clear hcz25_3
try clear hcz25_4
try clear hcz25_5
try clear hcz25_6
try clear hcz25_7
try clear hfz10_0
try clear hfz10_1
try clear hfz10_2
try clear hfz10_3
try clear hfz10_4
try clear hfz10_5
try clear hfz10_6
try clear hfz10_7
try clear hfz12_0
try clear hfz12_1
try clear hfz12_2
try clear hfz12_3
try clear hfz12_4
try clear hfz12_5
try clear hfz12_6
try clear hfz12_7
try clear hfz14_0
try clear hfz14_1
try clear hfz14_2
try clear hfz14_3
try clear hfz14_4
try clear hfz14_5
try clear hfz14_6
try clear hfz14_7
try clear hfz16_0
try clear hfz16_1
try clear hfz16_2
try clear hfz16_3
try clear hfz16_4
try clear hfz16_5
try clear hfz16_6
try clear hfz16_7
try clear hfz25_0
try clear hfz25_1
try clear hfz25_2
try clear hfz25_3
try clear hfz25_4
try clear hfz25_5
try clear hfz25_6
try clear hfz25_7
try clear hx183_0
try clear hx184_0
try clear hx185_0
try clear hx186_0
try clear hx187_0
try clear hx188_0
try clear hx189_0
try clear hx190_0
try clear p1
try clear p18
try clear p183
try clear p184
try clear p185
try clear p186
try clear p187
try clear p188
try clear p189
try clear p19
try clear p190
try clear p2
try clear p6
try clear q1
try clear q18
try clear q183
try clear q184
try clear q185
try clear q186
try clear q187
try clear q188
try clear q189
try clear q19
try clear q190
obtain ⟨x11_5, x12_5, rfl, rfl, HA, HK5, BK181, HB⟩ := hrel
cases gk with
| zero => exact absurd HA.out (by simp [sr19_Wrong.l4])
| succ k5 => (
have H := HA.out
clear HA
simp only [sr19_Wrong.l4] at H
by_cases c39 : 0 ≤ x10_4
·(
rw [if_pos c39] at H
have c39b0 : decide (0 ≤ x10_4) = true := decide_eq_true c39
clear c39
by_cases c40 : x10_4 < (l2.length : Int)
·(
rw [if_pos c40] at H
have c40b0 : decide (x10_4 < (l2.length : Int)) = true := decide_eq_true c40
clear c40
by_cases c41 : x12_5 < ((rd_L5 l2 x10_4).length : Int)
·(
rw [if_pos c41] at H
have c41b0 : decide (x12_5 < ((rd_L5 l2 x10_4).length : Int)) = true := decide_eq_true c41
clear c41
by_cases c42 : x11_5 = true
·(
subst c42
have H1 : (sr19_Wrong.l4 k5 l2 x10_4 true (wrap64 (x12_5 + 1)) a0_0 a0_1 a0_2 a0_3 a0_4 a0_5 a0_6 l0_7) = some r := by rw [if_pos rfl] at H; exact H
clear H
have H := H1
clear H1
have H' := Aside0.mk H
clear H
have p191 : 0 ≤ (x10_4 : Int) := of_decide_eq_true (by first | (with_reducible assumption) | assumption)
have q191 : x10_4 < (l2.length : Int) := of_decide_eq_true (by first | (with_reducible assumption) | assumption)
obtain ⟨ad191, A191_0, c191_0, e191, hx191_0, hl191_0, hi191_0⟩ := at_L5 HR2.out x10_4 p191 q191
cases e191
replace hx191_0 := (HB.out.cell (World.block_lt_of_cell? w _ hx191_0)).trans hx191_0
have HR191_0 := Aside0.mk hi191_0
have HC191_0 := Aside0.mk hl191_0
clear hi191_0 hl191_0
replace p191 := eq_true p191
replace q191 := eq_true q191
go_wp2
repeat (go_quiet (fail); try go_wp2)
go_roundg k5
case measure => have := HJ3.out; have := HK2.out; have := HK3.out; have := HK4.out; have := HK5.out; omega
case rel => exact ⟨(true), (wrap64 (x12_5 + 1)), (by first | rfl | (simp; done) | (simp [*]; done)), (by first | rfl | (simp; done) | (simp [*]; done)), H', ⟨by have := HJ3.out; have := HK2.out; have := HK3.out; have := HK4.out; have := HK5.out; omega⟩, ⟨by (with_reducible repeat (first | refine blk_drewN ?_ _ | refine blk_drew ?_ | refine blk_alloc ?_ _)); exact BK181.out⟩, ⟨by repeat (first | (with_reducible first | exact HB.out | apply below_alloc | apply pw_below_drewN | apply below_drew1 | refine below_set ?_ GE181.out) | exact HB.out)⟩⟩
)
·(
replace c42 := Bool.eq_false_iff.mpr c42
subst c42
have H1 : (if 0 ≤ x12_5 then (sr19_Wrong.l4 k5 l2 x10_4 (decide ((rd (rd_L5 l2 x10_4) x12_5) > 0)) (wrap64 (x12_5 + 1)) a0_0 a0_1 a0_2 a0_3 a0_4 a0_5 a0_6 l0_7) else (none)) = some r := by rw [if_neg (show ¬ (false = true) by decide)] at H; exact H
clear H
have H := H1
clear H1
by_cases c43 : 0 ≤ x12_5
·(
rw [if_pos c43] at H
have c43b0 : decide (0 ≤ x12_5) = true := decide_eq_true c43
clear c43
have H' := Aside0.mk H
clear H
have p191 : 0 ≤ (x10_4 : Int) := of_decide_eq_true (by first | (with_reducible assumption) | assumption)
have q191 : x10_4 < (l2.length : Int) := of_decide_eq_true (by first | (with_reducible assumption) | assumption)
obtain ⟨ad191, A191_0, c191_0, e191, hx191_0, hl191_0, hi191_0⟩ := at_L5 HR2.out x10_4 p191 q191
cases e191
replace hx191_0 := (HB.out.cell (World.block_lt_of_cell? w _ hx191_0)).trans hx191_0
have HR191_0 := Aside0.mk hi191_0
have HC191_0 := Aside0.mk hl191_0
clear hi191_0 hl191_0
replace p191 := eq_true p191
replace q191 := eq_true q191
have p192 : 0 ≤ (x10_4 : Int) := of_decide_eq_true (by first | (with_reducible assumption) | assumption)
have q192 : x10_4 < (l2.length : Int) := of_decide_eq_true (by first | (with_reducible assumption) | assumption)
obtain ⟨ad192, A192_0, c192_0, e192, hx192_0, hl192_0, hi192_0⟩ := at_L5 HR2.out x10_4 p192 q192
obtain rfl : ad191 = ad192 := (by injection e192)
replace hx192_0 := (HB.out.cell (World.block_lt_of_cell? w _ hx192_0)).trans hx192_0
have HR192_0 := Aside0.mk hi192_0
have HC192_0 := Aside0.mk hl192_0
clear hi192_0 hl192_0
replace p192 := eq_true p192
replace q192 := eq_true q192
have ea_ := Option.some.inj (hx191_0.symm.trans hx192_0)
injection ea_ with ea_ en_ ec_
subst ea_
subst ec_
clear en_
have p193 : 0 ≤ (x12_5 : Int) := of_decide_eq_true (by first | (with_reducible assumption) | assumption)
have q193 : x12_5 < ((rd_L5 l2 x10_4).length : Int) := of_decide_eq_true (by first | (with_reducible assumption) | assumption)
obtain ⟨ad193, e193, hx193_0⟩ := Kd.at_int HR192_0.out x12_5 p193 q193
cases e193
replace hx193_0 := (HB.out.cell (World.block_lt_of_cell? w _ hx193_0)).trans hx193_0
replace p193 := eq_true p193
replace q193 := eq_true q193
go_wp2
repeat (go_quiet (fail); try go_wp2)
go_roundg k5
case measure => have := HJ3.out; have := HK2.out; have := HK3.out; have := HK4.out; have := HK5.out; omega
case rel => exact ⟨(decide ((rd (rd_L5 l2 x10_4) x12_5) > 0)), (wrap64 (x12_5 + 1)), (by first | rfl | (simp; done) | (simp [*]; done)), (by first | rfl | (simp; done) | (simp [*]; done)), H', ⟨by have := HJ3.out; have := HK2.out; have := HK3.out; have := HK4.out; have := HK5.out; omega⟩, ⟨by (with_reducible repeat (first | refine blk_drewN ?_ _ | refine blk_drew ?_ | refine blk_alloc ?_ _)); exact BK181.out⟩, ⟨by repeat (first | (with_reducible first | exact HB.out | apply below_alloc | apply pw_below_drewN | apply below_drew1 | refine below_set ?_ GE181.out) | exact HB.out)⟩⟩
)
·(
rw [if_neg c43] at H
exact absurd H (by simp)
)
)
)
·(
rw [if_neg c41] at H
have c41b0 : decide (x12_5 < ((rd_L5 l2 x10_4).length : Int)) = false := decide_eq_false c41
clear c41
by_cases c44 : x11_5 = true
·(
subst c44
have H1 : (sr19_Wrong.l3 k5 l2 (wrap64 (x10_4 + 1)) a0_0 a0_1 a0_2 a0_3 a0_4 a0_5 a0_6 l0_7) = some r := by rw [if_pos rfl] at H; exact H
clear H
have H := H1
clear H1
have H' := Aside0.mk H
clear H
have p191 : 0 ≤ (x10_4 : Int) := of_decide_eq_true (by first | (with_reducible assumption) | assumption)
have q191 : x10_4 < (l2.length : Int) := of_decide_eq_true (by first | (with_reducible assumption) | assumption)
obtain ⟨ad191, A191_0, c191_0, e191, hx191_0, hl191_0, hi191_0⟩ := at_L5 HR2.out x10_4 p191 q191
cases e191
replace hx191_0 := (HB.out.cell (World.block_lt_of_cell? w _ hx191_0)).trans hx191_0
have HR191_0 := Aside0.mk hi191_0
have HC191_0 := Aside0.mk hl191_0
clear hi191_0 hl191_0
replace p191 := eq_true p191
replace q191 := eq_true q191
go_wp2
repeat (go_quiet (fail); try go_wp2)
go_roundg k5
case measure => have := HJ3.out; have := HK2.out; have := HK3.out; have := HK4.out; have := HK5.out; omega
case rel => exact ⟨(wrap64 (x10_4 + 1)), (by first | rfl | (simp; done) | (simp [*]; done)), H', ⟨by have := HJ3.out; have := HK2.out; have := HK3.out; have := HK4.out; have := HK5.out; omega⟩, ⟨by (with_reducible repeat (first | refine blk_drewN ?_ _ | refine blk_drew ?_ | refine blk_alloc ?_ _)); exact BK181.out⟩, ⟨by repeat (first | (with_reducible first | exact HB.out | apply below_alloc | apply pw_below_drewN | apply below_drew1 | refine below_set ?_ GE181.out) | exact HB.out)⟩⟩
)
·(
replace c44 := Bool.eq_false_iff.mpr c44
subst c44
have H1 : (some 4) = some r := by rw [if_neg (show ¬ (false = true) by decide)] at H; exact H
clear H
have H := H1
clear H1
obtain rfl := Option.some.inj H
have p191 : 0 ≤ (x10_4 : Int) := of_decide_eq_true (by first | (with_reducible assumption) | assumption)
have q191 : x10_4 < (l2.length : Int) := of_decide_eq_true (by first | (with_reducible assumption) | assumption)
obtain ⟨ad191, A191_0, c191_0, e191, hx191_0, hl191_0, hi191_0⟩ := at_L5 HR2.out x10_4 p191 q191
cases e191
replace hx191_0 := (HB.out.cell (World.block_lt_of_cell? w _ hx191_0)).trans hx191_0
have HR191_0 := Aside0.mk hi191_0
have HC191_0 := Aside0.mk hl191_0
clear hi191_0 hl191_0
replace p191 := eq_true p191
replace q191 := eq_true q191
go_wp2
repeat (go_quiet (fail); try go_wp2)
go_ret
exact ⟨by first | rfl | (simp [errW_none, errW_some] <;> rfl) | (simp [*, errW_none, errW_some] <;> rfl), by repeat (first | (with_reducible first | exact HB.out | apply below_alloc | apply pw_below_drewN | apply below_drew1 | refine below_set ?_ GE181.out) | exact HB.out)⟩
)
)
)
·(
rw [if_neg c40] at H
exact absurd H (by simp)
)
)
·(
rw [if_neg c39] at H
exact absurd H (by simp)
)
)
)
)
·(
rw [if_neg c38] at H
have c38b0 : decide (x10_4 < (l2.length : Int)) = false := decide_eq_false c38
clear c38
have H' := Aside0.mk H
clear H
go_wp2
repeat (go_quiet (fail); try go_wp2)
go_loopg [13] k4 (fun kq v13 w' => ∃ (x13_5 : Int), v13 = .int .i64 x13_5 ∧ Aside0 (sr19_Wrong.l5 kq l2 x13_5 a0_0 a0_1 a0_2 a0_3 a0_4 a0_5 a0_6 l0_7 = some r) ∧ Aside0 (kq ≤ k4) ∧ Aside0 (w'.heap[gb181]? = some (.cells #[.string a0_0, .string a0_1, .string a0_2, .string a0_3, .string a0_4, .string a0_5, .int .i64 a0_6, (.slice A0_7 l0_7.length c0_7)] 24 (0, 0))) ∧ Aside0 (Below w.heap.size w w'))
case atStart => exact ⟨(0), (by first | rfl | (simp; done) | (simp [*]; done)), H', ⟨Nat.le_refl _⟩, ⟨by (with_reducible repeat (first | refine blk_drewN ?_ _ | refine blk_drew ?_ | refine blk_alloc ?_ _)); exact BK181.out⟩, ⟨by repeat (first | (with_reducible first | exact HB.out | apply below_alloc | apply pw_below_drewN | apply below_drew1 | refine below_set ?_ GE181.out) | exact HB.out)⟩⟩
case round => (
clear H'
try clear c1
try clear p1
try clear q1
try clear hx1
try clear c2
try clear p2
try clear c3
try clear c4
try clear c5
try clear p6
try clear c7
try clear c8
try clear c8b0
try clear c8b1
try clear c8b2
try clear c9
try clear c9b0
try clear c9b1
try clear c18
try clear p18
try clear q18
try clear hx18
try clear c19
try clear c19b0
try clear p19
try clear q19
try clear hx19
try clear c21
try clear c21b0
try clear c22
try clear c22b0
try clear c23
try clear c23b0
try clear c24
try clear c24b0
try clear c26
try clear c27
try clear c27b0
try clear c28
try clear c28b0
try clear c29
try clear c29b0
try clear c30
try clear c30b0
try clear c31
try clear c31b0
try clear c32
try clear c32b0
try clear c33
try clear c33b0
try clear c35
try clear c35b0
try clear c36
try clear c36b0
try clear c37
try clear c37b0
try clear c38
try clear c38b0
try clear c39
try clear c39b0
try clear c40
try clear c40b0
try clear c41
try clear c41b0
try clear c42
try clear c43
try clear c43b0
try clear c44
try clear hcz10_0
try clear hcz10_1
try clear hcz10_2
try clear hcz10_3
try clear hcz10_4
try clear hcz10_5
try clear hcz10_6
try clear hcz10_7
try clear hcz12_0
try clear hcz12_1
try clear hcz12_2
try clear hcz12_3
try clear hcz12_4
try clear hcz12_5
try clear hcz12_6
try clear hcz12_7
try clear hcz14_0
try clear hcz14_1
try clear hcz14_2
try clear hcz14_3
try clear hcz14_4
try clear hcz14_5
try clear hcz14_6
try clear hcz14_7
try clear hcz16_0
try clear hcz16_1
try clear hcz16_2
try clear hcz16_3
try clear hcz16_4
try clear hcz16_5
try clear hcz16_6
try clear hcz16_7
try clear hcz25_0
try clear hcz25_1
try clear hcz25_2
try clear hcz25_3
try clear hcz25_4
try clear hcz25_5
try clear hcz25_6
try clear hcz25_7
try clear hfz10_0
try clear hfz10_1
try clear hfz10_2
try clear hfz10_3
try clear hfz10_4
try clear hfz10_5
try clear hfz10_6
try clear hfz10_7
try clear hfz12_0
try clear hfz12_1
try clear hfz12_2
try clear hfz12_3
try clear hfz12_4
try clear hfz12_5
try clear hfz12_6
try clear hfz12_7
try clear hfz14_0
try clear hfz14_1
try clear hfz14_2
try clear hfz14_3
try clear hfz14_4
try clear hfz14_5
try clear hfz14_6
try clear hfz14_7
try clear hfz16_0
try clear hfz16_1
try clear hfz16_2
try clear hfz16_3
try clear hfz16_4
try clear hfz16_5
try clear hfz16_6
try clear hfz16_7
try clear hfz25_0
try clear hfz25_1
try clear hfz25_2
try clear hfz25_3
try clear hfz25_4
try clear hfz25_5
try clear hfz25_6
try clear hfz25_7
try clear hx183_0
try clear hx184_0
try clear hx185_0
try clear hx186_0
try clear hx187_0
try clear hx188_0
try clear hx189_0
try clear hx190_0
try clear hx191_0
try clear hx192_0
try clear hx193_0
try clear p1
try clear p18
try clear p183
try clear p184
try clear p185
try clear p186
try clear p187
try clear p188
try clear p189
try clear p19
try clear p190
try clear p191
try clear p192
try clear p193
try clear p2
try clear p6
try clear q1
try clear q18
try clear q183
try clear q184
try clear q185
try clear q186
try clear q187
try clear q188
try clear q189
try clear q19
try clear q190
try clear q191
try clear q192
try clear q193
obtain ⟨x13_5, rfl, HA, HK5, BK181, HB⟩ := hrel
cases gk with
| zero => exact absurd HA.out (by simp [sr19_Wrong.l5])
| succ k5 => (
have H := HA.out
clear HA
simp only [sr19_Wrong.l5] at H
by_cases c45 : x13_5 < (l0_7.length : Int)
·(
rw [if_pos c45] at H
have c45b0 : decide (x13_5 < (l0_7.length : Int)) = true := decide_eq_true c45
clear c45
by_cases c46 : 0 ≤ x13_5
·(
rw [if_pos c46] at H
have c46b0 : decide (0 ≤ x13_5) = true := decide_eq_true c46
clear c46
have H' := Aside0.mk H
clear H
have hcz47_0 : wr.cell? ⟨gb181, 0, none⟩ = some (.string a0_0) := (blk_cell BK181.out 0).trans rfl
have hcz47_1 : wr.cell? ⟨gb181, 1, none⟩ = some (.string a0_1) := (blk_cell BK181.out 1).trans rfl
have hcz47_2 : wr.cell? ⟨gb181, 2, none⟩ = some (.string a0_2) := (blk_cell BK181.out 2).trans rfl
have hcz47_3 : wr.cell? ⟨gb181, 3, none⟩ = some (.string a0_3) := (blk_cell BK181.out 3).trans rfl
have hcz47_4 : wr.cell? ⟨gb181, 4, none⟩ = some (.string a0_4) := (blk_cell BK181.out 4).trans rfl
have hcz47_5 : wr.cell? ⟨gb181, 5, none⟩ = some (.string a0_5) := (blk_cell BK181.out 5).trans rfl
have hcz47_6 : wr.cell? ⟨gb181, 6, none⟩ = some (.int .i64 a0_6) := (blk_cell BK181.out 6).trans rfl
have hcz47_7 : wr.cell? ⟨gb181, 7, none⟩ = some (.slice A0_7 l0_7.length c0_7) := (blk_cell BK181.out 7).trans rfl
have hfz47_0 := blk_frozen BK181.out 0
have hfz47_1 := blk_frozen BK181.out 1
have hfz47_2 := blk_frozen BK181.out 2
have hfz47_3 := blk_frozen BK181.out 3
have hfz47_4 := blk_frozen BK181.out 4
have hfz47_5 := blk_frozen BK181.out 5
have hfz47_6 := blk_frozen BK181.out 6
have hfz47_7 := blk_frozen BK181.out 7
have p194 : 0 ≤ (x13_5 : Int) := of_decide_eq_true (by first | (with_reducible assumption) | assumption)
have q194 : x13_5 < (l0_7.length : Int) := of_decide_eq_true (by first | (with_reducible assumption) | assumption)
obtain ⟨ad194, e194, hx194_0, hx194_1, hx194_2⟩ := at_T65 HR0_7.out x13_5 p194 q194
cases e194
replace hx194_0 := (HB.out.cell (World.block_lt_of_cell? w _ hx194_0)).trans hx194_0
replace hx194_1 := (HB.out.cell (World.block_lt_of_cell? w _ hx194_1)).trans hx194_1
replace hx194_2 := (HB.out.cell (World.block_lt_of_cell? w _ hx194_2)).trans hx194_2
replace p194 := eq_true p194
replace q194 := eq_true q194
go_wp2
repeat (go_quiet (fail); try go_wp2)
go_loopg [14, 15] k5 (fun kq v14 v15 w' => ∃ (x14_6 : Int) (x15_6 : Int), v14 = .int .i64 x14_6 ∧ v15 = .int .i64 x15_6 ∧ Aside0 (sr19_Wrong.l6 kq l2 x13_5 x14_6 x15_6 a0_0 a0_1 a0_2 a0_3 a0_4 a0_5 a0_6 l0_7 = some r) ∧ Aside0 (kq ≤ k5) ∧ Aside0 (w'.heap[gb181]? = some (.cells #[.string a0_0, .string a0_1, .string a0_2, .string a0_3, .string a0_4, .string a0_5, .int .i64 a0_6, (.slice (some ad194) l0_7.length c0_7)] 24 (0, 0))) ∧ Aside0 (Below w.heap.size w w'))
case atStart => exact ⟨((rd_T65 l0_7 x13_5).f1), (0), (by first | rfl | (simp; done) | (simp [*]; done)), (by first | rfl | (simp; done) | (simp [*]; done)), H', ⟨Nat.le_refl _⟩, ⟨by (with_reducible repeat (first | refine blk_drewN ?_ _ | refine blk_drew ?_ | refine blk_alloc ?_ _)); exact BK181.out⟩, ⟨by repeat (first | (with_reducible first | exact HB.out | apply below_alloc | apply pw_below_drewN | apply below_drew1 | refine below_set ?_ GE181.out) | exact HB.out)⟩⟩
case round => (
clear H'
try clear c1
try clear p1
try clear q1
try clear hx1
try clear c2
try clear p2
try clear c3
try clear c4
try clear c5
try clear p6
try clear c7
try clear c8
try clear c8b0
try clear c8b1
try clear c8b2
try clear c9
try clear c9b0
try clear c9b1
try clear c18
try clear p18
try clear q18
try clear hx18
try clear c19
try clear c19b0
try clear p19
try clear q19
try clear hx19
try clear c21
try clear c21b0
try clear c22
try clear c22b0
try clear c23
try clear c23b0
try clear c24
try clear c24b0
try clear c26
try clear c27
try clear c27b0
try clear c28
try clear c28b0
try clear c29
try clear c29b0
try clear c30
try clear c30b0
try clear c31
try clear c31b0
try clear c32
try clear c32b0
try clear c33
try clear c33b0
try clear c35
try clear c35b0
try clear c36
try clear c36b0
try clear c37
try clear c37b0
try clear c38
try clear c38b0
try clear c39
try clear c39b0
try clear c40
try clear c40b0
try clear c41
try clear c41b0
try clear c42
try clear c43
try clear c43b0
try clear c44
try clear c45
try clear c45b0
try clear c46
try clear c46b0
try clear hcz10_0
try clear hcz10_1
try clear hcz10_2
try clear hcz10_3
try clear hcz10_4
try clear hcz10_5
try clear hcz10_6
try clear hcz10_7
try clear hcz12_0
try clear hcz12_1
try clear hcz12_2
try clear hcz12_3
try clear hcz12_4
try clear hcz12_5
try clear hcz12_6
try clear hcz12_7
try clear hcz14_0
try clear hcz14_1
try clear hcz14_2
try clear hcz14_3
try clear hcz14_4
try clear hcz14_5
try clear hcz14_6
try clear hcz14_7
try clear hcz16_0
try clear hcz16_1
try clear hcz16_2
try clear hcz16_3
try clear hcz16_4
try clear hcz16_5
try clear hcz16_6
try clear hcz16_7
try clear hcz25_0
try clear hcz25_1
try clear hcz25_2
try clear hcz25_3
try clear hcz25_4
try clear hcz25_5
try clear hcz25_6
try clear hcz25_7
try clear hcz47_0
try clear hcz47_1
try clear hcz47_2
try clear hcz47_3
try clear hcz47_4
try clear hcz47_5
try clear hcz47_6
try clear hcz47_7
try clear hfz10_0
try clear hfz10_1
try clear hfz10_2
try clear hfz10_3
try clear hfz10_4
try clear hfz10_5
try clear hfz10_6
try clear hfz10_7
try clear hfz12_0
try clear hfz12_1
try clear hfz12_2
try clear hfz12_3
try clear hfz12_4
try clear hfz12_5
try clear hfz12_6
try clear hfz12_7
try clear hfz14_0
try clear hfz14_1
try clear hfz14_2
try clear hfz14_3
try clear hfz14_4
try clear hfz14_5
try clear hfz14_6
try clear hfz14_7
try clear hfz16_0
try clear hfz16_1
try clear hfz16_2
try clear hfz16_3
try clear hfz16_4
try clear hfz16_5
try clear hfz16_6
try clear hfz16_7
try clear hfz25_0
try clear hfz25_1
try clear hfz25_2
try clear hfz25_3
try clear hfz25_4
try clear hfz25_5
try clear hfz25_6
try clear hfz25_7
try clear hfz47_0
try clear hfz47_1
try clear hfz47_2
try clear hfz47_3
try clear hfz47_4
try clear hfz47_5
try clear hfz47_6
try clear hfz47_7
try clear hx183_0
try clear hx184_0
try clear hx185_0
try clear hx186_0
try clear hx187_0
try clear hx188_0
try clear hx189_0
try clear hx190_0
try clear hx191_0
try clear hx192_0
try clear hx193_0
try clear hx194_0
try clear hx194_1
try clear hx194_2
try clear p1
try clear p18
try clear p183
try clear p184
try clear p185
try clear p186
try clear p187
try clear p188
try clear p189
try clear p19
try clear p190
try clear p191
try clear p192
try clear p193
try clear p194
try clear p2
try clear p6
try clear q1
try clear q18
try clear q183
try clear q184
try clear q185
try clear q186
try clear q187
try clear q188
try clear q189
try clear q19
try clear q190
try clear q191
try clear q192
try clear q193
try clear q194
obtain ⟨x14_6, x15_6, rfl, rfl, HA, HK6, BK181, HB⟩ := hrel
cases gk with
| zero => exact absurd HA.out (by simp [sr19_Wrong.l6])
| succ k6 => (
have H := HA.out
clear HA
simp only [sr19_Wrong.l6] at H
by_cases c48 : x15_6 < (l2.length : Int)
·(
rw [if_pos c48] at H
have c48b0 : decide (x15_6 < (l2.length : Int)) = true := decide_eq_true c48
clear c48
by_cases c49 : 0 ≤ x15_6
·(
rw [if_pos c49] at H
have c49b0 : decide (0 ≤ x15_6) = true := decide_eq_true c49
clear c49
by_cases c50 : 0 ≤ x13_5
·(
rw [if_pos c50] at H
have c50b0 : decide (0 ≤ x13_5) = true := decide_eq_true c50
clear c50
by_cases c51 : x13_5 < ((rd_L5 l2 x15_6).length : Int)
·(
rw [if_pos c51] at H
have c51b0 : decide (x13_5 < ((rd_L5 l2 x15_6).length : Int)) = true := decide_eq_true c51
clear c51
by_cases c52 : (rd (rd_L5 l2 x15_6) x13_5) > x14_6
·(
rw [if_pos c52] at H
have c52b0 : decide (x14_6 < (rd (rd_L5 l2 x15_6) x13_5)) = true := decide_eq_true c52
clear c52
obtain rfl := Option.some.inj H
have p195 : 0 ≤ (x15_6 : Int) := of_decide_eq_true (by first | (with_reducible assumption) | assumption)
have q195 : x15_6 < (l2.length : Int) := of_decide_eq_true (by first | (with_reducible assumption) | assumption)
obtain ⟨ad195, A195_0, c195_0, e195, hx195_0, hl195_0, hi195_0⟩ := at_L5 HR2.out x15_6 p195 q195
cases e195
replace hx195_0 := (HB.out.cell (World.block_lt_of_cell? w _ hx195_0)).trans hx195_0
have HR195_0 := Aside0.mk hi195_0
have HC195_0 := Aside0.mk hl195_0
clear hi195_0 hl195_0
replace p195 := eq_true p195
replace q195 := eq_true q195
have p196 : 0 ≤ (x13_5 : Int) := of_decide_eq_true (by first | (with_reducible assumption) | assumption)
have q196 : x13_5 < ((rd_L5 l2 x15_6).length : Int) := of_decide_eq_true (by first | (with_reducible assumption) | assumption)
obtain ⟨ad196, e196, hx196_0⟩ := Kd.at_int HR195_0.out x13_5 p196 q196
cases e196
replace hx196_0 := (HB.out.cell (World.block_lt_of_cell? w _ hx196_0)).trans hx196_0
replace p196 := eq_true p196
replace q196 := eq_true q196
go_wp2
repeat (go_quiet (fail); try go_wp2)
go_ret
exact ⟨by first | rfl | (simp [errW_none, errW_some] <;> rfl) | (simp [*, errW_none, errW_some] <;> rfl), by repeat (first | (with_reducible first | exact HB.out | apply below_alloc | apply pw_below_drewN | apply below_drew1 | refine below_set ?_ GE181.out) | exact HB.out)⟩
)
·(
rw [if_neg c52] at H
have c52b0 : decide (x14_6 < (rd (rd_L5 l2 x15_6) x13_5)) = false := decide_eq_false c52
clear c52
have H' := Aside0.mk H
clear H
have p195 : 0 ≤ (x15_6 : Int) := of_decide_eq_true (by first | (with_reducible assumption) | assumption)
have q195 : x15_6 < (l2.length : Int) := of_decide_eq_true (by first | (with_reducible assumption) | assumption)
obtain ⟨ad195, A195_0, c195_0, e195, hx195_0, hl195_0, hi195_0⟩ := at_L5 HR2.out x15_6 p195 q195
cases e195
replace hx195_0 := (HB.out.cell (World.block_lt_of_cell? w _ hx195_0)).trans hx195_0
have HR195_0 := Aside0.mk hi195_0
have HC195_0 := Aside0.mk hl195_0
clear hi195_0 hl195_0
replace p195 := eq_true p195
replace q195 := eq_true q195
have p196 : 0 ≤ (x13_5 : Int) := of_decide_eq_true (by first | (with_reducible assumption) | assumption)
have q196 : x13_5 < ((rd_L5 l2 x15_6).length : Int) := of_decide_eq_true (by first | (with_reducible assumption) | assumption)
obtain ⟨ad196, e196, hx196_0⟩ := Kd.at_int HR195_0.out x13_5 p196 q196
cases e196
replace hx196_0 := (HB.out.cell (World.block_lt_of_cell? w _ hx196_0)).trans hx196_0
replace p196 := eq_true p196
replace q196 := eq_true q196
have p197 : 0 ≤ (x15_6 : Int) := of_decide_eq_true (by first | (with_reducible assumption) | assumption)
have q197 : x15_6 < (l2.length : Int) := of_decide_eq_true (by first | (with_reducible assumption) | assumption)
obtain ⟨ad197, A197_0, c197_0, e197, hx197_0, hl197_0, hi197_0⟩ := at_L5 HR2.out x15_6 p197 q197
obtain rfl : ad195 = ad197 := (by injection e197)
replace hx197_0 := (HB.out.cell (World.block_lt_of_cell? w _ hx197_0)).trans hx197_0
have HR197_0 := Aside0.mk hi197_0
have HC197_0 := Aside0.mk hl197_0
clear hi197_0 hl197_0
replace p197 := eq_true p197
replace q197 := eq_true q197
have ea_ := Option.some.inj (hx195_0.symm.trans hx197_0)
injection ea_ with ea_ en_ ec_
subst ea_
subst ec_
clear en_
have p198 : 0 ≤ (x13_5 : Int) := of_decide_eq_true (by first | (with_reducible assumption) | assumption)
have q198 : x13_5 < ((rd_L5 l2 x15_6).length : Int) := of_decide_eq_true (by first | (with_reducible assumption) | assumption)
obtain ⟨ad198, e198, hx198_0⟩ := Kd.at_int HR197_0.out x13_5 p198 q198
cases e198
replace hx198_0 := (HB.out.cell (World.block_lt_of_cell? w _ hx198_0)).trans hx198_0
replace p198 := eq_true p198
replace q198 := eq_true q198
go_wp2
repeat (go_quiet (fail); try go_wp2)
go_roundg k6
case measure => have := HJ3.out; have := HK2.out; have := HK3.out; have := HK4.out; have := HK5.out; have := HK6.out; omega
case rel => exact ⟨(wrap64 (x14_6 - (rd (rd_L5 l2 x15_6) x13_5))), (wrap64 (x15_6 + 1)), (by first | rfl | (simp; done) | (simp [*]; done)), (by first | rfl | (simp; done) | (simp [*]; done)), H', ⟨by have := HJ3.out; have := HK2.out; have := HK3.out; have := HK4.out; have := HK5.out; have := HK6.out; omega⟩, ⟨by (with_reducible repeat (first | refine blk_drewN ?_ _ | refine blk_drew ?_ | refine blk_alloc ?_ _)); exact BK181.out⟩, ⟨by repeat (first | (with_reducible first | exact HB.out | apply below_alloc | apply pw_below_drewN | apply below_drew1 | refine below_set ?_ GE181.out) | exact HB.out)⟩⟩
)
)
·(
rw [if_neg c51] at H
exact absurd H (by simp)
)
)
·(
rw [if_neg c50] at H
exact absurd H (by simp)
)
)
·(
rw [if_neg c49] at H
exact absurd H (by simp)
)
)
·(
rw [if_neg c48] at H
have c48b0 : decide (x15_6 < (l2.length : Int)) = false := decide_eq_false c48
clear c48
by_cases c53 : x14_6 = 0
·(
rw [if_pos c53] at H
have c53b0 : (x14_6 == 0) = true := beq_iff_eq.mpr c53
have c53b1 : (x14_6 != 0) = false := bne_eq_false_iff_eq.mpr c53
clear c53
have H' := Aside0.mk H
clear H
go_wp2
repeat (go_quiet (fail); try go_wp2)
go_roundg k6
case measure => have := HJ3.out; have := HK2.out; have := HK3.out; have := HK4.out; have := HK5.out; have := HK6.out; omega
case rel => exact ⟨(wrap64 (x13_5 + 1)), (by first | rfl | (simp; done) | (simp [*]; done)), H', ⟨by have := HJ3.out; have := HK2.out; have := HK3.out; have := HK4.out; have := HK5.out; have := HK6.out; omega⟩, ⟨by (with_reducible repeat (first | refine blk_drewN ?_ _ | refine blk_drew ?_ | refine blk_alloc ?_ _)); exact BK181.out⟩, ⟨by repeat (first | (with_reducible first | exact HB.out | apply below_alloc | apply pw_below_drewN | apply below_drew1 | refine below_set ?_ GE181.out) | exact HB.out)⟩⟩
)
·(
rw [if_neg c53] at H
have c53b0 : (x14_6 == 0) = false := beq_eq_false_iff_ne.mpr c53
have c53b1 : (x14_6 != 0) = true := bne_iff_ne.mpr c53
obtain rfl := Option.some.inj H
go_wp2
repeat (go_quiet (fail); try go_wp2)
go_ret
exact ⟨by first | rfl | (simp [errW_none, errW_some] <;> rfl) | (simp [*, errW_none, errW_some] <;> rfl), by repeat (first | (with_reducible first | exact HB.out | apply below_alloc | apply pw_below_drewN | apply below_drew1 | refine below_set ?_ GE181.out) | exact HB.out)⟩
)
)
)
)
)
·(
rw [if_neg c46] at H
exact absurd H (by simp)
)
)
·(
rw [if_neg c45] at H
have c45b0 : decide (x13_5 < (l0_7.length : Int)) = false := decide_eq_false c45
clear c45
obtain rfl := Option.some.inj H
have hcz54_0 : wr.cell? ⟨gb181, 0, none⟩ = some (.string a0_0) := (blk_cell BK181.out 0).trans rfl
have hcz54_1 : wr.cell? ⟨gb181, 1, none⟩ = some (.string a0_1) := (blk_cell BK181.out 1).trans rfl
have hcz54_2 : wr.cell? ⟨gb181, 2, none⟩ = some (.string a0_2) := (blk_cell BK181.out 2).trans rfl
have hcz54_3 : wr.cell? ⟨gb181, 3, none⟩ = some (.string a0_3) := (blk_cell BK181.out 3).trans rfl
have hcz54_4 : wr.cell? ⟨gb181, 4, none⟩ = some (.string a0_4) := (blk_cell BK181.out 4).trans rfl
have hcz54_5 : wr.cell? ⟨gb181, 5, none⟩ = some (.string a0_5) := (blk_cell BK181.out 5).trans rfl
have hcz54_6 : wr.cell? ⟨gb181, 6, none⟩ = some (.int .i64 a0_6) := (blk_cell BK181.out 6).trans rfl
have hcz54_7 : wr.cell? ⟨gb181, 7, none⟩ = some (.slice A0_7 l0_7.length c0_7) := (blk_cell BK181.out 7).trans rfl
have hfz54_0 := blk_frozen BK181.out 0
have hfz54_1 := blk_frozen BK181.out 1
have hfz54_2 := blk_frozen BK181.out 2
have hfz54_3 := blk_frozen BK181.out 3
have hfz54_4 := blk_frozen BK181.out 4
have hfz54_5 := blk_frozen BK181.out 5
have hfz54_6 := blk_frozen BK181.out 6
have hfz54_7 := blk_frozen BK181.out 7
go_wp2
repeat (go_quiet (fail); try go_wp2)
go_ret
exact ⟨by first | rfl | (simp [errW_none, errW_some] <;> rfl) | (simp [*, errW_none, errW_some] <;> rfl), by repeat (first | (with_reducible first | exact HB.out | apply below_alloc | apply pw_below_drewN | apply below_drew1 | refine below_set ?_ GE181.out) | exact HB.out)⟩
)
)
)
)
)
)
)
)
)
)
)
)
)
)
)

end Go.Proofs.Ytlhaaccdiienbaa.X
