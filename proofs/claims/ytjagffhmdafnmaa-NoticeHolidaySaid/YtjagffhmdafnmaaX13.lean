-- Written for this claim by a program of this session (wip/tools/xprint.py) out of the translation.
import Derived.Test.YtjagffhmdafnmaaX0
import Derived.Test.YtjagffhmdafnmaaX2
import Derived.Test.YtjagffhmdafnmaaX3
import Derived.Test.YtjagffhmdafnmaaX4
import Derived.Test.YtjagffhmdafnmaaX7
import Derived.Test.YtjagffhmdafnmaaEAnswer
import Derived.Test.YtjagffhmdafnmaaEBoth
import Derived.Test.YtjagffhmdafnmaaELate
namespace Go.Proofs.Ytjagffhmdafnmaa.X
open Go.RowKit Go.Proofs.YtjagffhmdafnmaaW.PrintWords Go.Proofs.YtjagffhmdafnmaaW.PrintLast Go.Proofs.YtjagffhmdafnmaaW.PrintMore
attribute [local go_sem] max2_int min2_int max_two min_two max_three min_three max_four min_four   -- for this text's walks alone
set_option linter.unusedVariables false
set_option linter.unusedSimpArgs false

/-! ### supercargolaw35_NoticeHoliday: function 8 -/
mutual
def supercargolaw35_NoticeHoliday.j0 : Nat → Int → Int → Int → Int → Bool → List Int → List Int → ByteArray → ByteArray → ByteArray → ByteArray → ByteArray → ByteArray → ByteArray → ByteArray → Int → Int → Int → Int → Int → Int → Int → Bool → Bool → List Unit → Option (Bool)
 | 0, _, _, _, _, _, _, _, _, _, _, _, _, _, _, _, _, _, _, _, _, _, _, _, _, _ => none
 | k + 1, x1, x3, x4, x5, x32, x272000, x272001, x273000, x273001, x273002, x273003, x273004, x273005, x273006, x273007, x273008, x273009, x273010, x273011, x273012, x273013, x273014, x273015, x273016, x273017 => if x32 = true then (some true) else ((day_Both.f k x272000 x272001 ([] : List Int) (([x1] : List Int))).bind fun bt279 => ((notice_Deadline.f k x272000 x272001 x4).bind fun bt286 => ((notice_Deadline.f k bt279.1 bt279.2 x4).bind fun bt288 => ((notice_Expiry.f k x272000 x272001 x4).bind fun bt290 => ((notice_Expiry.f k bt279.1 bt279.2 x4).bind fun bt292 => (if bt288.2 = true then (if bt286.2 = true then (if bt288.1 < bt286.1 then (supercargolaw35_NoticeHoliday.j1 k x3 x4 x5 bt288.2 true x272000 x272001 x273000 x273001 x273002 x273003 x273004 x273005 x273006 x273007 x273008 x273009 x273010 x273011 x273012 x273013 x273014 x273015 x273016 x273017 bt279.1 bt279.2) else (if bt292.2 = true then (if bt290.2 = true then (supercargolaw35_NoticeHoliday.j1 k x3 x4 x5 bt288.2 (decide (bt292.1 < bt290.1)) x272000 x272001 x273000 x273001 x273002 x273003 x273004 x273005 x273006 x273007 x273008 x273009 x273010 x273011 x273012 x273013 x273014 x273015 x273016 x273017 bt279.1 bt279.2) else (supercargolaw35_NoticeHoliday.j1 k x3 x4 x5 bt288.2 true x272000 x272001 x273000 x273001 x273002 x273003 x273004 x273005 x273006 x273007 x273008 x273009 x273010 x273011 x273012 x273013 x273014 x273015 x273016 x273017 bt279.1 bt279.2)) else (supercargolaw35_NoticeHoliday.j1 k x3 x4 x5 bt288.2 false x272000 x272001 x273000 x273001 x273002 x273003 x273004 x273005 x273006 x273007 x273008 x273009 x273010 x273011 x273012 x273013 x273014 x273015 x273016 x273017 bt279.1 bt279.2))) else (supercargolaw35_NoticeHoliday.j1 k x3 x4 x5 bt288.2 true x272000 x272001 x273000 x273001 x273002 x273003 x273004 x273005 x273006 x273007 x273008 x273009 x273010 x273011 x273012 x273013 x273014 x273015 x273016 x273017 bt279.1 bt279.2)) else (if bt292.2 = true then (if bt290.2 = true then (supercargolaw35_NoticeHoliday.j1 k x3 x4 x5 bt288.2 (decide (bt292.1 < bt290.1)) x272000 x272001 x273000 x273001 x273002 x273003 x273004 x273005 x273006 x273007 x273008 x273009 x273010 x273011 x273012 x273013 x273014 x273015 x273016 x273017 bt279.1 bt279.2) else (supercargolaw35_NoticeHoliday.j1 k x3 x4 x5 bt288.2 true x272000 x272001 x273000 x273001 x273002 x273003 x273004 x273005 x273006 x273007 x273008 x273009 x273010 x273011 x273012 x273013 x273014 x273015 x273016 x273017 bt279.1 bt279.2)) else (supercargolaw35_NoticeHoliday.j1 k x3 x4 x5 bt288.2 false x272000 x272001 x273000 x273001 x273002 x273003 x273004 x273005 x273006 x273007 x273008 x273009 x273010 x273011 x273012 x273013 x273014 x273015 x273016 x273017 bt279.1 bt279.2))))))))
def supercargolaw35_NoticeHoliday.j1 : Nat → Int → Int → Int → Bool → Bool → List Int → List Int → ByteArray → ByteArray → ByteArray → ByteArray → ByteArray → ByteArray → ByteArray → ByteArray → Int → Int → Int → Int → Int → Int → Int → Bool → Bool → List Unit → List Int → List Int → Option (Bool)
 | 0, _, _, _, _, _, _, _, _, _, _, _, _, _, _, _, _, _, _, _, _, _, _, _, _, _, _, _ => none
 | k + 1, x3, x4, x5, x17, x83, x272000, x272001, x273000, x273001, x273002, x273003, x273004, x273005, x273006, x273007, x273008, x273009, x273010, x273011, x273012, x273013, x273014, x273015, x273016, x273017, x286000, x286001 => if x83 = true then (some false) else ((some (([(⟨1, 0, (⟨#[]⟩ : ByteArray), 0⟩ : S36)] : List (S36)) : List (S36))).bind fun y294 => (if x17 = true then ((notice_Answer.f k x272000 x272001 x4 x5 y294 y294).bind fun t297 => (if t297 = 1 then ((notice_Answer.f k x286000 x286001 x4 x5 y294 y294).bind fun t298 => (supercargolaw35_NoticeHoliday.j2 k x3 x4 (t298 != 1) x272000 x272001 x273000 x273001 x273002 x273003 x273004 x273005 x273006 x273007 x273008 x273009 x273010 x273011 x273012 x273013 x273014 x273015 x273016 x273017 x286000 x286001)) else (supercargolaw35_NoticeHoliday.j2 k x3 x4 false x272000 x272001 x273000 x273001 x273002 x273003 x273004 x273005 x273006 x273007 x273008 x273009 x273010 x273011 x273012 x273013 x273014 x273015 x273016 x273017 x286000 x286001))) else (supercargolaw35_NoticeHoliday.j2 k x3 x4 false x272000 x272001 x273000 x273001 x273002 x273003 x273004 x273005 x273006 x273007 x273008 x273009 x273010 x273011 x273012 x273013 x273014 x273015 x273016 x273017 x286000 x286001)))
def supercargolaw35_NoticeHoliday.j2 : Nat → Int → Int → Bool → List Int → List Int → ByteArray → ByteArray → ByteArray → ByteArray → ByteArray → ByteArray → ByteArray → ByteArray → Int → Int → Int → Int → Int → Int → Int → Bool → Bool → List Unit → List Int → List Int → Option (Bool)
 | 0, _, _, _, _, _, _, _, _, _, _, _, _, _, _, _, _, _, _, _, _, _, _, _, _, _ => none
 | k + 1, x3, x4, x104, x272000, x272001, x273000, x273001, x273002, x273003, x273004, x273005, x273006, x273007, x273008, x273009, x273010, x273011, x273012, x273013, x273014, x273015, x273016, x273017, x286000, x286001 => if x104 = true then (some false) else ((notice_Late.f k x272000 x272001 x273000 x273001 x273002 x273003 x273004 x273005 x273006 x273007 x273008 x273009 x273010 x273011 x273012 x273013 x273014 x273015 x273016 x273017 x3 x4).bind fun t299 => (if t299 = 0 then ((notice_Late.f k x286000 x286001 x273000 x273001 x273002 x273003 x273004 x273005 x273006 x273007 x273008 x273009 x273010 x273011 x273012 x273013 x273014 x273015 x273016 x273017 x3 x4).bind fun t300 => (some (t300 != 11))) else (some true)))
end
def supercargolaw35_NoticeHoliday.f (k : Nat) (l0_0 : List Int) (l0_1 : List Int) (a1 : Int) (a2_0 : ByteArray) (a2_1 : ByteArray) (a2_2 : ByteArray) (a2_3 : ByteArray) (a2_4 : ByteArray) (a2_5 : ByteArray) (a2_6 : ByteArray) (a2_7 : ByteArray) (a2_8 : Int) (a2_9 : Int) (a2_10 : Int) (a2_11 : Int) (a2_12 : Int) (a2_13 : Int) (a2_14 : Int) (a2_15 : Bool) (a2_16 : Bool) (l2_17 : List Unit) (a3 : Int) (a4 : Int) (a5 : Int) : Option (Bool) := (supercargolaw35_awake.f k).bind fun t273 => (if t273 = true then ((supercargolaw35_few.f l0_0 l0_1).bind fun t274 => (if t274 = true then ((day_May.f k l0_0 l0_1).bind fun t275 => (supercargolaw35_NoticeHoliday.j0 k a1 a3 a4 a5 (!t275) l0_0 l0_1 a2_0 a2_1 a2_2 a2_3 a2_4 a2_5 a2_6 a2_7 a2_8 a2_9 a2_10 a2_11 a2_12 a2_13 a2_14 a2_15 a2_16 l2_17)) else (supercargolaw35_NoticeHoliday.j0 k a1 a3 a4 a5 true l0_0 l0_1 a2_0 a2_1 a2_2 a2_3 a2_4 a2_5 a2_6 a2_7 a2_8 a2_9 a2_10 a2_11 a2_12 a2_13 a2_14 a2_15 a2_16 l2_17))) else (some false))
theorem supercargolaw35_NoticeHoliday.mono_l : ∀ k, (∀ y0 y1 y2 y3 y4 y5 y6 y7 y8 y9 y10 y11 y12 y13 y14 y15 y16 y17 y18 y19 y20 y21 y22 y23 y24, LeO (supercargolaw35_NoticeHoliday.j0 k y0 y1 y2 y3 y4 y5 y6 y7 y8 y9 y10 y11 y12 y13 y14 y15 y16 y17 y18 y19 y20 y21 y22 y23 y24) (supercargolaw35_NoticeHoliday.j0 (k + 1) y0 y1 y2 y3 y4 y5 y6 y7 y8 y9 y10 y11 y12 y13 y14 y15 y16 y17 y18 y19 y20 y21 y22 y23 y24)) ∧ (∀ y0 y1 y2 y3 y4 y5 y6 y7 y8 y9 y10 y11 y12 y13 y14 y15 y16 y17 y18 y19 y20 y21 y22 y23 y24 y25 y26, LeO (supercargolaw35_NoticeHoliday.j1 k y0 y1 y2 y3 y4 y5 y6 y7 y8 y9 y10 y11 y12 y13 y14 y15 y16 y17 y18 y19 y20 y21 y22 y23 y24 y25 y26) (supercargolaw35_NoticeHoliday.j1 (k + 1) y0 y1 y2 y3 y4 y5 y6 y7 y8 y9 y10 y11 y12 y13 y14 y15 y16 y17 y18 y19 y20 y21 y22 y23 y24 y25 y26)) ∧ (∀ y0 y1 y2 y3 y4 y5 y6 y7 y8 y9 y10 y11 y12 y13 y14 y15 y16 y17 y18 y19 y20 y21 y22 y23 y24, LeO (supercargolaw35_NoticeHoliday.j2 k y0 y1 y2 y3 y4 y5 y6 y7 y8 y9 y10 y11 y12 y13 y14 y15 y16 y17 y18 y19 y20 y21 y22 y23 y24) (supercargolaw35_NoticeHoliday.j2 (k + 1) y0 y1 y2 y3 y4 y5 y6 y7 y8 y9 y10 y11 y12 y13 y14 y15 y16 y17 y18 y19 y20 y21 y22 y23 y24))
 | 0 => ⟨fun _ _ _ _ _ _ _ _ _ _ _ _ _ _ _ _ _ _ _ _ _ _ _ _ _ r h => by simp [supercargolaw35_NoticeHoliday.j0] at h, fun _ _ _ _ _ _ _ _ _ _ _ _ _ _ _ _ _ _ _ _ _ _ _ _ _ _ _ r h => by simp [supercargolaw35_NoticeHoliday.j1] at h, fun _ _ _ _ _ _ _ _ _ _ _ _ _ _ _ _ _ _ _ _ _ _ _ _ _ r h => by simp [supercargolaw35_NoticeHoliday.j2] at h⟩
 | k + 1 => by
  obtain ⟨ih0, ih1, ih2⟩ := supercargolaw35_NoticeHoliday.mono_l k
  refine ⟨?_, ?_, ?_⟩
  ·intro y0 y1 y2 y3 y4 y5 y6 y7 y8 y9 y10 y11 y12 y13 y14 y15 y16 y17 y18 y19 y20 y21 y22 y23 y24
   unfold supercargolaw35_NoticeHoliday.j0
   repeat' first
   | (with_reducible exact ih0 _ _ _ _ _ _ _ _ _ _ _ _ _ _ _ _ _ _ _ _ _ _ _ _ _)
   | (with_reducible exact ih1 _ _ _ _ _ _ _ _ _ _ _ _ _ _ _ _ _ _ _ _ _ _ _ _ _ _ _)
   | (with_reducible exact ih2 _ _ _ _ _ _ _ _ _ _ _ _ _ _ _ _ _ _ _ _ _ _ _ _ _)
   | (with_reducible exact day_Both.mono _ _ _ _ _)
   | (with_reducible exact day_May.mono _ _ _)
   | (with_reducible exact notice_Answer.mono _ _ _ _ _ _ _)
   | (with_reducible exact notice_Deadline.mono _ _ _ _)
   | (with_reducible exact notice_Expiry.mono _ _ _ _)
   | (with_reducible exact notice_Late.mono _ _ _ _ _ _ _ _ _ _ _ _ _ _ _ _ _ _ _ _ _ _ _)
   | (with_reducible exact supercargolaw35_awake.mono _)
   | (with_reducible exact LeO.refl _)
   | (with_reducible exact LeO.none _)
   | (with_reducible refine LeO.ite ?_ ?_)
   | (with_reducible refine LeO.bind ?_ (fun _ => ?_))
   | exact ih0 _ _ _ _ _ _ _ _ _ _ _ _ _ _ _ _ _ _ _ _ _ _ _ _ _
   | exact ih1 _ _ _ _ _ _ _ _ _ _ _ _ _ _ _ _ _ _ _ _ _ _ _ _ _ _ _
   | exact ih2 _ _ _ _ _ _ _ _ _ _ _ _ _ _ _ _ _ _ _ _ _ _ _ _ _
   | exact day_Both.mono _ _ _ _ _
   | exact day_May.mono _ _ _
   | exact notice_Answer.mono _ _ _ _ _ _ _
   | exact notice_Deadline.mono _ _ _ _
   | exact notice_Expiry.mono _ _ _ _
   | exact notice_Late.mono _ _ _ _ _ _ _ _ _ _ _ _ _ _ _ _ _ _ _ _ _ _ _
   | exact supercargolaw35_awake.mono _
   | exact LeO.none _
   | refine LeO.ite ?_ ?_
   | refine LeO.bind ?_ (fun _ => ?_)
  ·intro y0 y1 y2 y3 y4 y5 y6 y7 y8 y9 y10 y11 y12 y13 y14 y15 y16 y17 y18 y19 y20 y21 y22 y23 y24 y25 y26
   unfold supercargolaw35_NoticeHoliday.j1
   repeat' first
   | (with_reducible exact ih0 _ _ _ _ _ _ _ _ _ _ _ _ _ _ _ _ _ _ _ _ _ _ _ _ _)
   | (with_reducible exact ih1 _ _ _ _ _ _ _ _ _ _ _ _ _ _ _ _ _ _ _ _ _ _ _ _ _ _ _)
   | (with_reducible exact ih2 _ _ _ _ _ _ _ _ _ _ _ _ _ _ _ _ _ _ _ _ _ _ _ _ _)
   | (with_reducible exact day_Both.mono _ _ _ _ _)
   | (with_reducible exact day_May.mono _ _ _)
   | (with_reducible exact notice_Answer.mono _ _ _ _ _ _ _)
   | (with_reducible exact notice_Deadline.mono _ _ _ _)
   | (with_reducible exact notice_Expiry.mono _ _ _ _)
   | (with_reducible exact notice_Late.mono _ _ _ _ _ _ _ _ _ _ _ _ _ _ _ _ _ _ _ _ _ _ _)
   | (with_reducible exact supercargolaw35_awake.mono _)
   | (with_reducible exact LeO.refl _)
   | (with_reducible exact LeO.none _)
   | (with_reducible refine LeO.ite ?_ ?_)
   | (with_reducible refine LeO.bind ?_ (fun _ => ?_))
   | exact ih0 _ _ _ _ _ _ _ _ _ _ _ _ _ _ _ _ _ _ _ _ _ _ _ _ _
   | exact ih1 _ _ _ _ _ _ _ _ _ _ _ _ _ _ _ _ _ _ _ _ _ _ _ _ _ _ _
   | exact ih2 _ _ _ _ _ _ _ _ _ _ _ _ _ _ _ _ _ _ _ _ _ _ _ _ _
   | exact day_Both.mono _ _ _ _ _
   | exact day_May.mono _ _ _
   | exact notice_Answer.mono _ _ _ _ _ _ _
   | exact notice_Deadline.mono _ _ _ _
   | exact notice_Expiry.mono _ _ _ _
   | exact notice_Late.mono _ _ _ _ _ _ _ _ _ _ _ _ _ _ _ _ _ _ _ _ _ _ _
   | exact supercargolaw35_awake.mono _
   | exact LeO.none _
   | refine LeO.ite ?_ ?_
   | refine LeO.bind ?_ (fun _ => ?_)
  ·intro y0 y1 y2 y3 y4 y5 y6 y7 y8 y9 y10 y11 y12 y13 y14 y15 y16 y17 y18 y19 y20 y21 y22 y23 y24
   unfold supercargolaw35_NoticeHoliday.j2
   repeat' first
   | (with_reducible exact ih0 _ _ _ _ _ _ _ _ _ _ _ _ _ _ _ _ _ _ _ _ _ _ _ _ _)
   | (with_reducible exact ih1 _ _ _ _ _ _ _ _ _ _ _ _ _ _ _ _ _ _ _ _ _ _ _ _ _ _ _)
   | (with_reducible exact ih2 _ _ _ _ _ _ _ _ _ _ _ _ _ _ _ _ _ _ _ _ _ _ _ _ _)
   | (with_reducible exact day_Both.mono _ _ _ _ _)
   | (with_reducible exact day_May.mono _ _ _)
   | (with_reducible exact notice_Answer.mono _ _ _ _ _ _ _)
   | (with_reducible exact notice_Deadline.mono _ _ _ _)
   | (with_reducible exact notice_Expiry.mono _ _ _ _)
   | (with_reducible exact notice_Late.mono _ _ _ _ _ _ _ _ _ _ _ _ _ _ _ _ _ _ _ _ _ _ _)
   | (with_reducible exact supercargolaw35_awake.mono _)
   | (with_reducible exact LeO.refl _)
   | (with_reducible exact LeO.none _)
   | (with_reducible refine LeO.ite ?_ ?_)
   | (with_reducible refine LeO.bind ?_ (fun _ => ?_))
   | exact ih0 _ _ _ _ _ _ _ _ _ _ _ _ _ _ _ _ _ _ _ _ _ _ _ _ _
   | exact ih1 _ _ _ _ _ _ _ _ _ _ _ _ _ _ _ _ _ _ _ _ _ _ _ _ _ _ _
   | exact ih2 _ _ _ _ _ _ _ _ _ _ _ _ _ _ _ _ _ _ _ _ _ _ _ _ _
   | exact day_Both.mono _ _ _ _ _
   | exact day_May.mono _ _ _
   | exact notice_Answer.mono _ _ _ _ _ _ _
   | exact notice_Deadline.mono _ _ _ _
   | exact notice_Expiry.mono _ _ _ _
   | exact notice_Late.mono _ _ _ _ _ _ _ _ _ _ _ _ _ _ _ _ _ _ _ _ _ _ _
   | exact supercargolaw35_awake.mono _
   | exact LeO.none _
   | refine LeO.ite ?_ ?_
   | refine LeO.bind ?_ (fun _ => ?_)
theorem supercargolaw35_NoticeHoliday.mono : ∀ a0 a1 a2 a3 a4 a5 a6 a7 a8 a9 a10 a11 a12 a13 a14 a15 a16 a17 a18 a19 a20 a21 a22 a23 k, LeO (supercargolaw35_NoticeHoliday.f k a0 a1 a2 a3 a4 a5 a6 a7 a8 a9 a10 a11 a12 a13 a14 a15 a16 a17 a18 a19 a20 a21 a22 a23) (supercargolaw35_NoticeHoliday.f (k + 1) a0 a1 a2 a3 a4 a5 a6 a7 a8 a9 a10 a11 a12 a13 a14 a15 a16 a17 a18 a19 a20 a21 a22 a23) := by
 intro a0 a1 a2 a3 a4 a5 a6 a7 a8 a9 a10 a11 a12 a13 a14 a15 a16 a17 a18 a19 a20 a21 a22 a23 k
 obtain ⟨ih0, ih1, ih2⟩ := supercargolaw35_NoticeHoliday.mono_l k
 unfold supercargolaw35_NoticeHoliday.f
 repeat' first
   | (with_reducible exact ih0 _ _ _ _ _ _ _ _ _ _ _ _ _ _ _ _ _ _ _ _ _ _ _ _ _)
   | (with_reducible exact ih1 _ _ _ _ _ _ _ _ _ _ _ _ _ _ _ _ _ _ _ _ _ _ _ _ _ _ _)
   | (with_reducible exact ih2 _ _ _ _ _ _ _ _ _ _ _ _ _ _ _ _ _ _ _ _ _ _ _ _ _)
   | (with_reducible exact day_Both.mono _ _ _ _ _)
   | (with_reducible exact day_May.mono _ _ _)
   | (with_reducible exact notice_Answer.mono _ _ _ _ _ _ _)
   | (with_reducible exact notice_Deadline.mono _ _ _ _)
   | (with_reducible exact notice_Expiry.mono _ _ _ _)
   | (with_reducible exact notice_Late.mono _ _ _ _ _ _ _ _ _ _ _ _ _ _ _ _ _ _ _ _ _ _ _)
   | (with_reducible exact supercargolaw35_awake.mono _)
   | (with_reducible exact LeO.refl _)
   | (with_reducible exact LeO.none _)
   | (with_reducible refine LeO.ite ?_ ?_)
   | (with_reducible refine LeO.bind ?_ (fun _ => ?_))
   | exact ih0 _ _ _ _ _ _ _ _ _ _ _ _ _ _ _ _ _ _ _ _ _ _ _ _ _
   | exact ih1 _ _ _ _ _ _ _ _ _ _ _ _ _ _ _ _ _ _ _ _ _ _ _ _ _ _ _
   | exact ih2 _ _ _ _ _ _ _ _ _ _ _ _ _ _ _ _ _ _ _ _ _ _ _ _ _
   | exact day_Both.mono _ _ _ _ _
   | exact day_May.mono _ _ _
   | exact notice_Answer.mono _ _ _ _ _ _ _
   | exact notice_Deadline.mono _ _ _ _
   | exact notice_Expiry.mono _ _ _ _
   | exact notice_Late.mono _ _ _ _ _ _ _ _ _ _ _ _ _ _ _ _ _ _ _ _ _ _ _
   | exact supercargolaw35_awake.mono _
   | exact LeO.none _
   | refine LeO.ite ?_ ?_
   | refine LeO.bind ?_ (fun _ => ?_)
set_option maxHeartbeats 8000000 in
set_option maxRecDepth 100000 in
theorem supercargolaw35_NoticeHoliday.calls (k : Nat) (A0_0 : Option Addr) (c0_0 : Nat) (l0_0 : List Int) (A0_1 : Option Addr) (c0_1 : Nat) (l0_1 : List Int) (a1 : Int) (a2_0 : ByteArray) (a2_1 : ByteArray) (a2_2 : ByteArray) (a2_3 : ByteArray) (a2_4 : ByteArray) (a2_5 : ByteArray) (a2_6 : ByteArray) (a2_7 : ByteArray) (a2_8 : Int) (a2_9 : Int) (a2_10 : Int) (a2_11 : Int) (a2_12 : Int) (a2_13 : Int) (a2_14 : Int) (a2_15 : Bool) (a2_16 : Bool) (A2_17 : Option Addr) (c2_17 : Nat) (l2_17 : List Unit) (a3 : Int) (a4 : Int) (a5 : Int) (r : Bool) (w : World) (hr0_0 : Kd.C (Kd.int .i64) w A0_0 l0_0.length l0_0) (hc0_0 : l0_0.length ≤ c0_0) (hr0_1 : Kd.C (Kd.int .i64) w A0_1 l0_1.length l0_1) (hc0_1 : l0_1.length ≤ c0_1) (hr2_17 : Kd.C kAny w A2_17 l2_17.length l2_17) (hc2_17 : l2_17.length ≤ c2_17) (h : supercargolaw35_NoticeHoliday.f k l0_0 l0_1 a1 a2_0 a2_1 a2_2 a2_3 a2_4 a2_5 a2_6 a2_7 a2_8 a2_9 a2_10 a2_11 a2_12 a2_13 a2_14 a2_15 a2_16 l2_17 a3 a4 a5 = some r) (hT : Aside0 (r = true)) :
  Calls Try.prog 8 #[.agg #[.slice A0_0 l0_0.length c0_0, .slice A0_1 l0_1.length c0_1], .int .i64 a1, .agg #[.string a2_0, .string a2_1, .string a2_2, .string a2_3, .string a2_4, .string a2_5, .string a2_6, .string a2_7, .int .i64 a2_8, .int .i64 a2_9, .int .i64 a2_10, .int .i64 a2_11, .int .i64 a2_12, .int .i64 a2_13, .int .i64 a2_14, .bool a2_15, .bool a2_16, .slice A2_17 l2_17.length c2_17], .int .i64 a3, .int .i64 a4, .int .i64 a5] w fun e w' => e = .returned (.bool r) ∧ Below w.heap.size w w' := by
 have hu24 := Try.underlying24
 have hu42 := Try.underlying42
 have hu36 := Try.underlying36
 have HR0_0 := Aside0.mk hr0_0
 have HC0_0 := Aside0.mk hc0_0
 clear hr0_0 hc0_0
 have HR0_1 := Aside0.mk hr0_1
 have HC0_1 := Aside0.mk hc0_1
 clear hr0_1 hc0_1
 have HR2_17 := Aside0.mk hr2_17
 have HC2_17 := Aside0.mk hc2_17
 clear hr2_17 hc2_17
 have HB := Aside0.mk (Below.refl w.heap.size w)
 have H : ((supercargolaw35_awake.f k).bind fun t273 => (if t273 = true then ((supercargolaw35_few.f l0_0 l0_1).bind fun t274 => (if t274 = true then ((day_May.f k l0_0 l0_1).bind fun t275 => (supercargolaw35_NoticeHoliday.j0 k a1 a3 a4 a5 (!t275) l0_0 l0_1 a2_0 a2_1 a2_2 a2_3 a2_4 a2_5 a2_6 a2_7 a2_8 a2_9 a2_10 a2_11 a2_12 a2_13 a2_14 a2_15 a2_16 l2_17)) else (supercargolaw35_NoticeHoliday.j0 k a1 a3 a4 a5 true l0_0 l0_1 a2_0 a2_1 a2_2 a2_3 a2_4 a2_5 a2_6 a2_7 a2_8 a2_9 a2_10 a2_11 a2_12 a2_13 a2_14 a2_15 a2_16 l2_17))) else (some false))) = some r := h
 clear h
 replace H := Option.bind_eq_some_iff.mp H
 obtain ⟨t273, A70, H⟩ := H
 replace H : (if t273 = true then ((supercargolaw35_few.f l0_0 l0_1).bind fun t274 => (if t274 = true then ((day_May.f k l0_0 l0_1).bind fun t275 => (supercargolaw35_NoticeHoliday.j0 k a1 a3 a4 a5 (!t275) l0_0 l0_1 a2_0 a2_1 a2_2 a2_3 a2_4 a2_5 a2_6 a2_7 a2_8 a2_9 a2_10 a2_11 a2_12 a2_13 a2_14 a2_15 a2_16 l2_17)) else (supercargolaw35_NoticeHoliday.j0 k a1 a3 a4 a5 true l0_0 l0_1 a2_0 a2_1 a2_2 a2_3 a2_4 a2_5 a2_6 a2_7 a2_8 a2_9 a2_10 a2_11 a2_12 a2_13 a2_14 a2_15 a2_16 l2_17))) else (some false)) = some r := H
 have A7 := Aside0.mk A70
 clear A70
 by_cases c8 : t273 = true
 ·subst c8
  have H1 : ((supercargolaw35_few.f l0_0 l0_1).bind fun t274 => (if t274 = true then ((day_May.f k l0_0 l0_1).bind fun t275 => (supercargolaw35_NoticeHoliday.j0 k a1 a3 a4 a5 (!t275) l0_0 l0_1 a2_0 a2_1 a2_2 a2_3 a2_4 a2_5 a2_6 a2_7 a2_8 a2_9 a2_10 a2_11 a2_12 a2_13 a2_14 a2_15 a2_16 l2_17)) else (supercargolaw35_NoticeHoliday.j0 k a1 a3 a4 a5 true l0_0 l0_1 a2_0 a2_1 a2_2 a2_3 a2_4 a2_5 a2_6 a2_7 a2_8 a2_9 a2_10 a2_11 a2_12 a2_13 a2_14 a2_15 a2_16 l2_17))) = some r := by rw [if_pos rfl] at H; exact H
  clear H
  have H := H1
  clear H1
  have HC9 := Aside0.mk H
  clear H
  go_enter Try.func8, Try.ntmps8
  go_upto_region 3 with (first | ((with_reducible refine gate_dst (N := 6) rfl ?_); refine box_event ?hg (N := 6) ?hd (cs := #[.slice A0_0 l0_0.length c0_0, .slice A0_1 l0_1.length c0_1]) (t := 24) ?hr ?_; (case hd => rfl); (case hg => rfl); (case hr => first | (go_simp; done) | (go_simp; rfl)); intro gb271 hg w10 hbox hb; have n0_ := Aside0.mk (below_step (by repeat (first | (with_reducible first | exact HB.out | apply below_alloc | apply pw_below_drewN | apply below_drew1) | exact HB.out)) hb); have n1_ := Aside0.mk (hbox); have n2_ := Aside0.mk ((by rw [hg]; exact (below_size (by repeat (first | (with_reducible first | exact HB.out | apply below_alloc | apply pw_below_drewN | apply below_drew1) | exact HB.out))) : w.heap.size ≤ gb271)); have n3_ := Aside0.mk ((by rw [hg]; exact (below_size (by repeat (first | (with_reducible first | exact HB.out | apply below_alloc | apply pw_below_drewN | apply below_drew1) | exact HB.out))) : w.heap.size ≤ gb271)); clear HB; have HB := n0_; have BK271 := n1_; have GW271 := n2_; have GE271 := n3_; clear n0_ n1_ n2_ n3_; clear hb hbox hg) | ((with_reducible refine gate_dst (N := 8) rfl ?_); refine box_event ?hg (N := 8) ?hd (cs := #[.string a2_0, .string a2_1, .string a2_2, .string a2_3, .string a2_4, .string a2_5, .string a2_6, .string a2_7, .int .i64 a2_8, .int .i64 a2_9, .int .i64 a2_10, .int .i64 a2_11, .int .i64 a2_12, .int .i64 a2_13, .int .i64 a2_14, .bool a2_15, .bool a2_16, .slice A2_17 l2_17.length c2_17]) (t := 42) ?hr ?_; (case hd => rfl); (case hg => rfl); (case hr => first | (go_simp; done) | (go_simp; rfl)); intro gb272 hg w11 hbox hb; have n0_ := Aside0.mk (blk_below (g := gb271) (o := .cells #[.slice A0_0 l0_0.length c0_0, .slice A0_1 l0_1.length c0_1] 24 (0, 0)) (by (with_reducible repeat (first | refine blk_drewN ?_ _ | refine blk_drew ?_ | refine blk_alloc ?_ _)); exact BK271.out) hb); have n1_ := Aside0.mk (below_step (by repeat (first | (with_reducible first | exact HB.out | apply below_alloc | apply pw_below_drewN | apply below_drew1 | refine below_set ?_ GE271.out) | exact HB.out)) hb); have n2_ := Aside0.mk (hbox); have n3_ := Aside0.mk ((by rw [hg]; exact (below_size (by repeat (first | (with_reducible first | exact HB.out | apply below_alloc | apply pw_below_drewN | apply below_drew1 | refine below_set ?_ GE271.out) | exact HB.out))) : w.heap.size ≤ gb272)); have n4_ := Aside0.mk ((by rw [hg]; exact (below_size (by repeat (first | (with_reducible first | exact HB.out | apply below_alloc | apply pw_below_drewN | apply below_drew1 | refine below_set ?_ GE271.out) | exact HB.out))) : w.heap.size ≤ gb272)); have n5_ := Aside0.mk ((by rw [hg]; exact Nat.ne_of_lt (blk_lt (g := gb271) (o := .cells #[.slice A0_0 l0_0.length c0_0, .slice A0_1 l0_1.length c0_1] 24 (0, 0)) (by (with_reducible repeat (first | refine blk_drewN ?_ _ | refine blk_drew ?_ | refine blk_alloc ?_ _)); exact BK271.out)) : gb271 ≠ gb272)); have n6_ := Aside0.mk ((by rw [hg]; exact Nat.ne_of_gt (blk_lt (g := gb271) (o := .cells #[.slice A0_0 l0_0.length c0_0, .slice A0_1 l0_1.length c0_1] 24 (0, 0)) (by (with_reducible repeat (first | refine blk_drewN ?_ _ | refine blk_drew ?_ | refine blk_alloc ?_ _)); exact BK271.out)) : gb272 ≠ gb271)); clear BK271; clear HB; have BK271 := n0_; have HB := n1_; have BK272 := n2_; have GW272 := n3_; have GE272 := n4_; have NB271_272 := n5_; have NB272_271 := n6_; clear n0_ n1_ n2_ n3_ n4_ n5_ n6_; clear hb hbox hg) | ((with_reducible refine gate_callee (f := 9) rfl ?_); refine goesL_ (some 23) rfl rfl Try.func9 (by kernel_rfl) rfl #[] rfl (by (try simp only [List.map_toArray, List.map_cons, List.map_nil]); first | done | rfl | (simp only [List.length_drop, List.length_take]; rfl)) ?_; (with_reducible refine (supercargolaw35_awake.calls k  true _ A7.out).mono ?_); rintro e w12 ⟨rfl, hb⟩; refine ⟨_, rfl, ?_⟩; have n0_ := Aside0.mk (blk_below (g := gb271) (o := .cells #[.slice A0_0 l0_0.length c0_0, .slice A0_1 l0_1.length c0_1] 24 (0, 0)) (by (with_reducible repeat (first | refine blk_drewN ?_ _ | refine blk_drew ?_ | refine blk_alloc ?_ _)); exact BK271.out) hb); have n1_ := Aside0.mk (blk_below (g := gb272) (o := .cells #[.string a2_0, .string a2_1, .string a2_2, .string a2_3, .string a2_4, .string a2_5, .string a2_6, .string a2_7, .int .i64 a2_8, .int .i64 a2_9, .int .i64 a2_10, .int .i64 a2_11, .int .i64 a2_12, .int .i64 a2_13, .int .i64 a2_14, .bool a2_15, .bool a2_16, .slice A2_17 l2_17.length c2_17] 42 (0, 0)) (by (with_reducible repeat (first | refine blk_drewN ?_ _ | refine blk_drew ?_ | refine blk_alloc ?_ _)); exact BK272.out) hb); have n2_ := Aside0.mk (below_step (by repeat (first | (with_reducible first | exact HB.out | apply below_alloc | apply pw_below_drewN | apply below_drew1 | refine below_set ?_ GE271.out | refine below_set ?_ GE272.out) | exact HB.out)) hb); clear BK271; clear BK272; clear HB; have BK271 := n0_; have BK272 := n1_; have HB := n2_; clear n0_ n1_ n2_; (try clear hb); (try clear hb2); (try clear hk); (try clear hi)))
  (try simp only [Act.put, List.setIfInBounds_toArray, List.set_cons_zero, List.set_cons_succ])
  go_cut [32] (fun v32 wc => ∃ (kq : Nat) (x32_8 : Bool), v32 = .bool x32_8 ∧ Aside0 (supercargolaw35_NoticeHoliday.j0 kq a1 a3 a4 a5 x32_8 l0_0 l0_1 a2_0 a2_1 a2_2 a2_3 a2_4 a2_5 a2_6 a2_7 a2_8 a2_9 a2_10 a2_11 a2_12 a2_13 a2_14 a2_15 a2_16 l2_17 = some r) ∧ Aside0 (kq ≤ k) ∧ Aside0 (wc.heap[gb271]? = some (.cells #[(.slice A0_0 l0_0.length c0_0), (.slice A0_1 l0_1.length c0_1)] 24 (0, 0))) ∧ Aside0 (wc.heap[gb272]? = some (.cells #[.string a2_0, .string a2_1, .string a2_2, .string a2_3, .string a2_4, .string a2_5, .string a2_6, .string a2_7, .int .i64 a2_8, .int .i64 a2_9, .int .i64 a2_10, .int .i64 a2_11, .int .i64 a2_12, .int .i64 a2_13, .int .i64 a2_14, .bool a2_15, .bool a2_16, (.slice A2_17 l2_17.length c2_17)] 42 (0, 0))) ∧ Aside0 (Below w.heap.size w wc))
  case first =>
   have H := HC9.out
   clear HC9
   replace H := Option.bind_eq_some_iff.mp H
   obtain ⟨t274, A130, H⟩ := H
   replace H : (if t274 = true then ((day_May.f k l0_0 l0_1).bind fun t275 => (supercargolaw35_NoticeHoliday.j0 k a1 a3 a4 a5 (!t275) l0_0 l0_1 a2_0 a2_1 a2_2 a2_3 a2_4 a2_5 a2_6 a2_7 a2_8 a2_9 a2_10 a2_11 a2_12 a2_13 a2_14 a2_15 a2_16 l2_17)) else (supercargolaw35_NoticeHoliday.j0 k a1 a3 a4 a5 true l0_0 l0_1 a2_0 a2_1 a2_2 a2_3 a2_4 a2_5 a2_6 a2_7 a2_8 a2_9 a2_10 a2_11 a2_12 a2_13 a2_14 a2_15 a2_16 l2_17)) = some r := H
   have A13 := Aside0.mk A130
   clear A130
   by_cases c14 : t274 = true
   ·subst c14
    have H1 : ((day_May.f k l0_0 l0_1).bind fun t275 => (supercargolaw35_NoticeHoliday.j0 k a1 a3 a4 a5 (!t275) l0_0 l0_1 a2_0 a2_1 a2_2 a2_3 a2_4 a2_5 a2_6 a2_7 a2_8 a2_9 a2_10 a2_11 a2_12 a2_13 a2_14 a2_15 a2_16 l2_17)) = some r := by rw [if_pos rfl] at H; exact H
    clear H
    have H := H1
    clear H1
    replace H := Option.bind_eq_some_iff.mp H
    obtain ⟨t275, A150, H⟩ := H
    replace H : (supercargolaw35_NoticeHoliday.j0 k a1 a3 a4 a5 (!t275) l0_0 l0_1 a2_0 a2_1 a2_2 a2_3 a2_4 a2_5 a2_6 a2_7 a2_8 a2_9 a2_10 a2_11 a2_12 a2_13 a2_14 a2_15 a2_16 l2_17) = some r := H
    have A15 := Aside0.mk A150
    clear A150
    have H' := Aside0.mk H
    clear H
    have hnb16 := NB271_272.out
    have hnc16 := NB272_271.out
    have hcz17_0 : w12.cell? ⟨gb271, 0, none⟩ = some (.slice A0_0 l0_0.length c0_0) := (blk_cell BK271.out 0).trans rfl
    have hcz17_1 : w12.cell? ⟨gb271, 1, none⟩ = some (.slice A0_1 l0_1.length c0_1) := (blk_cell BK271.out 1).trans rfl
    have hfz17_0 := blk_frozen BK271.out 0
    have hfz17_1 := blk_frozen BK271.out 1
    go_wp2_with (first | ((with_reducible refine gate_callee (f := 11) rfl ?_); refine goesL_ (some 26) rfl rfl Try.func11 (by kernel_rfl) rfl #[.agg #[.slice A0_0 l0_0.length c0_0, .slice A0_1 l0_1.length c0_1]] rfl (by (try simp only [List.map_toArray, List.map_cons, List.map_nil]); first | done | rfl | (simp only [List.length_drop, List.length_take]; rfl)) ?_; (with_reducible refine (supercargolaw35_few.calls _ _ l0_0 _ _ l0_1 true _ ?side1 ?side2 ?side3 ?side4 A13.out).mono ?_); (case side1 => repeat (first | exact (Kd.C_below HR0_0.out HB.out) | (with_reducible refine Kd.C_alloc ?_ _) | (with_reducible refine Kd.C_drewN ?_ _) | (with_reducible refine Kd.C_drew ?_))); (case side2 => exact HC0_0.out); (case side3 => repeat (first | exact (Kd.C_below HR0_1.out HB.out) | (with_reducible refine Kd.C_alloc ?_ _) | (with_reducible refine Kd.C_drewN ?_ _) | (with_reducible refine Kd.C_drew ?_))); (case side4 => exact HC0_1.out); rintro e w18 ⟨rfl, hb⟩; refine ⟨_, rfl, ?_⟩; have n0_ := Aside0.mk (blk_below (g := gb271) (o := .cells #[.slice A0_0 l0_0.length c0_0, .slice A0_1 l0_1.length c0_1] 24 (0, 0)) (by (with_reducible repeat (first | refine blk_drewN ?_ _ | refine blk_drew ?_ | refine blk_alloc ?_ _)); exact BK271.out) hb); have n1_ := Aside0.mk (blk_below (g := gb272) (o := .cells #[.string a2_0, .string a2_1, .string a2_2, .string a2_3, .string a2_4, .string a2_5, .string a2_6, .string a2_7, .int .i64 a2_8, .int .i64 a2_9, .int .i64 a2_10, .int .i64 a2_11, .int .i64 a2_12, .int .i64 a2_13, .int .i64 a2_14, .bool a2_15, .bool a2_16, .slice A2_17 l2_17.length c2_17] 42 (0, 0)) (by (with_reducible repeat (first | refine blk_drewN ?_ _ | refine blk_drew ?_ | refine blk_alloc ?_ _)); exact BK272.out) hb); have n2_ := Aside0.mk (below_step (by repeat (first | (with_reducible first | exact HB.out | apply below_alloc | apply pw_below_drewN | apply below_drew1 | refine below_set ?_ GE271.out | refine below_set ?_ GE272.out) | exact HB.out)) hb); clear BK271; clear BK272; clear HB; have BK271 := n0_; have BK272 := n1_; have HB := n2_; clear n0_ n1_ n2_; (try clear hb); (try clear hb2); (try clear hk); (try clear hi); have hcz19_0 : w18.cell? ⟨gb271, 0, none⟩ = some (.slice A0_0 l0_0.length c0_0) := (blk_cell BK271.out 0).trans rfl; have hcz19_1 : w18.cell? ⟨gb271, 1, none⟩ = some (.slice A0_1 l0_1.length c0_1) := (blk_cell BK271.out 1).trans rfl; have hfz19_0 := blk_frozen BK271.out 0; have hfz19_1 := blk_frozen BK271.out 1) | (go_at_call 22; (with_reducible refine (day_May.calls k _ _ l0_0 _ _ l0_1 t275 _ ?side1 ?side2 ?side3 ?side4 A15.out).mono ?_); (case side1 => repeat (first | exact (Kd.C_below HR0_0.out HB.out) | (with_reducible refine Kd.C_alloc ?_ _) | (with_reducible refine Kd.C_drewN ?_ _) | (with_reducible refine Kd.C_drew ?_))); (case side2 => exact HC0_0.out); (case side3 => repeat (first | exact (Kd.C_below HR0_1.out HB.out) | (with_reducible refine Kd.C_alloc ?_ _) | (with_reducible refine Kd.C_drewN ?_ _) | (with_reducible refine Kd.C_drew ?_))); (case side4 => exact HC0_1.out); rintro e w20 ⟨rfl, hb⟩; have n0_ := Aside0.mk (blk_below (g := gb271) (o := .cells #[.slice A0_0 l0_0.length c0_0, .slice A0_1 l0_1.length c0_1] 24 (0, 0)) (by (with_reducible repeat (first | refine blk_drewN ?_ _ | refine blk_drew ?_ | refine blk_alloc ?_ _)); exact BK271.out) hb); have n1_ := Aside0.mk (blk_below (g := gb272) (o := .cells #[.string a2_0, .string a2_1, .string a2_2, .string a2_3, .string a2_4, .string a2_5, .string a2_6, .string a2_7, .int .i64 a2_8, .int .i64 a2_9, .int .i64 a2_10, .int .i64 a2_11, .int .i64 a2_12, .int .i64 a2_13, .int .i64 a2_14, .bool a2_15, .bool a2_16, .slice A2_17 l2_17.length c2_17] 42 (0, 0)) (by (with_reducible repeat (first | refine blk_drewN ?_ _ | refine blk_drew ?_ | refine blk_alloc ?_ _)); exact BK272.out) hb); have n2_ := Aside0.mk (below_step (by repeat (first | (with_reducible first | exact HB.out | apply below_alloc | apply pw_below_drewN | apply below_drew1 | refine below_set ?_ GE271.out | refine below_set ?_ GE272.out) | exact HB.out)) hb); clear BK271; clear BK272; clear HB; have BK271 := n0_; have BK272 := n1_; have HB := n2_; clear n0_ n1_ n2_; (try clear hb); (try clear hb2); (try clear hk); (try clear hi)))
    go_meet
    case rel => exact ⟨_, (!t275), (by first | rfl | (simp; done) | (simp [*]; done)), H', ⟨by first | omega | exact Nat.le_refl _⟩, ⟨by (with_reducible repeat (first | refine blk_drewN ?_ _ | refine blk_drew ?_ | refine blk_alloc ?_ _)); exact BK271.out⟩, ⟨by (with_reducible repeat (first | refine blk_drewN ?_ _ | refine blk_drew ?_ | refine blk_alloc ?_ _)); exact BK272.out⟩, ⟨by repeat (first | (with_reducible first | exact HB.out | apply below_alloc | apply pw_below_drewN | apply below_drew1 | refine below_set ?_ GE271.out | refine below_set ?_ GE272.out) | exact HB.out)⟩⟩
   ·replace c14 := Bool.eq_false_iff.mpr c14
    subst c14
    have H1 : (supercargolaw35_NoticeHoliday.j0 k a1 a3 a4 a5 true l0_0 l0_1 a2_0 a2_1 a2_2 a2_3 a2_4 a2_5 a2_6 a2_7 a2_8 a2_9 a2_10 a2_11 a2_12 a2_13 a2_14 a2_15 a2_16 l2_17) = some r := by rw [if_neg (show ¬ (false = true) by decide)] at H; exact H
    clear H
    have H := H1
    clear H1
    have H' := Aside0.mk H
    clear H
    have hnb21 := NB271_272.out
    have hnc21 := NB272_271.out
    have hcz22_0 : w12.cell? ⟨gb271, 0, none⟩ = some (.slice A0_0 l0_0.length c0_0) := (blk_cell BK271.out 0).trans rfl
    have hcz22_1 : w12.cell? ⟨gb271, 1, none⟩ = some (.slice A0_1 l0_1.length c0_1) := (blk_cell BK271.out 1).trans rfl
    have hfz22_0 := blk_frozen BK271.out 0
    have hfz22_1 := blk_frozen BK271.out 1
    go_wp2_with (first | ((with_reducible refine gate_callee (f := 11) rfl ?_); refine goesL_ (some 26) rfl rfl Try.func11 (by kernel_rfl) rfl #[.agg #[.slice A0_0 l0_0.length c0_0, .slice A0_1 l0_1.length c0_1]] rfl (by (try simp only [List.map_toArray, List.map_cons, List.map_nil]); first | done | rfl | (simp only [List.length_drop, List.length_take]; rfl)) ?_; (with_reducible refine (supercargolaw35_few.calls _ _ l0_0 _ _ l0_1 false _ ?side1 ?side2 ?side3 ?side4 A13.out).mono ?_); (case side1 => repeat (first | exact (Kd.C_below HR0_0.out HB.out) | (with_reducible refine Kd.C_alloc ?_ _) | (with_reducible refine Kd.C_drewN ?_ _) | (with_reducible refine Kd.C_drew ?_))); (case side2 => exact HC0_0.out); (case side3 => repeat (first | exact (Kd.C_below HR0_1.out HB.out) | (with_reducible refine Kd.C_alloc ?_ _) | (with_reducible refine Kd.C_drewN ?_ _) | (with_reducible refine Kd.C_drew ?_))); (case side4 => exact HC0_1.out); rintro e w23 ⟨rfl, hb⟩; refine ⟨_, rfl, ?_⟩; have n0_ := Aside0.mk (blk_below (g := gb271) (o := .cells #[.slice A0_0 l0_0.length c0_0, .slice A0_1 l0_1.length c0_1] 24 (0, 0)) (by (with_reducible repeat (first | refine blk_drewN ?_ _ | refine blk_drew ?_ | refine blk_alloc ?_ _)); exact BK271.out) hb); have n1_ := Aside0.mk (blk_below (g := gb272) (o := .cells #[.string a2_0, .string a2_1, .string a2_2, .string a2_3, .string a2_4, .string a2_5, .string a2_6, .string a2_7, .int .i64 a2_8, .int .i64 a2_9, .int .i64 a2_10, .int .i64 a2_11, .int .i64 a2_12, .int .i64 a2_13, .int .i64 a2_14, .bool a2_15, .bool a2_16, .slice A2_17 l2_17.length c2_17] 42 (0, 0)) (by (with_reducible repeat (first | refine blk_drewN ?_ _ | refine blk_drew ?_ | refine blk_alloc ?_ _)); exact BK272.out) hb); have n2_ := Aside0.mk (below_step (by repeat (first | (with_reducible first | exact HB.out | apply below_alloc | apply pw_below_drewN | apply below_drew1 | refine below_set ?_ GE271.out | refine below_set ?_ GE272.out) | exact HB.out)) hb); clear BK271; clear BK272; clear HB; have BK271 := n0_; have BK272 := n1_; have HB := n2_; clear n0_ n1_ n2_; (try clear hb); (try clear hb2); (try clear hk); (try clear hi)))
    go_meet
    case rel => exact ⟨_, (true), (by first | rfl | (simp; done) | (simp [*]; done)), H', ⟨by first | omega | exact Nat.le_refl _⟩, ⟨by (with_reducible repeat (first | refine blk_drewN ?_ _ | refine blk_drew ?_ | refine blk_alloc ?_ _)); exact BK271.out⟩, ⟨by (with_reducible repeat (first | refine blk_drewN ?_ _ | refine blk_drew ?_ | refine blk_alloc ?_ _)); exact BK272.out⟩, ⟨by repeat (first | (with_reducible first | exact HB.out | apply below_alloc | apply pw_below_drewN | apply below_drew1 | refine below_set ?_ GE271.out | refine below_set ?_ GE272.out) | exact HB.out)⟩⟩
  case rest =>
   clear HC9
   try clear c1
   try clear c2
   try clear p2
   try clear c8
   try clear c9
   try clear c11
   try clear c14
   try clear c16
   try clear c21
   try clear hcz17_0
   try clear hcz17_1
   try clear hcz19_0
   try clear hcz19_1
   try clear hcz22_0
   try clear hcz22_1
   try clear hfz17_0
   try clear hfz17_1
   try clear hfz19_0
   try clear hfz19_1
   try clear hfz22_0
   try clear hfz22_1
   obtain ⟨kq, x32_8, rfl, HA, HJ8, BK271, BK272, HB⟩ := hcut
   cases kq with
   | zero => exact absurd HA.out (by simp [supercargolaw35_NoticeHoliday.j0])
   | succ kj8 =>
    have H := HA.out
    clear HA
    simp only [supercargolaw35_NoticeHoliday.j0] at H
    by_cases c24 : x32_8 = true
    ·subst c24
     have H1 : (some true) = some r := by rw [if_pos rfl] at H; exact H
     clear H
     have H := H1
     clear H1
     clear hT; obtain rfl := Option.some.inj H
     go_wp2
     go_ret
     exact ⟨by first | rfl | (simp [errW_none, errW_some] <;> rfl) | (simp [*, errW_none, errW_some] <;> rfl), by repeat (first | (with_reducible first | exact HB.out | apply below_alloc | apply pw_below_drewN | apply below_drew1 | refine below_set ?_ GE271.out | refine below_set ?_ GE272.out) | exact HB.out)⟩
    ·replace c24 := Bool.eq_false_iff.mpr c24
     subst c24
     have H1 : ((day_Both.f kj8 l0_0 l0_1 ([] : List Int) (([a1] : List Int))).bind fun bt279 => ((notice_Deadline.f kj8 l0_0 l0_1 a4).bind fun bt286 => ((notice_Deadline.f kj8 bt279.1 bt279.2 a4).bind fun bt288 => ((notice_Expiry.f kj8 l0_0 l0_1 a4).bind fun bt290 => ((notice_Expiry.f kj8 bt279.1 bt279.2 a4).bind fun bt292 => (if bt288.2 = true then (if bt286.2 = true then (if bt288.1 < bt286.1 then (supercargolaw35_NoticeHoliday.j1 kj8 a3 a4 a5 bt288.2 true l0_0 l0_1 a2_0 a2_1 a2_2 a2_3 a2_4 a2_5 a2_6 a2_7 a2_8 a2_9 a2_10 a2_11 a2_12 a2_13 a2_14 a2_15 a2_16 l2_17 bt279.1 bt279.2) else (if bt292.2 = true then (if bt290.2 = true then (supercargolaw35_NoticeHoliday.j1 kj8 a3 a4 a5 bt288.2 (decide (bt292.1 < bt290.1)) l0_0 l0_1 a2_0 a2_1 a2_2 a2_3 a2_4 a2_5 a2_6 a2_7 a2_8 a2_9 a2_10 a2_11 a2_12 a2_13 a2_14 a2_15 a2_16 l2_17 bt279.1 bt279.2) else (supercargolaw35_NoticeHoliday.j1 kj8 a3 a4 a5 bt288.2 true l0_0 l0_1 a2_0 a2_1 a2_2 a2_3 a2_4 a2_5 a2_6 a2_7 a2_8 a2_9 a2_10 a2_11 a2_12 a2_13 a2_14 a2_15 a2_16 l2_17 bt279.1 bt279.2)) else (supercargolaw35_NoticeHoliday.j1 kj8 a3 a4 a5 bt288.2 false l0_0 l0_1 a2_0 a2_1 a2_2 a2_3 a2_4 a2_5 a2_6 a2_7 a2_8 a2_9 a2_10 a2_11 a2_12 a2_13 a2_14 a2_15 a2_16 l2_17 bt279.1 bt279.2))) else (supercargolaw35_NoticeHoliday.j1 kj8 a3 a4 a5 bt288.2 true l0_0 l0_1 a2_0 a2_1 a2_2 a2_3 a2_4 a2_5 a2_6 a2_7 a2_8 a2_9 a2_10 a2_11 a2_12 a2_13 a2_14 a2_15 a2_16 l2_17 bt279.1 bt279.2)) else (if bt292.2 = true then (if bt290.2 = true then (supercargolaw35_NoticeHoliday.j1 kj8 a3 a4 a5 bt288.2 (decide (bt292.1 < bt290.1)) l0_0 l0_1 a2_0 a2_1 a2_2 a2_3 a2_4 a2_5 a2_6 a2_7 a2_8 a2_9 a2_10 a2_11 a2_12 a2_13 a2_14 a2_15 a2_16 l2_17 bt279.1 bt279.2) else (supercargolaw35_NoticeHoliday.j1 kj8 a3 a4 a5 bt288.2 true l0_0 l0_1 a2_0 a2_1 a2_2 a2_3 a2_4 a2_5 a2_6 a2_7 a2_8 a2_9 a2_10 a2_11 a2_12 a2_13 a2_14 a2_15 a2_16 l2_17 bt279.1 bt279.2)) else (supercargolaw35_NoticeHoliday.j1 kj8 a3 a4 a5 bt288.2 false l0_0 l0_1 a2_0 a2_1 a2_2 a2_3 a2_4 a2_5 a2_6 a2_7 a2_8 a2_9 a2_10 a2_11 a2_12 a2_13 a2_14 a2_15 a2_16 l2_17 bt279.1 bt279.2)))))))) = some r := by rw [if_neg (show ¬ (false = true) by decide)] at H; exact H
     clear H
     have H := H1
     clear H1
     obtain ⟨y276, hy276⟩ : ∃ y_ : List Int, y_ = (([a1] : List Int)) := ⟨_, rfl⟩
     replace H : ((day_Both.f kj8 l0_0 l0_1 ([] : List Int) y276).bind fun bt279 => ((notice_Deadline.f kj8 l0_0 l0_1 a4).bind fun bt286 => ((notice_Deadline.f kj8 bt279.1 bt279.2 a4).bind fun bt288 => ((notice_Expiry.f kj8 l0_0 l0_1 a4).bind fun bt290 => ((notice_Expiry.f kj8 bt279.1 bt279.2 a4).bind fun bt292 => (if bt288.2 = true then (if bt286.2 = true then (if bt288.1 < bt286.1 then (supercargolaw35_NoticeHoliday.j1 kj8 a3 a4 a5 bt288.2 true l0_0 l0_1 a2_0 a2_1 a2_2 a2_3 a2_4 a2_5 a2_6 a2_7 a2_8 a2_9 a2_10 a2_11 a2_12 a2_13 a2_14 a2_15 a2_16 l2_17 bt279.1 bt279.2) else (if bt292.2 = true then (if bt290.2 = true then (supercargolaw35_NoticeHoliday.j1 kj8 a3 a4 a5 bt288.2 (decide (bt292.1 < bt290.1)) l0_0 l0_1 a2_0 a2_1 a2_2 a2_3 a2_4 a2_5 a2_6 a2_7 a2_8 a2_9 a2_10 a2_11 a2_12 a2_13 a2_14 a2_15 a2_16 l2_17 bt279.1 bt279.2) else (supercargolaw35_NoticeHoliday.j1 kj8 a3 a4 a5 bt288.2 true l0_0 l0_1 a2_0 a2_1 a2_2 a2_3 a2_4 a2_5 a2_6 a2_7 a2_8 a2_9 a2_10 a2_11 a2_12 a2_13 a2_14 a2_15 a2_16 l2_17 bt279.1 bt279.2)) else (supercargolaw35_NoticeHoliday.j1 kj8 a3 a4 a5 bt288.2 false l0_0 l0_1 a2_0 a2_1 a2_2 a2_3 a2_4 a2_5 a2_6 a2_7 a2_8 a2_9 a2_10 a2_11 a2_12 a2_13 a2_14 a2_15 a2_16 l2_17 bt279.1 bt279.2))) else (supercargolaw35_NoticeHoliday.j1 kj8 a3 a4 a5 bt288.2 true l0_0 l0_1 a2_0 a2_1 a2_2 a2_3 a2_4 a2_5 a2_6 a2_7 a2_8 a2_9 a2_10 a2_11 a2_12 a2_13 a2_14 a2_15 a2_16 l2_17 bt279.1 bt279.2)) else (if bt292.2 = true then (if bt290.2 = true then (supercargolaw35_NoticeHoliday.j1 kj8 a3 a4 a5 bt288.2 (decide (bt292.1 < bt290.1)) l0_0 l0_1 a2_0 a2_1 a2_2 a2_3 a2_4 a2_5 a2_6 a2_7 a2_8 a2_9 a2_10 a2_11 a2_12 a2_13 a2_14 a2_15 a2_16 l2_17 bt279.1 bt279.2) else (supercargolaw35_NoticeHoliday.j1 kj8 a3 a4 a5 bt288.2 true l0_0 l0_1 a2_0 a2_1 a2_2 a2_3 a2_4 a2_5 a2_6 a2_7 a2_8 a2_9 a2_10 a2_11 a2_12 a2_13 a2_14 a2_15 a2_16 l2_17 bt279.1 bt279.2)) else (supercargolaw35_NoticeHoliday.j1 kj8 a3 a4 a5 bt288.2 false l0_0 l0_1 a2_0 a2_1 a2_2 a2_3 a2_4 a2_5 a2_6 a2_7 a2_8 a2_9 a2_10 a2_11 a2_12 a2_13 a2_14 a2_15 a2_16 l2_17 bt279.1 bt279.2)))))))) = some r := by first | (rw [hy276]; with_reducible exact H) | (have H2_ := (Option.bind_some _ _).symm.trans H; rw [hy276]; with_reducible exact H2_) | (have H2_ := (Option.bind_some _ _).symm.trans H; with_reducible exact H2_) | with_reducible exact H | (rw [hy276]; exact H) | exact H
     have Ny276 := Aside0.mk hy276
     clear hy276
     replace H := Option.bind_eq_some_iff.mp H
     obtain ⟨⟨t279, t282⟩, A250, H⟩ := H
     replace H : ((notice_Deadline.f kj8 l0_0 l0_1 a4).bind fun bt286 => ((notice_Deadline.f kj8 t279 t282 a4).bind fun bt288 => ((notice_Expiry.f kj8 l0_0 l0_1 a4).bind fun bt290 => ((notice_Expiry.f kj8 t279 t282 a4).bind fun bt292 => (if bt288.2 = true then (if bt286.2 = true then (if bt288.1 < bt286.1 then (supercargolaw35_NoticeHoliday.j1 kj8 a3 a4 a5 bt288.2 true l0_0 l0_1 a2_0 a2_1 a2_2 a2_3 a2_4 a2_5 a2_6 a2_7 a2_8 a2_9 a2_10 a2_11 a2_12 a2_13 a2_14 a2_15 a2_16 l2_17 t279 t282) else (if bt292.2 = true then (if bt290.2 = true then (supercargolaw35_NoticeHoliday.j1 kj8 a3 a4 a5 bt288.2 (decide (bt292.1 < bt290.1)) l0_0 l0_1 a2_0 a2_1 a2_2 a2_3 a2_4 a2_5 a2_6 a2_7 a2_8 a2_9 a2_10 a2_11 a2_12 a2_13 a2_14 a2_15 a2_16 l2_17 t279 t282) else (supercargolaw35_NoticeHoliday.j1 kj8 a3 a4 a5 bt288.2 true l0_0 l0_1 a2_0 a2_1 a2_2 a2_3 a2_4 a2_5 a2_6 a2_7 a2_8 a2_9 a2_10 a2_11 a2_12 a2_13 a2_14 a2_15 a2_16 l2_17 t279 t282)) else (supercargolaw35_NoticeHoliday.j1 kj8 a3 a4 a5 bt288.2 false l0_0 l0_1 a2_0 a2_1 a2_2 a2_3 a2_4 a2_5 a2_6 a2_7 a2_8 a2_9 a2_10 a2_11 a2_12 a2_13 a2_14 a2_15 a2_16 l2_17 t279 t282))) else (supercargolaw35_NoticeHoliday.j1 kj8 a3 a4 a5 bt288.2 true l0_0 l0_1 a2_0 a2_1 a2_2 a2_3 a2_4 a2_5 a2_6 a2_7 a2_8 a2_9 a2_10 a2_11 a2_12 a2_13 a2_14 a2_15 a2_16 l2_17 t279 t282)) else (if bt292.2 = true then (if bt290.2 = true then (supercargolaw35_NoticeHoliday.j1 kj8 a3 a4 a5 bt288.2 (decide (bt292.1 < bt290.1)) l0_0 l0_1 a2_0 a2_1 a2_2 a2_3 a2_4 a2_5 a2_6 a2_7 a2_8 a2_9 a2_10 a2_11 a2_12 a2_13 a2_14 a2_15 a2_16 l2_17 t279 t282) else (supercargolaw35_NoticeHoliday.j1 kj8 a3 a4 a5 bt288.2 true l0_0 l0_1 a2_0 a2_1 a2_2 a2_3 a2_4 a2_5 a2_6 a2_7 a2_8 a2_9 a2_10 a2_11 a2_12 a2_13 a2_14 a2_15 a2_16 l2_17 t279 t282)) else (supercargolaw35_NoticeHoliday.j1 kj8 a3 a4 a5 bt288.2 false l0_0 l0_1 a2_0 a2_1 a2_2 a2_3 a2_4 a2_5 a2_6 a2_7 a2_8 a2_9 a2_10 a2_11 a2_12 a2_13 a2_14 a2_15 a2_16 l2_17 t279 t282))))))) = some r := H
     have A25 := Aside0.mk A250
     clear A250
     replace H := Option.bind_eq_some_iff.mp H
     obtain ⟨⟨t286, t287⟩, A260, H⟩ := H
     replace H : ((notice_Deadline.f kj8 t279 t282 a4).bind fun bt288 => ((notice_Expiry.f kj8 l0_0 l0_1 a4).bind fun bt290 => ((notice_Expiry.f kj8 t279 t282 a4).bind fun bt292 => (if bt288.2 = true then (if t287 = true then (if bt288.1 < t286 then (supercargolaw35_NoticeHoliday.j1 kj8 a3 a4 a5 bt288.2 true l0_0 l0_1 a2_0 a2_1 a2_2 a2_3 a2_4 a2_5 a2_6 a2_7 a2_8 a2_9 a2_10 a2_11 a2_12 a2_13 a2_14 a2_15 a2_16 l2_17 t279 t282) else (if bt292.2 = true then (if bt290.2 = true then (supercargolaw35_NoticeHoliday.j1 kj8 a3 a4 a5 bt288.2 (decide (bt292.1 < bt290.1)) l0_0 l0_1 a2_0 a2_1 a2_2 a2_3 a2_4 a2_5 a2_6 a2_7 a2_8 a2_9 a2_10 a2_11 a2_12 a2_13 a2_14 a2_15 a2_16 l2_17 t279 t282) else (supercargolaw35_NoticeHoliday.j1 kj8 a3 a4 a5 bt288.2 true l0_0 l0_1 a2_0 a2_1 a2_2 a2_3 a2_4 a2_5 a2_6 a2_7 a2_8 a2_9 a2_10 a2_11 a2_12 a2_13 a2_14 a2_15 a2_16 l2_17 t279 t282)) else (supercargolaw35_NoticeHoliday.j1 kj8 a3 a4 a5 bt288.2 false l0_0 l0_1 a2_0 a2_1 a2_2 a2_3 a2_4 a2_5 a2_6 a2_7 a2_8 a2_9 a2_10 a2_11 a2_12 a2_13 a2_14 a2_15 a2_16 l2_17 t279 t282))) else (supercargolaw35_NoticeHoliday.j1 kj8 a3 a4 a5 bt288.2 true l0_0 l0_1 a2_0 a2_1 a2_2 a2_3 a2_4 a2_5 a2_6 a2_7 a2_8 a2_9 a2_10 a2_11 a2_12 a2_13 a2_14 a2_15 a2_16 l2_17 t279 t282)) else (if bt292.2 = true then (if bt290.2 = true then (supercargolaw35_NoticeHoliday.j1 kj8 a3 a4 a5 bt288.2 (decide (bt292.1 < bt290.1)) l0_0 l0_1 a2_0 a2_1 a2_2 a2_3 a2_4 a2_5 a2_6 a2_7 a2_8 a2_9 a2_10 a2_11 a2_12 a2_13 a2_14 a2_15 a2_16 l2_17 t279 t282) else (supercargolaw35_NoticeHoliday.j1 kj8 a3 a4 a5 bt288.2 true l0_0 l0_1 a2_0 a2_1 a2_2 a2_3 a2_4 a2_5 a2_6 a2_7 a2_8 a2_9 a2_10 a2_11 a2_12 a2_13 a2_14 a2_15 a2_16 l2_17 t279 t282)) else (supercargolaw35_NoticeHoliday.j1 kj8 a3 a4 a5 bt288.2 false l0_0 l0_1 a2_0 a2_1 a2_2 a2_3 a2_4 a2_5 a2_6 a2_7 a2_8 a2_9 a2_10 a2_11 a2_12 a2_13 a2_14 a2_15 a2_16 l2_17 t279 t282)))))) = some r := H
     have A26 := Aside0.mk A260
     clear A260
     replace H := Option.bind_eq_some_iff.mp H
     obtain ⟨⟨t288, t289⟩, A270, H⟩ := H
     replace H : ((notice_Expiry.f kj8 l0_0 l0_1 a4).bind fun bt290 => ((notice_Expiry.f kj8 t279 t282 a4).bind fun bt292 => (if t289 = true then (if t287 = true then (if t288 < t286 then (supercargolaw35_NoticeHoliday.j1 kj8 a3 a4 a5 t289 true l0_0 l0_1 a2_0 a2_1 a2_2 a2_3 a2_4 a2_5 a2_6 a2_7 a2_8 a2_9 a2_10 a2_11 a2_12 a2_13 a2_14 a2_15 a2_16 l2_17 t279 t282) else (if bt292.2 = true then (if bt290.2 = true then (supercargolaw35_NoticeHoliday.j1 kj8 a3 a4 a5 t289 (decide (bt292.1 < bt290.1)) l0_0 l0_1 a2_0 a2_1 a2_2 a2_3 a2_4 a2_5 a2_6 a2_7 a2_8 a2_9 a2_10 a2_11 a2_12 a2_13 a2_14 a2_15 a2_16 l2_17 t279 t282) else (supercargolaw35_NoticeHoliday.j1 kj8 a3 a4 a5 t289 true l0_0 l0_1 a2_0 a2_1 a2_2 a2_3 a2_4 a2_5 a2_6 a2_7 a2_8 a2_9 a2_10 a2_11 a2_12 a2_13 a2_14 a2_15 a2_16 l2_17 t279 t282)) else (supercargolaw35_NoticeHoliday.j1 kj8 a3 a4 a5 t289 false l0_0 l0_1 a2_0 a2_1 a2_2 a2_3 a2_4 a2_5 a2_6 a2_7 a2_8 a2_9 a2_10 a2_11 a2_12 a2_13 a2_14 a2_15 a2_16 l2_17 t279 t282))) else (supercargolaw35_NoticeHoliday.j1 kj8 a3 a4 a5 t289 true l0_0 l0_1 a2_0 a2_1 a2_2 a2_3 a2_4 a2_5 a2_6 a2_7 a2_8 a2_9 a2_10 a2_11 a2_12 a2_13 a2_14 a2_15 a2_16 l2_17 t279 t282)) else (if bt292.2 = true then (if bt290.2 = true then (supercargolaw35_NoticeHoliday.j1 kj8 a3 a4 a5 t289 (decide (bt292.1 < bt290.1)) l0_0 l0_1 a2_0 a2_1 a2_2 a2_3 a2_4 a2_5 a2_6 a2_7 a2_8 a2_9 a2_10 a2_11 a2_12 a2_13 a2_14 a2_15 a2_16 l2_17 t279 t282) else (supercargolaw35_NoticeHoliday.j1 kj8 a3 a4 a5 t289 true l0_0 l0_1 a2_0 a2_1 a2_2 a2_3 a2_4 a2_5 a2_6 a2_7 a2_8 a2_9 a2_10 a2_11 a2_12 a2_13 a2_14 a2_15 a2_16 l2_17 t279 t282)) else (supercargolaw35_NoticeHoliday.j1 kj8 a3 a4 a5 t289 false l0_0 l0_1 a2_0 a2_1 a2_2 a2_3 a2_4 a2_5 a2_6 a2_7 a2_8 a2_9 a2_10 a2_11 a2_12 a2_13 a2_14 a2_15 a2_16 l2_17 t279 t282))))) = some r := H
     have A27 := Aside0.mk A270
     clear A270
     replace H := Option.bind_eq_some_iff.mp H
     obtain ⟨⟨t290, t291⟩, A280, H⟩ := H
     replace H : ((notice_Expiry.f kj8 t279 t282 a4).bind fun bt292 => (if t289 = true then (if t287 = true then (if t288 < t286 then (supercargolaw35_NoticeHoliday.j1 kj8 a3 a4 a5 t289 true l0_0 l0_1 a2_0 a2_1 a2_2 a2_3 a2_4 a2_5 a2_6 a2_7 a2_8 a2_9 a2_10 a2_11 a2_12 a2_13 a2_14 a2_15 a2_16 l2_17 t279 t282) else (if bt292.2 = true then (if t291 = true then (supercargolaw35_NoticeHoliday.j1 kj8 a3 a4 a5 t289 (decide (bt292.1 < t290)) l0_0 l0_1 a2_0 a2_1 a2_2 a2_3 a2_4 a2_5 a2_6 a2_7 a2_8 a2_9 a2_10 a2_11 a2_12 a2_13 a2_14 a2_15 a2_16 l2_17 t279 t282) else (supercargolaw35_NoticeHoliday.j1 kj8 a3 a4 a5 t289 true l0_0 l0_1 a2_0 a2_1 a2_2 a2_3 a2_4 a2_5 a2_6 a2_7 a2_8 a2_9 a2_10 a2_11 a2_12 a2_13 a2_14 a2_15 a2_16 l2_17 t279 t282)) else (supercargolaw35_NoticeHoliday.j1 kj8 a3 a4 a5 t289 false l0_0 l0_1 a2_0 a2_1 a2_2 a2_3 a2_4 a2_5 a2_6 a2_7 a2_8 a2_9 a2_10 a2_11 a2_12 a2_13 a2_14 a2_15 a2_16 l2_17 t279 t282))) else (supercargolaw35_NoticeHoliday.j1 kj8 a3 a4 a5 t289 true l0_0 l0_1 a2_0 a2_1 a2_2 a2_3 a2_4 a2_5 a2_6 a2_7 a2_8 a2_9 a2_10 a2_11 a2_12 a2_13 a2_14 a2_15 a2_16 l2_17 t279 t282)) else (if bt292.2 = true then (if t291 = true then (supercargolaw35_NoticeHoliday.j1 kj8 a3 a4 a5 t289 (decide (bt292.1 < t290)) l0_0 l0_1 a2_0 a2_1 a2_2 a2_3 a2_4 a2_5 a2_6 a2_7 a2_8 a2_9 a2_10 a2_11 a2_12 a2_13 a2_14 a2_15 a2_16 l2_17 t279 t282) else (supercargolaw35_NoticeHoliday.j1 kj8 a3 a4 a5 t289 true l0_0 l0_1 a2_0 a2_1 a2_2 a2_3 a2_4 a2_5 a2_6 a2_7 a2_8 a2_9 a2_10 a2_11 a2_12 a2_13 a2_14 a2_15 a2_16 l2_17 t279 t282)) else (supercargolaw35_NoticeHoliday.j1 kj8 a3 a4 a5 t289 false l0_0 l0_1 a2_0 a2_1 a2_2 a2_3 a2_4 a2_5 a2_6 a2_7 a2_8 a2_9 a2_10 a2_11 a2_12 a2_13 a2_14 a2_15 a2_16 l2_17 t279 t282)))) = some r := H
     have A28 := Aside0.mk A280
     clear A280
     replace H := Option.bind_eq_some_iff.mp H
     obtain ⟨⟨t292, t293⟩, A290, H⟩ := H
     replace H : (if t289 = true then (if t287 = true then (if t288 < t286 then (supercargolaw35_NoticeHoliday.j1 kj8 a3 a4 a5 t289 true l0_0 l0_1 a2_0 a2_1 a2_2 a2_3 a2_4 a2_5 a2_6 a2_7 a2_8 a2_9 a2_10 a2_11 a2_12 a2_13 a2_14 a2_15 a2_16 l2_17 t279 t282) else (if t293 = true then (if t291 = true then (supercargolaw35_NoticeHoliday.j1 kj8 a3 a4 a5 t289 (decide (t292 < t290)) l0_0 l0_1 a2_0 a2_1 a2_2 a2_3 a2_4 a2_5 a2_6 a2_7 a2_8 a2_9 a2_10 a2_11 a2_12 a2_13 a2_14 a2_15 a2_16 l2_17 t279 t282) else (supercargolaw35_NoticeHoliday.j1 kj8 a3 a4 a5 t289 true l0_0 l0_1 a2_0 a2_1 a2_2 a2_3 a2_4 a2_5 a2_6 a2_7 a2_8 a2_9 a2_10 a2_11 a2_12 a2_13 a2_14 a2_15 a2_16 l2_17 t279 t282)) else (supercargolaw35_NoticeHoliday.j1 kj8 a3 a4 a5 t289 false l0_0 l0_1 a2_0 a2_1 a2_2 a2_3 a2_4 a2_5 a2_6 a2_7 a2_8 a2_9 a2_10 a2_11 a2_12 a2_13 a2_14 a2_15 a2_16 l2_17 t279 t282))) else (supercargolaw35_NoticeHoliday.j1 kj8 a3 a4 a5 t289 true l0_0 l0_1 a2_0 a2_1 a2_2 a2_3 a2_4 a2_5 a2_6 a2_7 a2_8 a2_9 a2_10 a2_11 a2_12 a2_13 a2_14 a2_15 a2_16 l2_17 t279 t282)) else (if t293 = true then (if t291 = true then (supercargolaw35_NoticeHoliday.j1 kj8 a3 a4 a5 t289 (decide (t292 < t290)) l0_0 l0_1 a2_0 a2_1 a2_2 a2_3 a2_4 a2_5 a2_6 a2_7 a2_8 a2_9 a2_10 a2_11 a2_12 a2_13 a2_14 a2_15 a2_16 l2_17 t279 t282) else (supercargolaw35_NoticeHoliday.j1 kj8 a3 a4 a5 t289 true l0_0 l0_1 a2_0 a2_1 a2_2 a2_3 a2_4 a2_5 a2_6 a2_7 a2_8 a2_9 a2_10 a2_11 a2_12 a2_13 a2_14 a2_15 a2_16 l2_17 t279 t282)) else (supercargolaw35_NoticeHoliday.j1 kj8 a3 a4 a5 t289 false l0_0 l0_1 a2_0 a2_1 a2_2 a2_3 a2_4 a2_5 a2_6 a2_7 a2_8 a2_9 a2_10 a2_11 a2_12 a2_13 a2_14 a2_15 a2_16 l2_17 t279 t282))) = some r := H
     have A29 := Aside0.mk A290
     clear A290
     have HC30 := Aside0.mk H
     clear H
     have hnb31 := NB271_272.out
     have hnc31 := NB272_271.out
     have hcz32_0 : wc.cell? ⟨gb271, 0, none⟩ = some (.slice A0_0 l0_0.length c0_0) := (blk_cell BK271.out 0).trans rfl
     have hcz32_1 : wc.cell? ⟨gb271, 1, none⟩ = some (.slice A0_1 l0_1.length c0_1) := (blk_cell BK271.out 1).trans rfl
     have hfz32_0 := blk_frozen BK271.out 0
     have hfz32_1 := blk_frozen BK271.out 1
     go_upto_region 10 with (first | ((with_reducible refine gate_dst (N := 35) rfl ?_); refine Kd.R_lit (Kd.int .i64) _ 3 ?hg (N := 35) ?hd (xs := ([a1] : List Int)) (inner := [.int .i64 a1]) (ok := fun _ => True) (okp := fun _ => True) ?hr ?hp (fun _ hk => hk) trivial (Below.refl _ _) (Nat.le_refl _) (by simp) ?_; (case hd => rfl); (case hg => rfl); (case hr => first | (go_simp; done) | (go_simp; rfl)); (case hp => exact (Reps.one (show Kd.M (Kd.int .i64) _ _ _ a1 [.int .i64 a1] from rfl) (Reps.none _ _))); intro v277 w33 ho34 hb hg_ hnew_; clear hg_ hnew_; (first | rw [← Ny276.out] at ho34 | (simp only [Int.reduceToNat] at ho34; rw [← Ny276.out] at ho34)); have n0_ := Aside0.mk (Kd.R_lower ho34 (below_size (by repeat (first | (with_reducible first | exact HB.out | apply below_alloc | apply pw_below_drewN | apply below_drew1 | refine below_set ?_ GE271.out | refine below_set ?_ GE272.out) | exact HB.out)))); have n1_ := Aside0.mk (blk_below (g := gb271) (o := .cells #[.slice A0_0 l0_0.length c0_0, .slice A0_1 l0_1.length c0_1] 24 (0, 0)) (by (with_reducible repeat (first | refine blk_drewN ?_ _ | refine blk_drew ?_ | refine blk_alloc ?_ _)); exact BK271.out) hb); have n2_ := Aside0.mk (blk_below (g := gb272) (o := .cells #[.string a2_0, .string a2_1, .string a2_2, .string a2_3, .string a2_4, .string a2_5, .string a2_6, .string a2_7, .int .i64 a2_8, .int .i64 a2_9, .int .i64 a2_10, .int .i64 a2_11, .int .i64 a2_12, .int .i64 a2_13, .int .i64 a2_14, .bool a2_15, .bool a2_16, .slice A2_17 l2_17.length c2_17] 42 (0, 0)) (by (with_reducible repeat (first | refine blk_drewN ?_ _ | refine blk_drew ?_ | refine blk_alloc ?_ _)); exact BK272.out) hb); have n3_ := Aside0.mk (below_step (by repeat (first | (with_reducible first | exact HB.out | apply below_alloc | apply pw_below_drewN | apply below_drew1 | refine below_set ?_ GE271.out | refine below_set ?_ GE272.out) | exact HB.out)) hb); clear BK271; clear BK272; clear HB; have HO278 := n0_; have BK271 := n1_; have BK272 := n2_; have HB := n3_; clear n0_ n1_ n2_ n3_; clear hb ho34; obtain ⟨Ao35, co35, eo35⟩ := Kd.R_slice HO278.out; subst eo35) | ((with_reducible refine gate_callee (f := 23) rfl ?_); refine goesL_ (some 37) rfl rfl Try.func23 (by kernel_rfl) rfl #[.agg #[.slice A0_0 l0_0.length c0_0, .slice A0_1 l0_1.length c0_1], .agg #[.slice none 0 0, .slice Ao35 y276.length co35]] rfl (by (try simp only [List.map_toArray, List.map_cons, List.map_nil]); first | done | rfl | (simp only [List.length_drop, List.length_take]; rfl)) ?_; (refine (day_Both.calls kj8 _ _ l0_0 _ _ l0_1 _ _ ([] : List Int) _ _ y276 t279 t282 _ ?side1 ?side2 ?side3 ?side4 ?side5 ?side6 ?side7 ?side8 A25.out).mono ?_); (case side1 => repeat (first | exact (Kd.C_below HR0_0.out HB.out) | (with_reducible refine Kd.C_alloc ?_ _) | (with_reducible refine Kd.C_drewN ?_ _) | (with_reducible refine Kd.C_drew ?_))); (case side2 => exact HC0_0.out); (case side3 => repeat (first | exact (Kd.C_below HR0_1.out HB.out) | (with_reducible refine Kd.C_alloc ?_ _) | (with_reducible refine Kd.C_drewN ?_ _) | (with_reducible refine Kd.C_drew ?_))); (case side4 => exact HC0_1.out); (case side5 => exact Kd.C_nil _ _); (case side6 => exact Nat.le_refl _); (case side7 => repeat (first | exact (Kd.R_reads' HO278.out).2.2 | (with_reducible refine Kd.C_alloc ?_ _) | (with_reducible refine Kd.C_drewN ?_ _) | (with_reducible refine Kd.C_drew ?_))); (case side8 => exact (Kd.R_reads' HO278.out).2.1); rintro e w36 ⟨v280, v283, rfl, ho0, ho1, hb⟩; refine ⟨_, rfl, ?_⟩; have n0_ := Aside0.mk (Kd.R_mono (Kd.R_told (Kd.R_told (Kd.R_old (by (with_reducible repeat (first | apply Kd.R_alloc | apply Kd.R_drewN | apply Kd.R_drew)); exact HO278.out) hb) (Kd.R_base ho0)) (Kd.R_base ho1)) (fun _ h_ => h_.1)); have n1_ := Aside0.mk (Kd.R_lower (Kd.R_new' ho0 (Kd.R_lt (by (with_reducible repeat (first | apply Kd.R_alloc | apply Kd.R_drewN | apply Kd.R_drew)); exact HO278.out))) (below_size (by repeat (first | (with_reducible first | exact HB.out | apply below_alloc | apply pw_below_drewN | apply below_drew1 | refine below_set ?_ GE271.out | refine below_set ?_ GE272.out) | exact HB.out)))); have n2_ := Aside0.mk (Kd.R_lower (Kd.R_new' ho1 (Kd.R_lt (by (with_reducible repeat (first | apply Kd.R_alloc | apply Kd.R_drewN | apply Kd.R_drew)); exact HO278.out))) (below_size (by repeat (first | (with_reducible first | exact HB.out | apply below_alloc | apply pw_below_drewN | apply below_drew1 | refine below_set ?_ GE271.out | refine below_set ?_ GE272.out) | exact HB.out)))); have n3_ := Aside0.mk (blk_below (g := gb271) (o := .cells #[.slice A0_0 l0_0.length c0_0, .slice A0_1 l0_1.length c0_1] 24 (0, 0)) (by (with_reducible repeat (first | refine blk_drewN ?_ _ | refine blk_drew ?_ | refine blk_alloc ?_ _)); exact BK271.out) hb); have n4_ := Aside0.mk (blk_below (g := gb272) (o := .cells #[.string a2_0, .string a2_1, .string a2_2, .string a2_3, .string a2_4, .string a2_5, .string a2_6, .string a2_7, .int .i64 a2_8, .int .i64 a2_9, .int .i64 a2_10, .int .i64 a2_11, .int .i64 a2_12, .int .i64 a2_13, .int .i64 a2_14, .bool a2_15, .bool a2_16, .slice A2_17 l2_17.length c2_17] 42 (0, 0)) (by (with_reducible repeat (first | refine blk_drewN ?_ _ | refine blk_drew ?_ | refine blk_alloc ?_ _)); exact BK272.out) hb); have n5_ := Aside0.mk (below_step (by repeat (first | (with_reducible first | exact HB.out | apply below_alloc | apply pw_below_drewN | apply below_drew1 | refine below_set ?_ GE271.out | refine below_set ?_ GE272.out) | exact HB.out)) hb); clear HO278; clear BK271; clear BK272; clear HB; have HO278 := n0_; have HO281 := n1_; have HO284 := n2_; have BK271 := n3_; have BK272 := n4_; have HB := n5_; clear n0_ n1_ n2_ n3_ n4_ n5_; (try clear hb); (try clear hb2); (try clear hk); (try clear hi); (try clear ho0); (try clear ho1)) | ((with_reducible refine gate_dst (N := 13) rfl ?_); refine box_event ?hg (N := 13) ?hd (cs := #[.slice none 0 0, .slice none 0 0]) (t := 24) ?hr ?_; (case hd => rfl); (case hg => rfl); (case hr => first | (go_simp; done) | (go_simp; rfl)); intro gb285 hg w37 hbox hb; have n0_ := Aside0.mk (Kd.R_below (by (with_reducible repeat (first | apply Kd.R_alloc | apply Kd.R_drewN | apply Kd.R_drew)); exact HO278.out) hb); have n1_ := Aside0.mk (Kd.R_below (by (with_reducible repeat (first | apply Kd.R_alloc | apply Kd.R_drewN | apply Kd.R_drew)); exact HO281.out) hb); have n2_ := Aside0.mk (Kd.R_below (by (with_reducible repeat (first | apply Kd.R_alloc | apply Kd.R_drewN | apply Kd.R_drew)); exact HO284.out) hb); have n3_ := Aside0.mk (blk_below (g := gb271) (o := .cells #[.slice A0_0 l0_0.length c0_0, .slice A0_1 l0_1.length c0_1] 24 (0, 0)) (by (with_reducible repeat (first | refine blk_drewN ?_ _ | refine blk_drew ?_ | refine blk_alloc ?_ _)); exact BK271.out) hb); have n4_ := Aside0.mk (blk_below (g := gb272) (o := .cells #[.string a2_0, .string a2_1, .string a2_2, .string a2_3, .string a2_4, .string a2_5, .string a2_6, .string a2_7, .int .i64 a2_8, .int .i64 a2_9, .int .i64 a2_10, .int .i64 a2_11, .int .i64 a2_12, .int .i64 a2_13, .int .i64 a2_14, .bool a2_15, .bool a2_16, .slice A2_17 l2_17.length c2_17] 42 (0, 0)) (by (with_reducible repeat (first | refine blk_drewN ?_ _ | refine blk_drew ?_ | refine blk_alloc ?_ _)); exact BK272.out) hb); have n5_ := Aside0.mk (below_step (by repeat (first | (with_reducible first | exact HB.out | apply below_alloc | apply pw_below_drewN | apply below_drew1 | refine below_set ?_ GE271.out | refine below_set ?_ GE272.out) | exact HB.out)) hb); have n6_ := Aside0.mk (hbox); have n7_ := Aside0.mk ((by rw [hg]; exact (below_size (by repeat (first | (with_reducible first | exact HB.out | apply below_alloc | apply pw_below_drewN | apply below_drew1 | refine below_set ?_ GE271.out | refine below_set ?_ GE272.out) | exact HB.out))) : w.heap.size ≤ gb285)); have n8_ := Aside0.mk ((by rw [hg]; exact (below_size (by repeat (first | (with_reducible first | exact HB.out | apply below_alloc | apply pw_below_drewN | apply below_drew1 | refine below_set ?_ GE271.out | refine below_set ?_ GE272.out) | exact HB.out))) : w.heap.size ≤ gb285)); have n9_ := Aside0.mk ((by rw [hg]; exact Nat.ne_of_lt (blk_lt (g := gb271) (o := .cells #[.slice A0_0 l0_0.length c0_0, .slice A0_1 l0_1.length c0_1] 24 (0, 0)) (by (with_reducible repeat (first | refine blk_drewN ?_ _ | refine blk_drew ?_ | refine blk_alloc ?_ _)); exact BK271.out)) : gb271 ≠ gb285)); have n10_ := Aside0.mk ((by rw [hg]; exact Nat.ne_of_gt (blk_lt (g := gb271) (o := .cells #[.slice A0_0 l0_0.length c0_0, .slice A0_1 l0_1.length c0_1] 24 (0, 0)) (by (with_reducible repeat (first | refine blk_drewN ?_ _ | refine blk_drew ?_ | refine blk_alloc ?_ _)); exact BK271.out)) : gb285 ≠ gb271)); have n11_ := Aside0.mk ((by rw [hg]; exact Nat.ne_of_lt (blk_lt (g := gb272) (o := .cells #[.string a2_0, .string a2_1, .string a2_2, .string a2_3, .string a2_4, .string a2_5, .string a2_6, .string a2_7, .int .i64 a2_8, .int .i64 a2_9, .int .i64 a2_10, .int .i64 a2_11, .int .i64 a2_12, .int .i64 a2_13, .int .i64 a2_14, .bool a2_15, .bool a2_16, .slice A2_17 l2_17.length c2_17] 42 (0, 0)) (by (with_reducible repeat (first | refine blk_drewN ?_ _ | refine blk_drew ?_ | refine blk_alloc ?_ _)); exact BK272.out)) : gb272 ≠ gb285)); have n12_ := Aside0.mk ((by rw [hg]; exact Nat.ne_of_gt (blk_lt (g := gb272) (o := .cells #[.string a2_0, .string a2_1, .string a2_2, .string a2_3, .string a2_4, .string a2_5, .string a2_6, .string a2_7, .int .i64 a2_8, .int .i64 a2_9, .int .i64 a2_10, .int .i64 a2_11, .int .i64 a2_12, .int .i64 a2_13, .int .i64 a2_14, .bool a2_15, .bool a2_16, .slice A2_17 l2_17.length c2_17] 42 (0, 0)) (by (with_reducible repeat (first | refine blk_drewN ?_ _ | refine blk_drew ?_ | refine blk_alloc ?_ _)); exact BK272.out)) : gb285 ≠ gb272)); clear HO278; clear HO281; clear HO284; clear BK271; clear BK272; clear HB; have HO278 := n0_; have HO281 := n1_; have HO284 := n2_; have BK271 := n3_; have BK272 := n4_; have HB := n5_; have BK285 := n6_; have GW285 := n7_; have GE285 := n8_; have NB271_285 := n9_; have NB285_271 := n10_; have NB272_285 := n11_; have NB285_272 := n12_; clear n0_ n1_ n2_ n3_ n4_ n5_ n6_ n7_ n8_ n9_ n10_ n11_ n12_; clear hb hbox hg; obtain ⟨Ao38, co38, eo38⟩ := Kd.R_slice HO281.out; subst eo38; have hnb39 := NB285_271.out; have hnc39 := NB271_285.out; have hnb40 := NB285_272.out; have hnc40 := NB272_285.out; have hcz41_0 : w37.cell? ⟨gb285, 0, none⟩ = some (.slice none 0 0) := (blk_cell BK285.out 0).trans rfl; have hcz41_1 : w37.cell? ⟨gb285, 1, none⟩ = some (.slice none 0 0) := (blk_cell BK285.out 1).trans rfl; have hfz41_0 := blk_frozen BK285.out 0; have hfz41_1 := blk_frozen BK285.out 1; obtain ⟨Ao42, co42, eo42⟩ := Kd.R_slice HO284.out; subst eo42; have hcz43_0 : w37.cell? ⟨gb271, 0, none⟩ = some (.slice A0_0 l0_0.length c0_0) := (blk_cell BK271.out 0).trans rfl; have hcz43_1 : w37.cell? ⟨gb271, 1, none⟩ = some (.slice A0_1 l0_1.length c0_1) := (blk_cell BK271.out 1).trans rfl; have hfz43_0 := blk_frozen BK271.out 0; have hfz43_1 := blk_frozen BK271.out 1) | ((with_reducible refine gate_callee (f := 10) rfl ?_); refine goesL_ (some 41) rfl rfl Try.func10 (by kernel_rfl) rfl #[.agg #[.slice A0_0 l0_0.length c0_0, .slice A0_1 l0_1.length c0_1], .int .i64 a4] rfl (by (try simp only [List.map_toArray, List.map_cons, List.map_nil]); first | done | rfl | (simp only [List.length_drop, List.length_take]; rfl)) ?_; (with_reducible refine (notice_Deadline.calls kj8 _ _ l0_0 _ _ l0_1 a4 t286 t287 _ ?side1 ?side2 ?side3 ?side4 A26.out).mono ?_); (case side1 => exact Kd.C_below HR0_0.out (by repeat (first | (with_reducible first | exact HB.out | apply below_alloc | apply pw_below_drewN | apply below_drew1 | refine below_set ?_ GE271.out | refine below_set ?_ GE272.out | refine below_set ?_ GE285.out) | exact HB.out))); (case side2 => exact HC0_0.out); (case side3 => exact Kd.C_below HR0_1.out (by repeat (first | (with_reducible first | exact HB.out | apply below_alloc | apply pw_below_drewN | apply below_drew1 | refine below_set ?_ GE271.out | refine below_set ?_ GE272.out | refine below_set ?_ GE285.out) | exact HB.out))); (case side4 => exact HC0_1.out); rintro e w44 ⟨rfl, hb⟩; refine ⟨_, rfl, ?_⟩; have n0_ := Aside0.mk (Kd.R_below (by (with_reducible repeat (first | apply Kd.R_alloc | apply Kd.R_drewN | apply Kd.R_drew)); exact (Kd.R_mono (Kd.R_far (p := ⟨gb285, 1, none⟩) (Kd.R_far (p := ⟨gb285, 0, none⟩) (Kd.R_types HO278.out BK285.out (by decide)) (fun _ hk => hk.2) (.slice Ao38 t279.length co38)) (fun _ hk => hk.2) (.slice Ao42 t282.length co42)) (fun _ h_ => h_.1))) hb); have n1_ := Aside0.mk (Kd.R_below (by (with_reducible repeat (first | apply Kd.R_alloc | apply Kd.R_drewN | apply Kd.R_drew)); exact (Kd.R_mono (Kd.R_far (p := ⟨gb285, 1, none⟩) (Kd.R_far (p := ⟨gb285, 0, none⟩) (Kd.R_types HO281.out BK285.out (by decide)) (fun _ hk => hk.2) (.slice Ao38 t279.length co38)) (fun _ hk => hk.2) (.slice Ao42 t282.length co42)) (fun _ h_ => h_.1))) hb); have n2_ := Aside0.mk (Kd.R_below (by (with_reducible repeat (first | apply Kd.R_alloc | apply Kd.R_drewN | apply Kd.R_drew)); exact (Kd.R_mono (Kd.R_far (p := ⟨gb285, 1, none⟩) (Kd.R_far (p := ⟨gb285, 0, none⟩) (Kd.R_types HO284.out BK285.out (by decide)) (fun _ hk => hk.2) (.slice Ao38 t279.length co38)) (fun _ hk => hk.2) (.slice Ao42 t282.length co42)) (fun _ h_ => h_.1))) hb); have n3_ := Aside0.mk (blk_below (g := gb271) (o := .cells #[.slice A0_0 l0_0.length c0_0, .slice A0_1 l0_1.length c0_1] 24 (0, 0)) (by (with_reducible repeat (first | refine blk_drewN ?_ _ | refine blk_drew ?_ | refine blk_alloc ?_ _)); refine blk_far ?_ NB271_285.out _; (with_reducible repeat (first | refine blk_drewN ?_ _ | refine blk_drew ?_ | refine blk_alloc ?_ _)); refine blk_far ?_ NB271_285.out _; (with_reducible repeat (first | refine blk_drewN ?_ _ | refine blk_drew ?_ | refine blk_alloc ?_ _)); exact BK271.out) hb); have n4_ := Aside0.mk (blk_below (g := gb272) (o := .cells #[.string a2_0, .string a2_1, .string a2_2, .string a2_3, .string a2_4, .string a2_5, .string a2_6, .string a2_7, .int .i64 a2_8, .int .i64 a2_9, .int .i64 a2_10, .int .i64 a2_11, .int .i64 a2_12, .int .i64 a2_13, .int .i64 a2_14, .bool a2_15, .bool a2_16, .slice A2_17 l2_17.length c2_17] 42 (0, 0)) (by (with_reducible repeat (first | refine blk_drewN ?_ _ | refine blk_drew ?_ | refine blk_alloc ?_ _)); refine blk_far ?_ NB272_285.out _; (with_reducible repeat (first | refine blk_drewN ?_ _ | refine blk_drew ?_ | refine blk_alloc ?_ _)); refine blk_far ?_ NB272_285.out _; (with_reducible repeat (first | refine blk_drewN ?_ _ | refine blk_drew ?_ | refine blk_alloc ?_ _)); exact BK272.out) hb); have n5_ := Aside0.mk (blk_below (g := gb285) (o := .cells #[.slice Ao38 t279.length co38, .slice Ao42 t282.length co42] 24 (0, 0)) (by (with_reducible repeat (first | refine blk_drewN ?_ _ | refine blk_drew ?_ | refine blk_alloc ?_ _)); refine blk_put (cs := #[.slice Ao38 t279.length co38, .slice none 0 0]) ?_ 1 _ rfl; (with_reducible repeat (first | refine blk_drewN ?_ _ | refine blk_drew ?_ | refine blk_alloc ?_ _)); refine blk_put (cs := #[.slice none 0 0, .slice none 0 0]) ?_ 0 _ rfl; (with_reducible repeat (first | refine blk_drewN ?_ _ | refine blk_drew ?_ | refine blk_alloc ?_ _)); exact BK285.out) hb); have n6_ := Aside0.mk (below_step (by repeat (first | (with_reducible first | exact HB.out | apply below_alloc | apply pw_below_drewN | apply below_drew1 | refine below_set ?_ GE271.out | refine below_set ?_ GE272.out | refine below_set ?_ GE285.out) | exact HB.out)) hb); clear HO278; clear HO281; clear HO284; clear BK271; clear BK272; clear BK285; clear HB; have HO278 := n0_; have HO281 := n1_; have HO284 := n2_; have BK271 := n3_; have BK272 := n4_; have BK285 := n5_; have HB := n6_; clear n0_ n1_ n2_ n3_ n4_ n5_ n6_; (try clear hb); (try clear hb2); (try clear hk); (try clear hi); have hcz45_0 : w44.cell? ⟨gb285, 0, none⟩ = some (.slice Ao38 t279.length co38) := (blk_cell BK285.out 0).trans rfl; have hcz45_1 : w44.cell? ⟨gb285, 1, none⟩ = some (.slice Ao42 t282.length co42) := (blk_cell BK285.out 1).trans rfl; have hfz45_0 := blk_frozen BK285.out 0; have hfz45_1 := blk_frozen BK285.out 1) | ((with_reducible refine gate_callee (f := 10) rfl ?_); refine goesL_ (some 47) rfl rfl Try.func10 (by kernel_rfl) rfl #[.agg #[.slice Ao38 t279.length co38, .slice Ao42 t282.length co42], .int .i64 a4] rfl (by (try simp only [List.map_toArray, List.map_cons, List.map_nil]); first | done | rfl | (simp only [List.length_drop, List.length_take]; rfl)) ?_; (with_reducible refine (notice_Deadline.calls kj8 _ _ t279 _ _ t282 a4 t288 t289 _ ?side1 ?side2 ?side3 ?side4 A27.out).mono ?_); (case side1 => repeat (first | exact (Kd.R_reads' HO281.out).2.2 | (with_reducible refine Kd.C_alloc ?_ _) | (with_reducible refine Kd.C_drewN ?_ _) | (with_reducible refine Kd.C_drew ?_))); (case side2 => exact (Kd.R_reads' HO281.out).2.1); (case side3 => repeat (first | exact (Kd.R_reads' HO284.out).2.2 | (with_reducible refine Kd.C_alloc ?_ _) | (with_reducible refine Kd.C_drewN ?_ _) | (with_reducible refine Kd.C_drew ?_))); (case side4 => exact (Kd.R_reads' HO284.out).2.1); rintro e w46 ⟨rfl, hb⟩; refine ⟨_, rfl, ?_⟩; have n0_ := Aside0.mk (Kd.R_below (by (with_reducible repeat (first | apply Kd.R_alloc | apply Kd.R_drewN | apply Kd.R_drew)); exact HO278.out) hb); have n1_ := Aside0.mk (Kd.R_below (by (with_reducible repeat (first | apply Kd.R_alloc | apply Kd.R_drewN | apply Kd.R_drew)); exact HO281.out) hb); have n2_ := Aside0.mk (Kd.R_below (by (with_reducible repeat (first | apply Kd.R_alloc | apply Kd.R_drewN | apply Kd.R_drew)); exact HO284.out) hb); have n3_ := Aside0.mk (blk_below (g := gb271) (o := .cells #[.slice A0_0 l0_0.length c0_0, .slice A0_1 l0_1.length c0_1] 24 (0, 0)) (by (with_reducible repeat (first | refine blk_drewN ?_ _ | refine blk_drew ?_ | refine blk_alloc ?_ _)); exact BK271.out) hb); have n4_ := Aside0.mk (blk_below (g := gb272) (o := .cells #[.string a2_0, .string a2_1, .string a2_2, .string a2_3, .string a2_4, .string a2_5, .string a2_6, .string a2_7, .int .i64 a2_8, .int .i64 a2_9, .int .i64 a2_10, .int .i64 a2_11, .int .i64 a2_12, .int .i64 a2_13, .int .i64 a2_14, .bool a2_15, .bool a2_16, .slice A2_17 l2_17.length c2_17] 42 (0, 0)) (by (with_reducible repeat (first | refine blk_drewN ?_ _ | refine blk_drew ?_ | refine blk_alloc ?_ _)); exact BK272.out) hb); have n5_ := Aside0.mk (blk_below (g := gb285) (o := .cells #[.slice Ao38 t279.length co38, .slice Ao42 t282.length co42] 24 (0, 0)) (by (with_reducible repeat (first | refine blk_drewN ?_ _ | refine blk_drew ?_ | refine blk_alloc ?_ _)); exact BK285.out) hb); have n6_ := Aside0.mk (below_step (by repeat (first | (with_reducible first | exact HB.out | apply below_alloc | apply pw_below_drewN | apply below_drew1 | refine below_set ?_ GE271.out | refine below_set ?_ GE272.out | refine below_set ?_ GE285.out) | exact HB.out)) hb); clear HO278; clear HO281; clear HO284; clear BK271; clear BK272; clear BK285; clear HB; have HO278 := n0_; have HO281 := n1_; have HO284 := n2_; have BK271 := n3_; have BK272 := n4_; have BK285 := n5_; have HB := n6_; clear n0_ n1_ n2_ n3_ n4_ n5_ n6_; (try clear hb); (try clear hb2); (try clear hk); (try clear hi); have hcz47_0 : w46.cell? ⟨gb271, 0, none⟩ = some (.slice A0_0 l0_0.length c0_0) := (blk_cell BK271.out 0).trans rfl; have hcz47_1 : w46.cell? ⟨gb271, 1, none⟩ = some (.slice A0_1 l0_1.length c0_1) := (blk_cell BK271.out 1).trans rfl; have hfz47_0 := blk_frozen BK271.out 0; have hfz47_1 := blk_frozen BK271.out 1) | ((with_reducible refine gate_callee (f := 16) rfl ?_); refine goesL_ (some 53) rfl rfl Try.func16 (by kernel_rfl) rfl #[.agg #[.slice A0_0 l0_0.length c0_0, .slice A0_1 l0_1.length c0_1], .int .i64 a4] rfl (by (try simp only [List.map_toArray, List.map_cons, List.map_nil]); first | done | rfl | (simp only [List.length_drop, List.length_take]; rfl)) ?_; (with_reducible refine (notice_Expiry.calls kj8 _ _ l0_0 _ _ l0_1 a4 t290 t291 _ ?side1 ?side2 ?side3 ?side4 A28.out).mono ?_); (case side1 => repeat (first | exact (Kd.C_below HR0_0.out HB.out) | (with_reducible refine Kd.C_alloc ?_ _) | (with_reducible refine Kd.C_drewN ?_ _) | (with_reducible refine Kd.C_drew ?_))); (case side2 => exact HC0_0.out); (case side3 => repeat (first | exact (Kd.C_below HR0_1.out HB.out) | (with_reducible refine Kd.C_alloc ?_ _) | (with_reducible refine Kd.C_drewN ?_ _) | (with_reducible refine Kd.C_drew ?_))); (case side4 => exact HC0_1.out); rintro e w48 ⟨rfl, hb⟩; refine ⟨_, rfl, ?_⟩; have n0_ := Aside0.mk (Kd.R_below (by (with_reducible repeat (first | apply Kd.R_alloc | apply Kd.R_drewN | apply Kd.R_drew)); exact HO278.out) hb); have n1_ := Aside0.mk (Kd.R_below (by (with_reducible repeat (first | apply Kd.R_alloc | apply Kd.R_drewN | apply Kd.R_drew)); exact HO281.out) hb); have n2_ := Aside0.mk (Kd.R_below (by (with_reducible repeat (first | apply Kd.R_alloc | apply Kd.R_drewN | apply Kd.R_drew)); exact HO284.out) hb); have n3_ := Aside0.mk (blk_below (g := gb271) (o := .cells #[.slice A0_0 l0_0.length c0_0, .slice A0_1 l0_1.length c0_1] 24 (0, 0)) (by (with_reducible repeat (first | refine blk_drewN ?_ _ | refine blk_drew ?_ | refine blk_alloc ?_ _)); exact BK271.out) hb); have n4_ := Aside0.mk (blk_below (g := gb272) (o := .cells #[.string a2_0, .string a2_1, .string a2_2, .string a2_3, .string a2_4, .string a2_5, .string a2_6, .string a2_7, .int .i64 a2_8, .int .i64 a2_9, .int .i64 a2_10, .int .i64 a2_11, .int .i64 a2_12, .int .i64 a2_13, .int .i64 a2_14, .bool a2_15, .bool a2_16, .slice A2_17 l2_17.length c2_17] 42 (0, 0)) (by (with_reducible repeat (first | refine blk_drewN ?_ _ | refine blk_drew ?_ | refine blk_alloc ?_ _)); exact BK272.out) hb); have n5_ := Aside0.mk (blk_below (g := gb285) (o := .cells #[.slice Ao38 t279.length co38, .slice Ao42 t282.length co42] 24 (0, 0)) (by (with_reducible repeat (first | refine blk_drewN ?_ _ | refine blk_drew ?_ | refine blk_alloc ?_ _)); exact BK285.out) hb); have n6_ := Aside0.mk (below_step (by repeat (first | (with_reducible first | exact HB.out | apply below_alloc | apply pw_below_drewN | apply below_drew1 | refine below_set ?_ GE271.out | refine below_set ?_ GE272.out | refine below_set ?_ GE285.out) | exact HB.out)) hb); clear HO278; clear HO281; clear HO284; clear BK271; clear BK272; clear BK285; clear HB; have HO278 := n0_; have HO281 := n1_; have HO284 := n2_; have BK271 := n3_; have BK272 := n4_; have BK285 := n5_; have HB := n6_; clear n0_ n1_ n2_ n3_ n4_ n5_ n6_; (try clear hb); (try clear hb2); (try clear hk); (try clear hi); have hcz49_0 : w48.cell? ⟨gb285, 0, none⟩ = some (.slice Ao38 t279.length co38) := (blk_cell BK285.out 0).trans rfl; have hcz49_1 : w48.cell? ⟨gb285, 1, none⟩ = some (.slice Ao42 t282.length co42) := (blk_cell BK285.out 1).trans rfl; have hfz49_0 := blk_frozen BK285.out 0; have hfz49_1 := blk_frozen BK285.out 1) | ((with_reducible refine gate_callee (f := 16) rfl ?_); refine goesL_ (some 59) rfl rfl Try.func16 (by kernel_rfl) rfl #[.agg #[.slice Ao38 t279.length co38, .slice Ao42 t282.length co42], .int .i64 a4] rfl (by (try simp only [List.map_toArray, List.map_cons, List.map_nil]); first | done | rfl | (simp only [List.length_drop, List.length_take]; rfl)) ?_; (with_reducible refine (notice_Expiry.calls kj8 _ _ t279 _ _ t282 a4 t292 t293 _ ?side1 ?side2 ?side3 ?side4 A29.out).mono ?_); (case side1 => repeat (first | exact (Kd.R_reads' HO281.out).2.2 | (with_reducible refine Kd.C_alloc ?_ _) | (with_reducible refine Kd.C_drewN ?_ _) | (with_reducible refine Kd.C_drew ?_))); (case side2 => exact (Kd.R_reads' HO281.out).2.1); (case side3 => repeat (first | exact (Kd.R_reads' HO284.out).2.2 | (with_reducible refine Kd.C_alloc ?_ _) | (with_reducible refine Kd.C_drewN ?_ _) | (with_reducible refine Kd.C_drew ?_))); (case side4 => exact (Kd.R_reads' HO284.out).2.1); rintro e w50 ⟨rfl, hb⟩; refine ⟨_, rfl, ?_⟩; have n0_ := Aside0.mk (Kd.R_below (by (with_reducible repeat (first | apply Kd.R_alloc | apply Kd.R_drewN | apply Kd.R_drew)); exact HO278.out) hb); have n1_ := Aside0.mk (Kd.R_below (by (with_reducible repeat (first | apply Kd.R_alloc | apply Kd.R_drewN | apply Kd.R_drew)); exact HO281.out) hb); have n2_ := Aside0.mk (Kd.R_below (by (with_reducible repeat (first | apply Kd.R_alloc | apply Kd.R_drewN | apply Kd.R_drew)); exact HO284.out) hb); have n3_ := Aside0.mk (blk_below (g := gb271) (o := .cells #[.slice A0_0 l0_0.length c0_0, .slice A0_1 l0_1.length c0_1] 24 (0, 0)) (by (with_reducible repeat (first | refine blk_drewN ?_ _ | refine blk_drew ?_ | refine blk_alloc ?_ _)); exact BK271.out) hb); have n4_ := Aside0.mk (blk_below (g := gb272) (o := .cells #[.string a2_0, .string a2_1, .string a2_2, .string a2_3, .string a2_4, .string a2_5, .string a2_6, .string a2_7, .int .i64 a2_8, .int .i64 a2_9, .int .i64 a2_10, .int .i64 a2_11, .int .i64 a2_12, .int .i64 a2_13, .int .i64 a2_14, .bool a2_15, .bool a2_16, .slice A2_17 l2_17.length c2_17] 42 (0, 0)) (by (with_reducible repeat (first | refine blk_drewN ?_ _ | refine blk_drew ?_ | refine blk_alloc ?_ _)); exact BK272.out) hb); have n5_ := Aside0.mk (blk_below (g := gb285) (o := .cells #[.slice Ao38 t279.length co38, .slice Ao42 t282.length co42] 24 (0, 0)) (by (with_reducible repeat (first | refine blk_drewN ?_ _ | refine blk_drew ?_ | refine blk_alloc ?_ _)); exact BK285.out) hb); have n6_ := Aside0.mk (below_step (by repeat (first | (with_reducible first | exact HB.out | apply below_alloc | apply pw_below_drewN | apply below_drew1 | refine below_set ?_ GE271.out | refine below_set ?_ GE272.out | refine below_set ?_ GE285.out) | exact HB.out)) hb); clear HO278; clear HO281; clear HO284; clear BK271; clear BK272; clear BK285; clear HB; have HO278 := n0_; have HO281 := n1_; have HO284 := n2_; have BK271 := n3_; have BK272 := n4_; have BK285 := n5_; have HB := n6_; clear n0_ n1_ n2_ n3_ n4_ n5_ n6_; (try clear hb); (try clear hb2); (try clear hk); (try clear hi)))
     (try simp only [Act.put, List.setIfInBounds_toArray, List.set_cons_zero, List.set_cons_succ])
     go_cut [83] (fun v83 wc => ∃ (kq : Nat) (x83_29 : Bool), v83 = .bool x83_29 ∧ Aside0 (supercargolaw35_NoticeHoliday.j1 kq a3 a4 a5 t289 x83_29 l0_0 l0_1 a2_0 a2_1 a2_2 a2_3 a2_4 a2_5 a2_6 a2_7 a2_8 a2_9 a2_10 a2_11 a2_12 a2_13 a2_14 a2_15 a2_16 l2_17 t279 t282 = some r) ∧ Aside0 (kq ≤ kj8) ∧ Aside0 (Kd.R (Kd.int .i64) 3 wc w.heap.size (fun k_ => some k_ ≠ ((.slice Ao42 t282.length co42) : Value).ownBlock) (.slice Ao38 t279.length co38) t279) ∧ Aside0 (Kd.R (Kd.int .i64) 3 wc w.heap.size (fun k_ => some k_ ≠ ((.slice Ao38 t279.length co38) : Value).ownBlock) (.slice Ao42 t282.length co42) t282) ∧ Aside0 (wc.heap[gb271]? = some (.cells #[(.slice A0_0 l0_0.length c0_0), (.slice A0_1 l0_1.length c0_1)] 24 (0, 0))) ∧ Aside0 (wc.heap[gb272]? = some (.cells #[.string a2_0, .string a2_1, .string a2_2, .string a2_3, .string a2_4, .string a2_5, .string a2_6, .string a2_7, .int .i64 a2_8, .int .i64 a2_9, .int .i64 a2_10, .int .i64 a2_11, .int .i64 a2_12, .int .i64 a2_13, .int .i64 a2_14, .bool a2_15, .bool a2_16, (.slice A2_17 l2_17.length c2_17)] 42 (0, 0))) ∧ Aside0 (wc.heap[gb285]? = some (.cells #[(.slice Ao38 t279.length co38), (.slice Ao42 t282.length co42)] 24 (0, 0))) ∧ Aside0 (Below w.heap.size w wc))
     case first =>
      have H := HC30.out
      clear HC30
      by_cases c51 : t289 = true
      ·subst c51
       have H1 : (if t287 = true then (if t288 < t286 then (supercargolaw35_NoticeHoliday.j1 kj8 a3 a4 a5 true true l0_0 l0_1 a2_0 a2_1 a2_2 a2_3 a2_4 a2_5 a2_6 a2_7 a2_8 a2_9 a2_10 a2_11 a2_12 a2_13 a2_14 a2_15 a2_16 l2_17 t279 t282) else (if t293 = true then (if t291 = true then (supercargolaw35_NoticeHoliday.j1 kj8 a3 a4 a5 true (decide (t292 < t290)) l0_0 l0_1 a2_0 a2_1 a2_2 a2_3 a2_4 a2_5 a2_6 a2_7 a2_8 a2_9 a2_10 a2_11 a2_12 a2_13 a2_14 a2_15 a2_16 l2_17 t279 t282) else (supercargolaw35_NoticeHoliday.j1 kj8 a3 a4 a5 true true l0_0 l0_1 a2_0 a2_1 a2_2 a2_3 a2_4 a2_5 a2_6 a2_7 a2_8 a2_9 a2_10 a2_11 a2_12 a2_13 a2_14 a2_15 a2_16 l2_17 t279 t282)) else (supercargolaw35_NoticeHoliday.j1 kj8 a3 a4 a5 true false l0_0 l0_1 a2_0 a2_1 a2_2 a2_3 a2_4 a2_5 a2_6 a2_7 a2_8 a2_9 a2_10 a2_11 a2_12 a2_13 a2_14 a2_15 a2_16 l2_17 t279 t282))) else (supercargolaw35_NoticeHoliday.j1 kj8 a3 a4 a5 true true l0_0 l0_1 a2_0 a2_1 a2_2 a2_3 a2_4 a2_5 a2_6 a2_7 a2_8 a2_9 a2_10 a2_11 a2_12 a2_13 a2_14 a2_15 a2_16 l2_17 t279 t282)) = some r := by rw [if_pos rfl] at H; exact H
       clear H
       have H := H1
       clear H1
       by_cases c52 : t287 = true
       ·subst c52
        have H1 : (if t288 < t286 then (supercargolaw35_NoticeHoliday.j1 kj8 a3 a4 a5 true true l0_0 l0_1 a2_0 a2_1 a2_2 a2_3 a2_4 a2_5 a2_6 a2_7 a2_8 a2_9 a2_10 a2_11 a2_12 a2_13 a2_14 a2_15 a2_16 l2_17 t279 t282) else (if t293 = true then (if t291 = true then (supercargolaw35_NoticeHoliday.j1 kj8 a3 a4 a5 true (decide (t292 < t290)) l0_0 l0_1 a2_0 a2_1 a2_2 a2_3 a2_4 a2_5 a2_6 a2_7 a2_8 a2_9 a2_10 a2_11 a2_12 a2_13 a2_14 a2_15 a2_16 l2_17 t279 t282) else (supercargolaw35_NoticeHoliday.j1 kj8 a3 a4 a5 true true l0_0 l0_1 a2_0 a2_1 a2_2 a2_3 a2_4 a2_5 a2_6 a2_7 a2_8 a2_9 a2_10 a2_11 a2_12 a2_13 a2_14 a2_15 a2_16 l2_17 t279 t282)) else (supercargolaw35_NoticeHoliday.j1 kj8 a3 a4 a5 true false l0_0 l0_1 a2_0 a2_1 a2_2 a2_3 a2_4 a2_5 a2_6 a2_7 a2_8 a2_9 a2_10 a2_11 a2_12 a2_13 a2_14 a2_15 a2_16 l2_17 t279 t282))) = some r := by rw [if_pos rfl] at H; exact H
        clear H
        have H := H1
        clear H1
        by_cases c53 : t288 < t286
        ·rw [if_pos c53] at H
         have c53b0 : decide (t288 < t286) = true := decide_eq_true c53
         clear c53
         (first | rw [c53b0] | (simp only [i64_w, i32_w]; rw [c53b0]) | skip)
         have H' := Aside0.mk H
         clear H
         go_wp2
         go_meet
         case rel => exact ⟨_, (true), (by first | rfl | (simp; done) | (simp [*]; done)), H', ⟨by have := HJ8.out; first | omega | exact Nat.le_refl _⟩, ⟨by (with_reducible repeat (first | apply Kd.R_alloc | apply Kd.R_drewN | apply Kd.R_drew)); exact Kd.R_mono HO281.out (fun _ hk => hk.1)⟩, ⟨by (with_reducible repeat (first | apply Kd.R_alloc | apply Kd.R_drewN | apply Kd.R_drew)); exact Kd.R_mono HO284.out (fun _ hk => hk.1)⟩, ⟨by (with_reducible repeat (first | refine blk_drewN ?_ _ | refine blk_drew ?_ | refine blk_alloc ?_ _)); exact BK271.out⟩, ⟨by (with_reducible repeat (first | refine blk_drewN ?_ _ | refine blk_drew ?_ | refine blk_alloc ?_ _)); exact BK272.out⟩, ⟨by (with_reducible repeat (first | refine blk_drewN ?_ _ | refine blk_drew ?_ | refine blk_alloc ?_ _)); exact BK285.out⟩, ⟨by repeat (first | (with_reducible first | exact HB.out | apply below_alloc | apply pw_below_drewN | apply below_drew1 | refine below_set ?_ GE271.out | refine below_set ?_ GE272.out | refine below_set ?_ GE285.out) | exact HB.out)⟩⟩
        ·rw [if_neg c53] at H
         have c53b0 : decide (t288 < t286) = false := decide_eq_false c53
         clear c53
         (first | rw [c53b0] | (simp only [i64_w, i32_w]; rw [c53b0]) | skip)
         by_cases c54 : t293 = true
         ·subst c54
          have H1 : (if t291 = true then (supercargolaw35_NoticeHoliday.j1 kj8 a3 a4 a5 true (decide (t292 < t290)) l0_0 l0_1 a2_0 a2_1 a2_2 a2_3 a2_4 a2_5 a2_6 a2_7 a2_8 a2_9 a2_10 a2_11 a2_12 a2_13 a2_14 a2_15 a2_16 l2_17 t279 t282) else (supercargolaw35_NoticeHoliday.j1 kj8 a3 a4 a5 true true l0_0 l0_1 a2_0 a2_1 a2_2 a2_3 a2_4 a2_5 a2_6 a2_7 a2_8 a2_9 a2_10 a2_11 a2_12 a2_13 a2_14 a2_15 a2_16 l2_17 t279 t282)) = some r := by rw [if_pos rfl] at H; exact H
          clear H
          have H := H1
          clear H1
          by_cases c55 : t291 = true
          ·subst c55
           have H1 : (supercargolaw35_NoticeHoliday.j1 kj8 a3 a4 a5 true (decide (t292 < t290)) l0_0 l0_1 a2_0 a2_1 a2_2 a2_3 a2_4 a2_5 a2_6 a2_7 a2_8 a2_9 a2_10 a2_11 a2_12 a2_13 a2_14 a2_15 a2_16 l2_17 t279 t282) = some r := by rw [if_pos rfl] at H; exact H
           clear H
           have H := H1
           clear H1
           have H' := Aside0.mk H
           clear H
           go_wp2
           go_meet
           case rel => exact ⟨_, (decide (t292 < t290)), (by first | rfl | (simp; done) | (simp [*]; done)), H', ⟨by have := HJ8.out; first | omega | exact Nat.le_refl _⟩, ⟨by (with_reducible repeat (first | apply Kd.R_alloc | apply Kd.R_drewN | apply Kd.R_drew)); exact Kd.R_mono HO281.out (fun _ hk => hk.1)⟩, ⟨by (with_reducible repeat (first | apply Kd.R_alloc | apply Kd.R_drewN | apply Kd.R_drew)); exact Kd.R_mono HO284.out (fun _ hk => hk.1)⟩, ⟨by (with_reducible repeat (first | refine blk_drewN ?_ _ | refine blk_drew ?_ | refine blk_alloc ?_ _)); exact BK271.out⟩, ⟨by (with_reducible repeat (first | refine blk_drewN ?_ _ | refine blk_drew ?_ | refine blk_alloc ?_ _)); exact BK272.out⟩, ⟨by (with_reducible repeat (first | refine blk_drewN ?_ _ | refine blk_drew ?_ | refine blk_alloc ?_ _)); exact BK285.out⟩, ⟨by repeat (first | (with_reducible first | exact HB.out | apply below_alloc | apply pw_below_drewN | apply below_drew1 | refine below_set ?_ GE271.out | refine below_set ?_ GE272.out | refine below_set ?_ GE285.out) | exact HB.out)⟩⟩
          ·replace c55 := Bool.eq_false_iff.mpr c55
           subst c55
           have H1 : (supercargolaw35_NoticeHoliday.j1 kj8 a3 a4 a5 true true l0_0 l0_1 a2_0 a2_1 a2_2 a2_3 a2_4 a2_5 a2_6 a2_7 a2_8 a2_9 a2_10 a2_11 a2_12 a2_13 a2_14 a2_15 a2_16 l2_17 t279 t282) = some r := by rw [if_neg (show ¬ (false = true) by decide)] at H; exact H
           clear H
           have H := H1
           clear H1
           have H' := Aside0.mk H
           clear H
           go_wp2
           go_meet
           case rel => exact ⟨_, (true), (by first | rfl | (simp; done) | (simp [*]; done)), H', ⟨by have := HJ8.out; first | omega | exact Nat.le_refl _⟩, ⟨by (with_reducible repeat (first | apply Kd.R_alloc | apply Kd.R_drewN | apply Kd.R_drew)); exact Kd.R_mono HO281.out (fun _ hk => hk.1)⟩, ⟨by (with_reducible repeat (first | apply Kd.R_alloc | apply Kd.R_drewN | apply Kd.R_drew)); exact Kd.R_mono HO284.out (fun _ hk => hk.1)⟩, ⟨by (with_reducible repeat (first | refine blk_drewN ?_ _ | refine blk_drew ?_ | refine blk_alloc ?_ _)); exact BK271.out⟩, ⟨by (with_reducible repeat (first | refine blk_drewN ?_ _ | refine blk_drew ?_ | refine blk_alloc ?_ _)); exact BK272.out⟩, ⟨by (with_reducible repeat (first | refine blk_drewN ?_ _ | refine blk_drew ?_ | refine blk_alloc ?_ _)); exact BK285.out⟩, ⟨by repeat (first | (with_reducible first | exact HB.out | apply below_alloc | apply pw_below_drewN | apply below_drew1 | refine below_set ?_ GE271.out | refine below_set ?_ GE272.out | refine below_set ?_ GE285.out) | exact HB.out)⟩⟩
         ·replace c54 := Bool.eq_false_iff.mpr c54
          subst c54
          have H1 : (supercargolaw35_NoticeHoliday.j1 kj8 a3 a4 a5 true false l0_0 l0_1 a2_0 a2_1 a2_2 a2_3 a2_4 a2_5 a2_6 a2_7 a2_8 a2_9 a2_10 a2_11 a2_12 a2_13 a2_14 a2_15 a2_16 l2_17 t279 t282) = some r := by rw [if_neg (show ¬ (false = true) by decide)] at H; exact H
          clear H
          have H := H1
          clear H1
          have H' := Aside0.mk H
          clear H
          go_wp2
          go_meet
          case rel => exact ⟨_, (false), (by first | rfl | (simp; done) | (simp [*]; done)), H', ⟨by have := HJ8.out; first | omega | exact Nat.le_refl _⟩, ⟨by (with_reducible repeat (first | apply Kd.R_alloc | apply Kd.R_drewN | apply Kd.R_drew)); exact Kd.R_mono HO281.out (fun _ hk => hk.1)⟩, ⟨by (with_reducible repeat (first | apply Kd.R_alloc | apply Kd.R_drewN | apply Kd.R_drew)); exact Kd.R_mono HO284.out (fun _ hk => hk.1)⟩, ⟨by (with_reducible repeat (first | refine blk_drewN ?_ _ | refine blk_drew ?_ | refine blk_alloc ?_ _)); exact BK271.out⟩, ⟨by (with_reducible repeat (first | refine blk_drewN ?_ _ | refine blk_drew ?_ | refine blk_alloc ?_ _)); exact BK272.out⟩, ⟨by (with_reducible repeat (first | refine blk_drewN ?_ _ | refine blk_drew ?_ | refine blk_alloc ?_ _)); exact BK285.out⟩, ⟨by repeat (first | (with_reducible first | exact HB.out | apply below_alloc | apply pw_below_drewN | apply below_drew1 | refine below_set ?_ GE271.out | refine below_set ?_ GE272.out | refine below_set ?_ GE285.out) | exact HB.out)⟩⟩
       ·replace c52 := Bool.eq_false_iff.mpr c52
        subst c52
        have H1 : (supercargolaw35_NoticeHoliday.j1 kj8 a3 a4 a5 true true l0_0 l0_1 a2_0 a2_1 a2_2 a2_3 a2_4 a2_5 a2_6 a2_7 a2_8 a2_9 a2_10 a2_11 a2_12 a2_13 a2_14 a2_15 a2_16 l2_17 t279 t282) = some r := by rw [if_neg (show ¬ (false = true) by decide)] at H; exact H
        clear H
        have H := H1
        clear H1
        have H' := Aside0.mk H
        clear H
        go_wp2
        go_meet
        case rel => exact ⟨_, (true), (by first | rfl | (simp; done) | (simp [*]; done)), H', ⟨by have := HJ8.out; first | omega | exact Nat.le_refl _⟩, ⟨by (with_reducible repeat (first | apply Kd.R_alloc | apply Kd.R_drewN | apply Kd.R_drew)); exact Kd.R_mono HO281.out (fun _ hk => hk.1)⟩, ⟨by (with_reducible repeat (first | apply Kd.R_alloc | apply Kd.R_drewN | apply Kd.R_drew)); exact Kd.R_mono HO284.out (fun _ hk => hk.1)⟩, ⟨by (with_reducible repeat (first | refine blk_drewN ?_ _ | refine blk_drew ?_ | refine blk_alloc ?_ _)); exact BK271.out⟩, ⟨by (with_reducible repeat (first | refine blk_drewN ?_ _ | refine blk_drew ?_ | refine blk_alloc ?_ _)); exact BK272.out⟩, ⟨by (with_reducible repeat (first | refine blk_drewN ?_ _ | refine blk_drew ?_ | refine blk_alloc ?_ _)); exact BK285.out⟩, ⟨by repeat (first | (with_reducible first | exact HB.out | apply below_alloc | apply pw_below_drewN | apply below_drew1 | refine below_set ?_ GE271.out | refine below_set ?_ GE272.out | refine below_set ?_ GE285.out) | exact HB.out)⟩⟩
      ·replace c51 := Bool.eq_false_iff.mpr c51
       subst c51
       have H1 : (if t293 = true then (if t291 = true then (supercargolaw35_NoticeHoliday.j1 kj8 a3 a4 a5 false (decide (t292 < t290)) l0_0 l0_1 a2_0 a2_1 a2_2 a2_3 a2_4 a2_5 a2_6 a2_7 a2_8 a2_9 a2_10 a2_11 a2_12 a2_13 a2_14 a2_15 a2_16 l2_17 t279 t282) else (supercargolaw35_NoticeHoliday.j1 kj8 a3 a4 a5 false true l0_0 l0_1 a2_0 a2_1 a2_2 a2_3 a2_4 a2_5 a2_6 a2_7 a2_8 a2_9 a2_10 a2_11 a2_12 a2_13 a2_14 a2_15 a2_16 l2_17 t279 t282)) else (supercargolaw35_NoticeHoliday.j1 kj8 a3 a4 a5 false false l0_0 l0_1 a2_0 a2_1 a2_2 a2_3 a2_4 a2_5 a2_6 a2_7 a2_8 a2_9 a2_10 a2_11 a2_12 a2_13 a2_14 a2_15 a2_16 l2_17 t279 t282)) = some r := by rw [if_neg (show ¬ (false = true) by decide)] at H; exact H
       clear H
       have H := H1
       clear H1
       by_cases c56 : t293 = true
       ·subst c56
        have H1 : (if t291 = true then (supercargolaw35_NoticeHoliday.j1 kj8 a3 a4 a5 false (decide (t292 < t290)) l0_0 l0_1 a2_0 a2_1 a2_2 a2_3 a2_4 a2_5 a2_6 a2_7 a2_8 a2_9 a2_10 a2_11 a2_12 a2_13 a2_14 a2_15 a2_16 l2_17 t279 t282) else (supercargolaw35_NoticeHoliday.j1 kj8 a3 a4 a5 false true l0_0 l0_1 a2_0 a2_1 a2_2 a2_3 a2_4 a2_5 a2_6 a2_7 a2_8 a2_9 a2_10 a2_11 a2_12 a2_13 a2_14 a2_15 a2_16 l2_17 t279 t282)) = some r := by rw [if_pos rfl] at H; exact H
        clear H
        have H := H1
        clear H1
        by_cases c57 : t291 = true
        ·subst c57
         have H1 : (supercargolaw35_NoticeHoliday.j1 kj8 a3 a4 a5 false (decide (t292 < t290)) l0_0 l0_1 a2_0 a2_1 a2_2 a2_3 a2_4 a2_5 a2_6 a2_7 a2_8 a2_9 a2_10 a2_11 a2_12 a2_13 a2_14 a2_15 a2_16 l2_17 t279 t282) = some r := by rw [if_pos rfl] at H; exact H
         clear H
         have H := H1
         clear H1
         have H' := Aside0.mk H
         clear H
         go_wp2
         go_meet
         case rel => exact ⟨_, (decide (t292 < t290)), (by first | rfl | (simp; done) | (simp [*]; done)), H', ⟨by have := HJ8.out; first | omega | exact Nat.le_refl _⟩, ⟨by (with_reducible repeat (first | apply Kd.R_alloc | apply Kd.R_drewN | apply Kd.R_drew)); exact Kd.R_mono HO281.out (fun _ hk => hk.1)⟩, ⟨by (with_reducible repeat (first | apply Kd.R_alloc | apply Kd.R_drewN | apply Kd.R_drew)); exact Kd.R_mono HO284.out (fun _ hk => hk.1)⟩, ⟨by (with_reducible repeat (first | refine blk_drewN ?_ _ | refine blk_drew ?_ | refine blk_alloc ?_ _)); exact BK271.out⟩, ⟨by (with_reducible repeat (first | refine blk_drewN ?_ _ | refine blk_drew ?_ | refine blk_alloc ?_ _)); exact BK272.out⟩, ⟨by (with_reducible repeat (first | refine blk_drewN ?_ _ | refine blk_drew ?_ | refine blk_alloc ?_ _)); exact BK285.out⟩, ⟨by repeat (first | (with_reducible first | exact HB.out | apply below_alloc | apply pw_below_drewN | apply below_drew1 | refine below_set ?_ GE271.out | refine below_set ?_ GE272.out | refine below_set ?_ GE285.out) | exact HB.out)⟩⟩
        ·replace c57 := Bool.eq_false_iff.mpr c57
         subst c57
         have H1 : (supercargolaw35_NoticeHoliday.j1 kj8 a3 a4 a5 false true l0_0 l0_1 a2_0 a2_1 a2_2 a2_3 a2_4 a2_5 a2_6 a2_7 a2_8 a2_9 a2_10 a2_11 a2_12 a2_13 a2_14 a2_15 a2_16 l2_17 t279 t282) = some r := by rw [if_neg (show ¬ (false = true) by decide)] at H; exact H
         clear H
         have H := H1
         clear H1
         have H' := Aside0.mk H
         clear H
         go_wp2
         go_meet
         case rel => exact ⟨_, (true), (by first | rfl | (simp; done) | (simp [*]; done)), H', ⟨by have := HJ8.out; first | omega | exact Nat.le_refl _⟩, ⟨by (with_reducible repeat (first | apply Kd.R_alloc | apply Kd.R_drewN | apply Kd.R_drew)); exact Kd.R_mono HO281.out (fun _ hk => hk.1)⟩, ⟨by (with_reducible repeat (first | apply Kd.R_alloc | apply Kd.R_drewN | apply Kd.R_drew)); exact Kd.R_mono HO284.out (fun _ hk => hk.1)⟩, ⟨by (with_reducible repeat (first | refine blk_drewN ?_ _ | refine blk_drew ?_ | refine blk_alloc ?_ _)); exact BK271.out⟩, ⟨by (with_reducible repeat (first | refine blk_drewN ?_ _ | refine blk_drew ?_ | refine blk_alloc ?_ _)); exact BK272.out⟩, ⟨by (with_reducible repeat (first | refine blk_drewN ?_ _ | refine blk_drew ?_ | refine blk_alloc ?_ _)); exact BK285.out⟩, ⟨by repeat (first | (with_reducible first | exact HB.out | apply below_alloc | apply pw_below_drewN | apply below_drew1 | refine below_set ?_ GE271.out | refine below_set ?_ GE272.out | refine below_set ?_ GE285.out) | exact HB.out)⟩⟩
       ·replace c56 := Bool.eq_false_iff.mpr c56
        subst c56
        have H1 : (supercargolaw35_NoticeHoliday.j1 kj8 a3 a4 a5 false false l0_0 l0_1 a2_0 a2_1 a2_2 a2_3 a2_4 a2_5 a2_6 a2_7 a2_8 a2_9 a2_10 a2_11 a2_12 a2_13 a2_14 a2_15 a2_16 l2_17 t279 t282) = some r := by rw [if_neg (show ¬ (false = true) by decide)] at H; exact H
        clear H
        have H := H1
        clear H1
        have H' := Aside0.mk H
        clear H
        go_wp2
        go_meet
        case rel => exact ⟨_, (false), (by first | rfl | (simp; done) | (simp [*]; done)), H', ⟨by have := HJ8.out; first | omega | exact Nat.le_refl _⟩, ⟨by (with_reducible repeat (first | apply Kd.R_alloc | apply Kd.R_drewN | apply Kd.R_drew)); exact Kd.R_mono HO281.out (fun _ hk => hk.1)⟩, ⟨by (with_reducible repeat (first | apply Kd.R_alloc | apply Kd.R_drewN | apply Kd.R_drew)); exact Kd.R_mono HO284.out (fun _ hk => hk.1)⟩, ⟨by (with_reducible repeat (first | refine blk_drewN ?_ _ | refine blk_drew ?_ | refine blk_alloc ?_ _)); exact BK271.out⟩, ⟨by (with_reducible repeat (first | refine blk_drewN ?_ _ | refine blk_drew ?_ | refine blk_alloc ?_ _)); exact BK272.out⟩, ⟨by (with_reducible repeat (first | refine blk_drewN ?_ _ | refine blk_drew ?_ | refine blk_alloc ?_ _)); exact BK285.out⟩, ⟨by repeat (first | (with_reducible first | exact HB.out | apply below_alloc | apply pw_below_drewN | apply below_drew1 | refine below_set ?_ GE271.out | refine below_set ?_ GE272.out | refine below_set ?_ GE285.out) | exact HB.out)⟩⟩
     case rest =>
      clear HC30
      try clear c1
      try clear c2
      try clear p2
      try clear c3
      try clear c4
      try clear c5
      try clear c8
      try clear c9
      try clear c10
      try clear c11
      try clear c14
      try clear c16
      try clear c21
      try clear c23
      try clear c24
      try clear c31
      try clear c39
      try clear c40
      try clear c51
      try clear c52
      try clear c53
      try clear c53b0
      try clear c54
      try clear c55
      try clear c56
      try clear c57
      try clear hcz17_0
      try clear hcz17_1
      try clear hcz19_0
      try clear hcz19_1
      try clear hcz22_0
      try clear hcz22_1
      try clear hcz32_0
      try clear hcz32_1
      try clear hcz41_0
      try clear hcz41_1
      try clear hcz43_0
      try clear hcz43_1
      try clear hcz45_0
      try clear hcz45_1
      try clear hcz47_0
      try clear hcz47_1
      try clear hcz49_0
      try clear hcz49_1
      try clear hfz17_0
      try clear hfz17_1
      try clear hfz19_0
      try clear hfz19_1
      try clear hfz22_0
      try clear hfz22_1
      try clear hfz32_0
      try clear hfz32_1
      try clear hfz41_0
      try clear hfz41_1
      try clear hfz43_0
      try clear hfz43_1
      try clear hfz45_0
      try clear hfz45_1
      try clear hfz47_0
      try clear hfz47_1
      try clear hfz49_0
      try clear hfz49_1
      try clear p2
      obtain ⟨kq, x83_29, rfl, HA, HJ29, HO_286000, HO_286001, BK271, BK272, BK285, HB⟩ := hcut
      cases kq with
      | zero => exact absurd HA.out (by simp [supercargolaw35_NoticeHoliday.j1])
      | succ kj29 =>
       have H := HA.out
       clear HA
       simp only [supercargolaw35_NoticeHoliday.j1] at H
       by_cases c58 : x83_29 = true
       ·subst c58
        have H1 : (some false) = some r := by rw [if_pos rfl] at H; exact H
        clear H
        have H := H1
        clear H1
        exact absurd (Option.some.inj H) (by rw [hT.out]; decide)
       ·replace c58 := Bool.eq_false_iff.mpr c58
        subst c58
        have H1 : ((some (([(⟨1, 0, (⟨#[]⟩ : ByteArray), 0⟩ : S36)] : List (S36)) : List (S36))).bind fun y294 => (if t289 = true then ((notice_Answer.f kj29 l0_0 l0_1 a4 a5 y294 y294).bind fun t297 => (if t297 = 1 then ((notice_Answer.f kj29 t279 t282 a4 a5 y294 y294).bind fun t298 => (supercargolaw35_NoticeHoliday.j2 kj29 a3 a4 (t298 != 1) l0_0 l0_1 a2_0 a2_1 a2_2 a2_3 a2_4 a2_5 a2_6 a2_7 a2_8 a2_9 a2_10 a2_11 a2_12 a2_13 a2_14 a2_15 a2_16 l2_17 t279 t282)) else (supercargolaw35_NoticeHoliday.j2 kj29 a3 a4 false l0_0 l0_1 a2_0 a2_1 a2_2 a2_3 a2_4 a2_5 a2_6 a2_7 a2_8 a2_9 a2_10 a2_11 a2_12 a2_13 a2_14 a2_15 a2_16 l2_17 t279 t282))) else (supercargolaw35_NoticeHoliday.j2 kj29 a3 a4 false l0_0 l0_1 a2_0 a2_1 a2_2 a2_3 a2_4 a2_5 a2_6 a2_7 a2_8 a2_9 a2_10 a2_11 a2_12 a2_13 a2_14 a2_15 a2_16 l2_17 t279 t282))) = some r := by rw [if_neg (show ¬ (false = true) by decide)] at H; exact H
        clear H
        have H := H1
        clear H1
        obtain ⟨y294, hy294⟩ : ∃ y_ : List (S36), y_ = (([(⟨1, 0, (⟨#[]⟩ : ByteArray), 0⟩ : S36)] : List (S36))) := ⟨_, rfl⟩
        replace H : (if t289 = true then ((notice_Answer.f kj29 l0_0 l0_1 a4 a5 y294 y294).bind fun t297 => (if t297 = 1 then ((notice_Answer.f kj29 t279 t282 a4 a5 y294 y294).bind fun t298 => (supercargolaw35_NoticeHoliday.j2 kj29 a3 a4 (t298 != 1) l0_0 l0_1 a2_0 a2_1 a2_2 a2_3 a2_4 a2_5 a2_6 a2_7 a2_8 a2_9 a2_10 a2_11 a2_12 a2_13 a2_14 a2_15 a2_16 l2_17 t279 t282)) else (supercargolaw35_NoticeHoliday.j2 kj29 a3 a4 false l0_0 l0_1 a2_0 a2_1 a2_2 a2_3 a2_4 a2_5 a2_6 a2_7 a2_8 a2_9 a2_10 a2_11 a2_12 a2_13 a2_14 a2_15 a2_16 l2_17 t279 t282))) else (supercargolaw35_NoticeHoliday.j2 kj29 a3 a4 false l0_0 l0_1 a2_0 a2_1 a2_2 a2_3 a2_4 a2_5 a2_6 a2_7 a2_8 a2_9 a2_10 a2_11 a2_12 a2_13 a2_14 a2_15 a2_16 l2_17 t279 t282)) = some r := by first | (rw [hy294]; with_reducible exact H) | (have H2_ := (Option.bind_some _ _).symm.trans H; rw [hy294]; with_reducible exact H2_) | (have H2_ := (Option.bind_some _ _).symm.trans H; with_reducible exact H2_) | with_reducible exact H | (rw [hy294]; exact H) | exact H
        have Ny294 := Aside0.mk hy294
        clear hy294
        have HC59 := Aside0.mk H
        clear H
        go_upto_region 13 with (first | ((with_reducible refine gate_dst (N := 85) rfl ?_); refine Kd.R_lit k36 _ 36 ?hg (N := 85) ?hd (xs := ([(⟨1, 0, (⟨#[]⟩ : ByteArray), 0⟩ : S36)] : List (S36))) (inner := [.int .i64 1, .int .i64 0, .string (⟨#[]⟩ : ByteArray), .int .i64 0]) (ok := fun _ => True) (okp := fun _ => True) ?hr ?hp (fun _ hk => hk) trivial (Below.refl _ _) (Nat.le_refl _) (by simp) ?_; (case hd => rfl); (case hg => rfl); (case hr => first | (go_simp; done) | (go_simp; rfl)); (case hp => exact (Reps.c4 (show Kd.M k36 _ _ _ (⟨1, 0, (⟨#[]⟩ : ByteArray), 0⟩ : S36) [.int .i64 1, .int .i64 0, .string (⟨#[]⟩ : ByteArray), .int .i64 0] from (k36_mkM _ _ _ (⟨1, 0, (⟨#[]⟩ : ByteArray), 0⟩ : S36) )) (Reps.none _ _))); intro v295 w60 ho61 hb hg_ hnew_; clear hg_ hnew_; (first | rw [← Ny294.out] at ho61 | (simp only [Int.reduceToNat] at ho61; rw [← Ny294.out] at ho61)); have n0_ := Aside0.mk (Kd.R_below (by (with_reducible repeat (first | apply Kd.R_alloc | apply Kd.R_drewN | apply Kd.R_drew)); exact HO_286000.out) hb); have n1_ := Aside0.mk (Kd.R_below (by (with_reducible repeat (first | apply Kd.R_alloc | apply Kd.R_drewN | apply Kd.R_drew)); exact HO_286001.out) hb); have n2_ := Aside0.mk (Kd.R_lower ho61 (below_size (by repeat (first | (with_reducible first | exact HB.out | apply below_alloc | apply pw_below_drewN | apply below_drew1 | refine below_set ?_ GE271.out | refine below_set ?_ GE272.out | refine below_set ?_ GE285.out) | exact HB.out)))); have n3_ := Aside0.mk (blk_below (g := gb271) (o := .cells #[.slice A0_0 l0_0.length c0_0, .slice A0_1 l0_1.length c0_1] 24 (0, 0)) (by (with_reducible repeat (first | refine blk_drewN ?_ _ | refine blk_drew ?_ | refine blk_alloc ?_ _)); exact BK271.out) hb); have n4_ := Aside0.mk (blk_below (g := gb272) (o := .cells #[.string a2_0, .string a2_1, .string a2_2, .string a2_3, .string a2_4, .string a2_5, .string a2_6, .string a2_7, .int .i64 a2_8, .int .i64 a2_9, .int .i64 a2_10, .int .i64 a2_11, .int .i64 a2_12, .int .i64 a2_13, .int .i64 a2_14, .bool a2_15, .bool a2_16, .slice A2_17 l2_17.length c2_17] 42 (0, 0)) (by (with_reducible repeat (first | refine blk_drewN ?_ _ | refine blk_drew ?_ | refine blk_alloc ?_ _)); exact BK272.out) hb); have n5_ := Aside0.mk (blk_below (g := gb285) (o := .cells #[.slice Ao38 t279.length co38, .slice Ao42 t282.length co42] 24 (0, 0)) (by (with_reducible repeat (first | refine blk_drewN ?_ _ | refine blk_drew ?_ | refine blk_alloc ?_ _)); exact BK285.out) hb); have n6_ := Aside0.mk (below_step (by repeat (first | (with_reducible first | exact HB.out | apply below_alloc | apply pw_below_drewN | apply below_drew1 | refine below_set ?_ GE271.out | refine below_set ?_ GE272.out | refine below_set ?_ GE285.out) | exact HB.out)) hb); clear HO_286000; clear HO_286001; clear BK271; clear BK272; clear BK285; clear HB; have HO_286000 := n0_; have HO_286001 := n1_; have HO296 := n2_; have BK271 := n3_; have BK272 := n4_; have BK285 := n5_; have HB := n6_; clear n0_ n1_ n2_ n3_ n4_ n5_ n6_; clear hb ho61))
        (try simp only [Act.put, List.setIfInBounds_toArray, List.set_cons_zero, List.set_cons_succ])
        go_cut [104] (fun v104 wc => ∃ (kq : Nat) (x104_58 : Bool), v104 = .bool x104_58 ∧ Aside0 (supercargolaw35_NoticeHoliday.j2 kq a3 a4 x104_58 l0_0 l0_1 a2_0 a2_1 a2_2 a2_3 a2_4 a2_5 a2_6 a2_7 a2_8 a2_9 a2_10 a2_11 a2_12 a2_13 a2_14 a2_15 a2_16 l2_17 t279 t282 = some r) ∧ Aside0 (kq ≤ kj29) ∧ Aside0 (Kd.R (Kd.int .i64) 3 wc w.heap.size (fun k_ => some k_ ≠ ((.slice Ao42 t282.length co42) : Value).ownBlock) (.slice Ao38 t279.length co38) t279) ∧ Aside0 (Kd.R (Kd.int .i64) 3 wc w.heap.size (fun k_ => some k_ ≠ ((.slice Ao38 t279.length co38) : Value).ownBlock) (.slice Ao42 t282.length co42) t282) ∧ Aside0 (wc.heap[gb271]? = some (.cells #[(.slice A0_0 l0_0.length c0_0), (.slice A0_1 l0_1.length c0_1)] 24 (0, 0))) ∧ Aside0 (wc.heap[gb272]? = some (.cells #[.string a2_0, .string a2_1, .string a2_2, .string a2_3, .string a2_4, .string a2_5, .string a2_6, .string a2_7, .int .i64 a2_8, .int .i64 a2_9, .int .i64 a2_10, .int .i64 a2_11, .int .i64 a2_12, .int .i64 a2_13, .int .i64 a2_14, .bool a2_15, .bool a2_16, (.slice A2_17 l2_17.length c2_17)] 42 (0, 0))) ∧ Aside0 (wc.heap[gb285]? = some (.cells #[(.slice Ao38 t279.length co38), (.slice Ao42 t282.length co42)] 24 (0, 0))) ∧ Aside0 (Below w.heap.size w wc))
        case first =>
         have H := HC59.out
         clear HC59
         by_cases c62 : t289 = true
         ·subst c62
          have H1 : ((notice_Answer.f kj29 l0_0 l0_1 a4 a5 y294 y294).bind fun t297 => (if t297 = 1 then ((notice_Answer.f kj29 t279 t282 a4 a5 y294 y294).bind fun t298 => (supercargolaw35_NoticeHoliday.j2 kj29 a3 a4 (t298 != 1) l0_0 l0_1 a2_0 a2_1 a2_2 a2_3 a2_4 a2_5 a2_6 a2_7 a2_8 a2_9 a2_10 a2_11 a2_12 a2_13 a2_14 a2_15 a2_16 l2_17 t279 t282)) else (supercargolaw35_NoticeHoliday.j2 kj29 a3 a4 false l0_0 l0_1 a2_0 a2_1 a2_2 a2_3 a2_4 a2_5 a2_6 a2_7 a2_8 a2_9 a2_10 a2_11 a2_12 a2_13 a2_14 a2_15 a2_16 l2_17 t279 t282))) = some r := by rw [if_pos rfl] at H; exact H
          clear H
          have H := H1
          clear H1
          replace H := Option.bind_eq_some_iff.mp H
          obtain ⟨t297, A630, H⟩ := H
          replace H : (if t297 = 1 then ((notice_Answer.f kj29 t279 t282 a4 a5 y294 y294).bind fun t298 => (supercargolaw35_NoticeHoliday.j2 kj29 a3 a4 (t298 != 1) l0_0 l0_1 a2_0 a2_1 a2_2 a2_3 a2_4 a2_5 a2_6 a2_7 a2_8 a2_9 a2_10 a2_11 a2_12 a2_13 a2_14 a2_15 a2_16 l2_17 t279 t282)) else (supercargolaw35_NoticeHoliday.j2 kj29 a3 a4 false l0_0 l0_1 a2_0 a2_1 a2_2 a2_3 a2_4 a2_5 a2_6 a2_7 a2_8 a2_9 a2_10 a2_11 a2_12 a2_13 a2_14 a2_15 a2_16 l2_17 t279 t282)) = some r := H
          have A63 := Aside0.mk A630
          clear A630
          by_cases c64 : t297 = 1
          ·rw [if_pos c64] at H
           have c64b0 : (t297 == 1) = true := beq_iff_eq.mpr c64
           have c64b1 : (t297 != 1) = false := bne_eq_false_iff_eq.mpr c64
           clear c64
           (first | rw [c64b0] | (simp only [i64_w, i32_w]; rw [c64b0]) | skip)
           replace H := Option.bind_eq_some_iff.mp H
           obtain ⟨t298, A650, H⟩ := H
           replace H : (supercargolaw35_NoticeHoliday.j2 kj29 a3 a4 (t298 != 1) l0_0 l0_1 a2_0 a2_1 a2_2 a2_3 a2_4 a2_5 a2_6 a2_7 a2_8 a2_9 a2_10 a2_11 a2_12 a2_13 a2_14 a2_15 a2_16 l2_17 t279 t282) = some r := H
           have A65 := Aside0.mk A650
           clear A650
           have H' := Aside0.mk H
           clear H
           have hnb66 := NB271_272.out
           have hnc66 := NB272_271.out
           have hnb67 := NB271_285.out
           have hnc67 := NB285_271.out
           have hcz68_0 : w60.cell? ⟨gb271, 0, none⟩ = some (.slice A0_0 l0_0.length c0_0) := (blk_cell BK271.out 0).trans rfl
           have hcz68_1 : w60.cell? ⟨gb271, 1, none⟩ = some (.slice A0_1 l0_1.length c0_1) := (blk_cell BK271.out 1).trans rfl
           have hfz68_0 := blk_frozen BK271.out 0
           have hfz68_1 := blk_frozen BK271.out 1
           obtain ⟨Ao69, co69, eo69⟩ := Kd.R_slice HO296.out
           subst eo69
           go_wp2_with (first | (go_at_call 19; (with_reducible refine (notice_Answer.calls kj29 _ _ l0_0 _ _ l0_1 a4 a5 _ _ y294 _ _ y294 t297 _ ?side1 ?side2 ?side3 ?side4 ?side5 ?side6 ?side7 ?side8 A63.out).mono ?_); (case side1 => repeat (first | exact (Kd.C_below HR0_0.out HB.out) | (with_reducible refine Kd.C_alloc ?_ _) | (with_reducible refine Kd.C_drewN ?_ _) | (with_reducible refine Kd.C_drew ?_))); (case side2 => exact HC0_0.out); (case side3 => repeat (first | exact (Kd.C_below HR0_1.out HB.out) | (with_reducible refine Kd.C_alloc ?_ _) | (with_reducible refine Kd.C_drewN ?_ _) | (with_reducible refine Kd.C_drew ?_))); (case side4 => exact HC0_1.out); (case side5 => repeat (first | exact (Kd.R_reads' HO296.out).2.2 | (with_reducible refine Kd.C_alloc ?_ _) | (with_reducible refine Kd.C_drewN ?_ _) | (with_reducible refine Kd.C_drew ?_))); (case side6 => exact (Kd.R_reads' HO296.out).2.1); (case side7 => repeat (first | exact (Kd.R_reads' HO296.out).2.2 | (with_reducible refine Kd.C_alloc ?_ _) | (with_reducible refine Kd.C_drewN ?_ _) | (with_reducible refine Kd.C_drew ?_))); (case side8 => exact (Kd.R_reads' HO296.out).2.1); rintro e w70 ⟨rfl, hb⟩; have n0_ := Aside0.mk (Kd.R_below (by (with_reducible repeat (first | apply Kd.R_alloc | apply Kd.R_drewN | apply Kd.R_drew)); exact HO_286000.out) hb); have n1_ := Aside0.mk (Kd.R_below (by (with_reducible repeat (first | apply Kd.R_alloc | apply Kd.R_drewN | apply Kd.R_drew)); exact HO_286001.out) hb); have n2_ := Aside0.mk (Kd.R_below (by (with_reducible repeat (first | apply Kd.R_alloc | apply Kd.R_drewN | apply Kd.R_drew)); exact HO296.out) hb); have n3_ := Aside0.mk (blk_below (g := gb271) (o := .cells #[.slice A0_0 l0_0.length c0_0, .slice A0_1 l0_1.length c0_1] 24 (0, 0)) (by (with_reducible repeat (first | refine blk_drewN ?_ _ | refine blk_drew ?_ | refine blk_alloc ?_ _)); exact BK271.out) hb); have n4_ := Aside0.mk (blk_below (g := gb272) (o := .cells #[.string a2_0, .string a2_1, .string a2_2, .string a2_3, .string a2_4, .string a2_5, .string a2_6, .string a2_7, .int .i64 a2_8, .int .i64 a2_9, .int .i64 a2_10, .int .i64 a2_11, .int .i64 a2_12, .int .i64 a2_13, .int .i64 a2_14, .bool a2_15, .bool a2_16, .slice A2_17 l2_17.length c2_17] 42 (0, 0)) (by (with_reducible repeat (first | refine blk_drewN ?_ _ | refine blk_drew ?_ | refine blk_alloc ?_ _)); exact BK272.out) hb); have n5_ := Aside0.mk (blk_below (g := gb285) (o := .cells #[.slice Ao38 t279.length co38, .slice Ao42 t282.length co42] 24 (0, 0)) (by (with_reducible repeat (first | refine blk_drewN ?_ _ | refine blk_drew ?_ | refine blk_alloc ?_ _)); exact BK285.out) hb); have n6_ := Aside0.mk (below_step (by repeat (first | (with_reducible first | exact HB.out | apply below_alloc | apply pw_below_drewN | apply below_drew1 | refine below_set ?_ GE271.out | refine below_set ?_ GE272.out | refine below_set ?_ GE285.out) | exact HB.out)) hb); clear HO_286000; clear HO_286001; clear HO296; clear BK271; clear BK272; clear BK285; clear HB; have HO_286000 := n0_; have HO_286001 := n1_; have HO296 := n2_; have BK271 := n3_; have BK272 := n4_; have BK285 := n5_; have HB := n6_; clear n0_ n1_ n2_ n3_ n4_ n5_ n6_; (try clear hb); (try clear hb2); (try clear hk); (try clear hi); have hnb71 := NB285_272.out; have hnc71 := NB272_285.out; have hcz72_0 : w70.cell? ⟨gb285, 0, none⟩ = some (.slice Ao38 t279.length co38) := (blk_cell BK285.out 0).trans rfl; have hcz72_1 : w70.cell? ⟨gb285, 1, none⟩ = some (.slice Ao42 t282.length co42) := (blk_cell BK285.out 1).trans rfl; have hfz72_0 := blk_frozen BK285.out 0; have hfz72_1 := blk_frozen BK285.out 1) | (go_at_call 19; (with_reducible refine (notice_Answer.calls kj29 _ _ t279 _ _ t282 a4 a5 _ _ y294 _ _ y294 t298 _ ?side1 ?side2 ?side3 ?side4 ?side5 ?side6 ?side7 ?side8 A65.out).mono ?_); (case side1 => repeat (first | exact (Kd.R_reads' HO_286000.out).2.2 | (with_reducible refine Kd.C_alloc ?_ _) | (with_reducible refine Kd.C_drewN ?_ _) | (with_reducible refine Kd.C_drew ?_))); (case side2 => exact (Kd.R_reads' HO_286000.out).2.1); (case side3 => repeat (first | exact (Kd.R_reads' HO_286001.out).2.2 | (with_reducible refine Kd.C_alloc ?_ _) | (with_reducible refine Kd.C_drewN ?_ _) | (with_reducible refine Kd.C_drew ?_))); (case side4 => exact (Kd.R_reads' HO_286001.out).2.1); (case side5 => repeat (first | exact (Kd.R_reads' HO296.out).2.2 | (with_reducible refine Kd.C_alloc ?_ _) | (with_reducible refine Kd.C_drewN ?_ _) | (with_reducible refine Kd.C_drew ?_))); (case side6 => exact (Kd.R_reads' HO296.out).2.1); (case side7 => repeat (first | exact (Kd.R_reads' HO296.out).2.2 | (with_reducible refine Kd.C_alloc ?_ _) | (with_reducible refine Kd.C_drewN ?_ _) | (with_reducible refine Kd.C_drew ?_))); (case side8 => exact (Kd.R_reads' HO296.out).2.1); rintro e w73 ⟨rfl, hb⟩; have n0_ := Aside0.mk (Kd.R_below (by (with_reducible repeat (first | apply Kd.R_alloc | apply Kd.R_drewN | apply Kd.R_drew)); exact HO_286000.out) hb); have n1_ := Aside0.mk (Kd.R_below (by (with_reducible repeat (first | apply Kd.R_alloc | apply Kd.R_drewN | apply Kd.R_drew)); exact HO_286001.out) hb); have n2_ := Aside0.mk (Kd.R_below (by (with_reducible repeat (first | apply Kd.R_alloc | apply Kd.R_drewN | apply Kd.R_drew)); exact HO296.out) hb); have n3_ := Aside0.mk (blk_below (g := gb271) (o := .cells #[.slice A0_0 l0_0.length c0_0, .slice A0_1 l0_1.length c0_1] 24 (0, 0)) (by (with_reducible repeat (first | refine blk_drewN ?_ _ | refine blk_drew ?_ | refine blk_alloc ?_ _)); exact BK271.out) hb); have n4_ := Aside0.mk (blk_below (g := gb272) (o := .cells #[.string a2_0, .string a2_1, .string a2_2, .string a2_3, .string a2_4, .string a2_5, .string a2_6, .string a2_7, .int .i64 a2_8, .int .i64 a2_9, .int .i64 a2_10, .int .i64 a2_11, .int .i64 a2_12, .int .i64 a2_13, .int .i64 a2_14, .bool a2_15, .bool a2_16, .slice A2_17 l2_17.length c2_17] 42 (0, 0)) (by (with_reducible repeat (first | refine blk_drewN ?_ _ | refine blk_drew ?_ | refine blk_alloc ?_ _)); exact BK272.out) hb); have n5_ := Aside0.mk (blk_below (g := gb285) (o := .cells #[.slice Ao38 t279.length co38, .slice Ao42 t282.length co42] 24 (0, 0)) (by (with_reducible repeat (first | refine blk_drewN ?_ _ | refine blk_drew ?_ | refine blk_alloc ?_ _)); exact BK285.out) hb); have n6_ := Aside0.mk (below_step (by repeat (first | (with_reducible first | exact HB.out | apply below_alloc | apply pw_below_drewN | apply below_drew1 | refine below_set ?_ GE271.out | refine below_set ?_ GE272.out | refine below_set ?_ GE285.out) | exact HB.out)) hb); clear HO_286000; clear HO_286001; clear HO296; clear BK271; clear BK272; clear BK285; clear HB; have HO_286000 := n0_; have HO_286001 := n1_; have HO296 := n2_; have BK271 := n3_; have BK272 := n4_; have BK285 := n5_; have HB := n6_; clear n0_ n1_ n2_ n3_ n4_ n5_ n6_; (try clear hb); (try clear hb2); (try clear hk); (try clear hi)))
           go_meet
           case rel => exact ⟨_, ((t298 != 1)), (by first | rfl | (simp; done) | (simp [*]; done)), H', ⟨by have := HJ8.out; have := HJ29.out; first | omega | exact Nat.le_refl _⟩, ⟨by (with_reducible repeat (first | apply Kd.R_alloc | apply Kd.R_drewN | apply Kd.R_drew)); exact HO_286000.out⟩, ⟨by (with_reducible repeat (first | apply Kd.R_alloc | apply Kd.R_drewN | apply Kd.R_drew)); exact HO_286001.out⟩, ⟨by (with_reducible repeat (first | refine blk_drewN ?_ _ | refine blk_drew ?_ | refine blk_alloc ?_ _)); exact BK271.out⟩, ⟨by (with_reducible repeat (first | refine blk_drewN ?_ _ | refine blk_drew ?_ | refine blk_alloc ?_ _)); exact BK272.out⟩, ⟨by (with_reducible repeat (first | refine blk_drewN ?_ _ | refine blk_drew ?_ | refine blk_alloc ?_ _)); exact BK285.out⟩, ⟨by repeat (first | (with_reducible first | exact HB.out | apply below_alloc | apply pw_below_drewN | apply below_drew1 | refine below_set ?_ GE271.out | refine below_set ?_ GE272.out | refine below_set ?_ GE285.out) | exact HB.out)⟩⟩
          ·rw [if_neg c64] at H
           have c64b0 : (t297 == 1) = false := beq_eq_false_iff_ne.mpr c64
           have c64b1 : (t297 != 1) = true := bne_iff_ne.mpr c64
           (first | rw [c64b0] | (simp only [i64_w, i32_w]; rw [c64b0]) | skip)
           have H' := Aside0.mk H
           clear H
           have hnb74 := NB271_272.out
           have hnc74 := NB272_271.out
           have hnb75 := NB271_285.out
           have hnc75 := NB285_271.out
           have hcz76_0 : w60.cell? ⟨gb271, 0, none⟩ = some (.slice A0_0 l0_0.length c0_0) := (blk_cell BK271.out 0).trans rfl
           have hcz76_1 : w60.cell? ⟨gb271, 1, none⟩ = some (.slice A0_1 l0_1.length c0_1) := (blk_cell BK271.out 1).trans rfl
           have hfz76_0 := blk_frozen BK271.out 0
           have hfz76_1 := blk_frozen BK271.out 1
           obtain ⟨Ao77, co77, eo77⟩ := Kd.R_slice HO296.out
           subst eo77
           go_wp2_with (first | (go_at_call 19; (with_reducible refine (notice_Answer.calls kj29 _ _ l0_0 _ _ l0_1 a4 a5 _ _ y294 _ _ y294 t297 _ ?side1 ?side2 ?side3 ?side4 ?side5 ?side6 ?side7 ?side8 A63.out).mono ?_); (case side1 => repeat (first | exact (Kd.C_below HR0_0.out HB.out) | (with_reducible refine Kd.C_alloc ?_ _) | (with_reducible refine Kd.C_drewN ?_ _) | (with_reducible refine Kd.C_drew ?_))); (case side2 => exact HC0_0.out); (case side3 => repeat (first | exact (Kd.C_below HR0_1.out HB.out) | (with_reducible refine Kd.C_alloc ?_ _) | (with_reducible refine Kd.C_drewN ?_ _) | (with_reducible refine Kd.C_drew ?_))); (case side4 => exact HC0_1.out); (case side5 => repeat (first | exact (Kd.R_reads' HO296.out).2.2 | (with_reducible refine Kd.C_alloc ?_ _) | (with_reducible refine Kd.C_drewN ?_ _) | (with_reducible refine Kd.C_drew ?_))); (case side6 => exact (Kd.R_reads' HO296.out).2.1); (case side7 => repeat (first | exact (Kd.R_reads' HO296.out).2.2 | (with_reducible refine Kd.C_alloc ?_ _) | (with_reducible refine Kd.C_drewN ?_ _) | (with_reducible refine Kd.C_drew ?_))); (case side8 => exact (Kd.R_reads' HO296.out).2.1); rintro e w78 ⟨rfl, hb⟩; have n0_ := Aside0.mk (Kd.R_below (by (with_reducible repeat (first | apply Kd.R_alloc | apply Kd.R_drewN | apply Kd.R_drew)); exact HO_286000.out) hb); have n1_ := Aside0.mk (Kd.R_below (by (with_reducible repeat (first | apply Kd.R_alloc | apply Kd.R_drewN | apply Kd.R_drew)); exact HO_286001.out) hb); have n2_ := Aside0.mk (Kd.R_below (by (with_reducible repeat (first | apply Kd.R_alloc | apply Kd.R_drewN | apply Kd.R_drew)); exact HO296.out) hb); have n3_ := Aside0.mk (blk_below (g := gb271) (o := .cells #[.slice A0_0 l0_0.length c0_0, .slice A0_1 l0_1.length c0_1] 24 (0, 0)) (by (with_reducible repeat (first | refine blk_drewN ?_ _ | refine blk_drew ?_ | refine blk_alloc ?_ _)); exact BK271.out) hb); have n4_ := Aside0.mk (blk_below (g := gb272) (o := .cells #[.string a2_0, .string a2_1, .string a2_2, .string a2_3, .string a2_4, .string a2_5, .string a2_6, .string a2_7, .int .i64 a2_8, .int .i64 a2_9, .int .i64 a2_10, .int .i64 a2_11, .int .i64 a2_12, .int .i64 a2_13, .int .i64 a2_14, .bool a2_15, .bool a2_16, .slice A2_17 l2_17.length c2_17] 42 (0, 0)) (by (with_reducible repeat (first | refine blk_drewN ?_ _ | refine blk_drew ?_ | refine blk_alloc ?_ _)); exact BK272.out) hb); have n5_ := Aside0.mk (blk_below (g := gb285) (o := .cells #[.slice Ao38 t279.length co38, .slice Ao42 t282.length co42] 24 (0, 0)) (by (with_reducible repeat (first | refine blk_drewN ?_ _ | refine blk_drew ?_ | refine blk_alloc ?_ _)); exact BK285.out) hb); have n6_ := Aside0.mk (below_step (by repeat (first | (with_reducible first | exact HB.out | apply below_alloc | apply pw_below_drewN | apply below_drew1 | refine below_set ?_ GE271.out | refine below_set ?_ GE272.out | refine below_set ?_ GE285.out) | exact HB.out)) hb); clear HO_286000; clear HO_286001; clear HO296; clear BK271; clear BK272; clear BK285; clear HB; have HO_286000 := n0_; have HO_286001 := n1_; have HO296 := n2_; have BK271 := n3_; have BK272 := n4_; have BK285 := n5_; have HB := n6_; clear n0_ n1_ n2_ n3_ n4_ n5_ n6_; (try clear hb); (try clear hb2); (try clear hk); (try clear hi)))
           go_meet
           case rel => exact ⟨_, (false), (by first | rfl | (simp; done) | (simp [*]; done)), H', ⟨by have := HJ8.out; have := HJ29.out; first | omega | exact Nat.le_refl _⟩, ⟨by (with_reducible repeat (first | apply Kd.R_alloc | apply Kd.R_drewN | apply Kd.R_drew)); exact HO_286000.out⟩, ⟨by (with_reducible repeat (first | apply Kd.R_alloc | apply Kd.R_drewN | apply Kd.R_drew)); exact HO_286001.out⟩, ⟨by (with_reducible repeat (first | refine blk_drewN ?_ _ | refine blk_drew ?_ | refine blk_alloc ?_ _)); exact BK271.out⟩, ⟨by (with_reducible repeat (first | refine blk_drewN ?_ _ | refine blk_drew ?_ | refine blk_alloc ?_ _)); exact BK272.out⟩, ⟨by (with_reducible repeat (first | refine blk_drewN ?_ _ | refine blk_drew ?_ | refine blk_alloc ?_ _)); exact BK285.out⟩, ⟨by repeat (first | (with_reducible first | exact HB.out | apply below_alloc | apply pw_below_drewN | apply below_drew1 | refine below_set ?_ GE271.out | refine below_set ?_ GE272.out | refine below_set ?_ GE285.out) | exact HB.out)⟩⟩
         ·replace c62 := Bool.eq_false_iff.mpr c62
          subst c62
          have H1 : (supercargolaw35_NoticeHoliday.j2 kj29 a3 a4 false l0_0 l0_1 a2_0 a2_1 a2_2 a2_3 a2_4 a2_5 a2_6 a2_7 a2_8 a2_9 a2_10 a2_11 a2_12 a2_13 a2_14 a2_15 a2_16 l2_17 t279 t282) = some r := by rw [if_neg (show ¬ (false = true) by decide)] at H; exact H
          clear H
          have H := H1
          clear H1
          have H' := Aside0.mk H
          clear H
          go_wp2
          go_meet
          case rel => exact ⟨_, (false), (by first | rfl | (simp; done) | (simp [*]; done)), H', ⟨by have := HJ8.out; have := HJ29.out; first | omega | exact Nat.le_refl _⟩, ⟨by (with_reducible repeat (first | apply Kd.R_alloc | apply Kd.R_drewN | apply Kd.R_drew)); exact HO_286000.out⟩, ⟨by (with_reducible repeat (first | apply Kd.R_alloc | apply Kd.R_drewN | apply Kd.R_drew)); exact HO_286001.out⟩, ⟨by (with_reducible repeat (first | refine blk_drewN ?_ _ | refine blk_drew ?_ | refine blk_alloc ?_ _)); exact BK271.out⟩, ⟨by (with_reducible repeat (first | refine blk_drewN ?_ _ | refine blk_drew ?_ | refine blk_alloc ?_ _)); exact BK272.out⟩, ⟨by (with_reducible repeat (first | refine blk_drewN ?_ _ | refine blk_drew ?_ | refine blk_alloc ?_ _)); exact BK285.out⟩, ⟨by repeat (first | (with_reducible first | exact HB.out | apply below_alloc | apply pw_below_drewN | apply below_drew1 | refine below_set ?_ GE271.out | refine below_set ?_ GE272.out | refine below_set ?_ GE285.out) | exact HB.out)⟩⟩
        case rest =>
         clear HC59
         try clear c1
         try clear c2
         try clear p2
         try clear c3
         try clear c4
         try clear c5
         try clear c6
         try clear c7
         try clear c8
         try clear c9
         try clear c10
         try clear c11
         try clear c14
         try clear c16
         try clear c21
         try clear c23
         try clear c24
         try clear c31
         try clear c39
         try clear c40
         try clear c51
         try clear c52
         try clear c53
         try clear c53b0
         try clear c54
         try clear c55
         try clear c56
         try clear c57
         try clear c58
         try clear c62
         try clear c64
         try clear c64b0
         try clear c64b1
         try clear c66
         try clear c67
         try clear c71
         try clear c74
         try clear c75
         try clear hcz17_0
         try clear hcz17_1
         try clear hcz19_0
         try clear hcz19_1
         try clear hcz22_0
         try clear hcz22_1
         try clear hcz32_0
         try clear hcz32_1
         try clear hcz41_0
         try clear hcz41_1
         try clear hcz43_0
         try clear hcz43_1
         try clear hcz45_0
         try clear hcz45_1
         try clear hcz47_0
         try clear hcz47_1
         try clear hcz49_0
         try clear hcz49_1
         try clear hcz68_0
         try clear hcz68_1
         try clear hcz72_0
         try clear hcz72_1
         try clear hcz76_0
         try clear hcz76_1
         try clear hfz17_0
         try clear hfz17_1
         try clear hfz19_0
         try clear hfz19_1
         try clear hfz22_0
         try clear hfz22_1
         try clear hfz32_0
         try clear hfz32_1
         try clear hfz41_0
         try clear hfz41_1
         try clear hfz43_0
         try clear hfz43_1
         try clear hfz45_0
         try clear hfz45_1
         try clear hfz47_0
         try clear hfz47_1
         try clear hfz49_0
         try clear hfz49_1
         try clear hfz68_0
         try clear hfz68_1
         try clear hfz72_0
         try clear hfz72_1
         try clear hfz76_0
         try clear hfz76_1
         try clear p2
         obtain ⟨kq, x104_58, rfl, HA, HJ58, HO_286000, HO_286001, BK271, BK272, BK285, HB⟩ := hcut
         cases kq with
         | zero => exact absurd HA.out (by simp [supercargolaw35_NoticeHoliday.j2])
         | succ kj58 =>
          have H := HA.out
          clear HA
          simp only [supercargolaw35_NoticeHoliday.j2] at H
          by_cases c79 : x104_58 = true
          ·subst c79
           have H1 : (some false) = some r := by rw [if_pos rfl] at H; exact H
           clear H
           have H := H1
           clear H1
           exact absurd (Option.some.inj H) (by rw [hT.out]; decide)
          ·replace c79 := Bool.eq_false_iff.mpr c79
           subst c79
           have H1 : ((notice_Late.f kj58 l0_0 l0_1 a2_0 a2_1 a2_2 a2_3 a2_4 a2_5 a2_6 a2_7 a2_8 a2_9 a2_10 a2_11 a2_12 a2_13 a2_14 a2_15 a2_16 l2_17 a3 a4).bind fun t299 => (if t299 = 0 then ((notice_Late.f kj58 t279 t282 a2_0 a2_1 a2_2 a2_3 a2_4 a2_5 a2_6 a2_7 a2_8 a2_9 a2_10 a2_11 a2_12 a2_13 a2_14 a2_15 a2_16 l2_17 a3 a4).bind fun t300 => (some (t300 != 11))) else (some true))) = some r := by rw [if_neg (show ¬ (false = true) by decide)] at H; exact H
           clear H
           have H := H1
           clear H1
           replace H := Option.bind_eq_some_iff.mp H
           obtain ⟨t299, A800, H⟩ := H
           replace H : (if t299 = 0 then ((notice_Late.f kj58 t279 t282 a2_0 a2_1 a2_2 a2_3 a2_4 a2_5 a2_6 a2_7 a2_8 a2_9 a2_10 a2_11 a2_12 a2_13 a2_14 a2_15 a2_16 l2_17 a3 a4).bind fun t300 => (some (t300 != 11))) else (some true)) = some r := H
           have A80 := Aside0.mk A800
           clear A800
           by_cases c81 : t299 = 0
           ·rw [if_pos c81] at H
            have c81b0 : (t299 == 0) = true := beq_iff_eq.mpr c81
            have c81b1 : (t299 != 0) = false := bne_eq_false_iff_eq.mpr c81
            clear c81
            replace H := Option.bind_eq_some_iff.mp H
            obtain ⟨t300, A820, H⟩ := H
            replace H : (some (t300 != 11)) = some r := H
            have A82 := Aside0.mk A820
            clear A820
            clear hT; obtain rfl := Option.some.inj H
            have hnb83 := NB271_272.out
            have hnc83 := NB272_271.out
            have hnb84 := NB271_285.out
            have hnc84 := NB285_271.out
            have hcz85_0 : wc.cell? ⟨gb271, 0, none⟩ = some (.slice A0_0 l0_0.length c0_0) := (blk_cell BK271.out 0).trans rfl
            have hcz85_1 : wc.cell? ⟨gb271, 1, none⟩ = some (.slice A0_1 l0_1.length c0_1) := (blk_cell BK271.out 1).trans rfl
            have hfz85_0 := blk_frozen BK271.out 0
            have hfz85_1 := blk_frozen BK271.out 1
            have hnb86 := NB272_285.out
            have hnc86 := NB285_272.out
            go_wp2_with (first | ((with_reducible refine gate_dst (N := 106) rfl ?_); (try (refine gate_guard (by rfl) ?_; dsimp only)); refine wpList_load_row rfl 42 _ rfl gb272 rfl 42 #[.string a2_0, .string a2_1, .string a2_2, .string a2_3, .string a2_4, .string a2_5, .string a2_6, .string a2_7, .int .i64 a2_8, .int .i64 a2_9, .int .i64 a2_10, .int .i64 a2_11, .int .i64 a2_12, .int .i64 a2_13, .int .i64 a2_14, .bool a2_15, .bool a2_16, .slice A2_17 l2_17.length c2_17] (0, 0) _ BK272.out Try.underlying42 rfl (by kernel_rfl) ?_) | ((with_reducible refine gate_dst (N := 113) rfl ?_); (try (refine gate_guard (by rfl) ?_; dsimp only)); refine wpList_load_row rfl 42 _ rfl gb272 rfl 42 #[.string a2_0, .string a2_1, .string a2_2, .string a2_3, .string a2_4, .string a2_5, .string a2_6, .string a2_7, .int .i64 a2_8, .int .i64 a2_9, .int .i64 a2_10, .int .i64 a2_11, .int .i64 a2_12, .int .i64 a2_13, .int .i64 a2_14, .bool a2_15, .bool a2_16, .slice A2_17 l2_17.length c2_17] (0, 0) _ BK272.out Try.underlying42 rfl (by kernel_rfl) ?_) | ((with_reducible refine gate_callee (f := 21) rfl ?_); refine goesL_ (some 109) rfl rfl Try.func21 (by kernel_rfl) rfl #[.agg #[.slice A0_0 l0_0.length c0_0, .slice A0_1 l0_1.length c0_1], .agg #[.string a2_0, .string a2_1, .string a2_2, .string a2_3, .string a2_4, .string a2_5, .string a2_6, .string a2_7, .int .i64 a2_8, .int .i64 a2_9, .int .i64 a2_10, .int .i64 a2_11, .int .i64 a2_12, .int .i64 a2_13, .int .i64 a2_14, .bool a2_15, .bool a2_16, .slice A2_17 l2_17.length c2_17], .int .i64 a3, .int .i64 a4] rfl (by (try simp only [List.map_toArray, List.map_cons, List.map_nil]); first | done | rfl | (simp only [List.length_drop, List.length_take]; rfl)) ?_; (with_reducible refine (notice_Late.calls kj58 _ _ l0_0 _ _ l0_1 a2_0 a2_1 a2_2 a2_3 a2_4 a2_5 a2_6 a2_7 a2_8 a2_9 a2_10 a2_11 a2_12 a2_13 a2_14 a2_15 a2_16 _ _ l2_17 a3 a4 t299 _ ?side1 ?side2 ?side3 ?side4 ?side5 ?side6 A80.out).mono ?_); (case side1 => repeat (first | exact (Kd.C_below HR0_0.out HB.out) | (with_reducible refine Kd.C_alloc ?_ _) | (with_reducible refine Kd.C_drewN ?_ _) | (with_reducible refine Kd.C_drew ?_))); (case side2 => exact HC0_0.out); (case side3 => repeat (first | exact (Kd.C_below HR0_1.out HB.out) | (with_reducible refine Kd.C_alloc ?_ _) | (with_reducible refine Kd.C_drewN ?_ _) | (with_reducible refine Kd.C_drew ?_))); (case side4 => exact HC0_1.out); (case side5 => repeat (first | exact (Kd.C_below HR2_17.out HB.out) | (with_reducible refine Kd.C_alloc ?_ _) | (with_reducible refine Kd.C_drewN ?_ _) | (with_reducible refine Kd.C_drew ?_))); (case side6 => exact HC2_17.out); rintro e w88 ⟨rfl, hb⟩; refine ⟨_, rfl, ?_⟩; have n0_ := Aside0.mk (Kd.R_below (by (with_reducible repeat (first | apply Kd.R_alloc | apply Kd.R_drewN | apply Kd.R_drew)); exact HO_286000.out) hb); have n1_ := Aside0.mk (Kd.R_below (by (with_reducible repeat (first | apply Kd.R_alloc | apply Kd.R_drewN | apply Kd.R_drew)); exact HO_286001.out) hb); have n2_ := Aside0.mk (blk_below (g := gb271) (o := .cells #[.slice A0_0 l0_0.length c0_0, .slice A0_1 l0_1.length c0_1] 24 (0, 0)) (by (with_reducible repeat (first | refine blk_drewN ?_ _ | refine blk_drew ?_ | refine blk_alloc ?_ _)); exact BK271.out) hb); have n3_ := Aside0.mk (blk_below (g := gb272) (o := .cells #[.string a2_0, .string a2_1, .string a2_2, .string a2_3, .string a2_4, .string a2_5, .string a2_6, .string a2_7, .int .i64 a2_8, .int .i64 a2_9, .int .i64 a2_10, .int .i64 a2_11, .int .i64 a2_12, .int .i64 a2_13, .int .i64 a2_14, .bool a2_15, .bool a2_16, .slice A2_17 l2_17.length c2_17] 42 (0, 0)) (by (with_reducible repeat (first | refine blk_drewN ?_ _ | refine blk_drew ?_ | refine blk_alloc ?_ _)); exact BK272.out) hb); have n4_ := Aside0.mk (blk_below (g := gb285) (o := .cells #[.slice Ao38 t279.length co38, .slice Ao42 t282.length co42] 24 (0, 0)) (by (with_reducible repeat (first | refine blk_drewN ?_ _ | refine blk_drew ?_ | refine blk_alloc ?_ _)); exact BK285.out) hb); have n5_ := Aside0.mk (below_step (by repeat (first | (with_reducible first | exact HB.out | apply below_alloc | apply pw_below_drewN | apply below_drew1 | refine below_set ?_ GE271.out | refine below_set ?_ GE272.out | refine below_set ?_ GE285.out) | exact HB.out)) hb); clear HO_286000; clear HO_286001; clear BK271; clear BK272; clear BK285; clear HB; have HO_286000 := n0_; have HO_286001 := n1_; have BK271 := n2_; have BK272 := n3_; have BK285 := n4_; have HB := n5_; clear n0_ n1_ n2_ n3_ n4_ n5_; (try clear hb); (try clear hb2); (try clear hk); (try clear hi); have hcz89_0 : w88.cell? ⟨gb285, 0, none⟩ = some (.slice Ao38 t279.length co38) := (blk_cell BK285.out 0).trans rfl; have hcz89_1 : w88.cell? ⟨gb285, 1, none⟩ = some (.slice Ao42 t282.length co42) := (blk_cell BK285.out 1).trans rfl; have hfz89_0 := blk_frozen BK285.out 0; have hfz89_1 := blk_frozen BK285.out 1) | (go_at_call 21; (with_reducible refine (notice_Late.calls kj58 _ _ t279 _ _ t282 a2_0 a2_1 a2_2 a2_3 a2_4 a2_5 a2_6 a2_7 a2_8 a2_9 a2_10 a2_11 a2_12 a2_13 a2_14 a2_15 a2_16 _ _ l2_17 a3 a4 t300 _ ?side1 ?side2 ?side3 ?side4 ?side5 ?side6 A82.out).mono ?_); (case side1 => repeat (first | exact (Kd.R_reads' HO_286000.out).2.2 | (with_reducible refine Kd.C_alloc ?_ _) | (with_reducible refine Kd.C_drewN ?_ _) | (with_reducible refine Kd.C_drew ?_))); (case side2 => exact (Kd.R_reads' HO_286000.out).2.1); (case side3 => repeat (first | exact (Kd.R_reads' HO_286001.out).2.2 | (with_reducible refine Kd.C_alloc ?_ _) | (with_reducible refine Kd.C_drewN ?_ _) | (with_reducible refine Kd.C_drew ?_))); (case side4 => exact (Kd.R_reads' HO_286001.out).2.1); (case side5 => repeat (first | exact (Kd.C_below HR2_17.out HB.out) | (with_reducible refine Kd.C_alloc ?_ _) | (with_reducible refine Kd.C_drewN ?_ _) | (with_reducible refine Kd.C_drew ?_))); (case side6 => exact HC2_17.out); rintro e w91 ⟨rfl, hb⟩; have n0_ := Aside0.mk (Kd.R_below (by (with_reducible repeat (first | apply Kd.R_alloc | apply Kd.R_drewN | apply Kd.R_drew)); exact HO_286000.out) hb); have n1_ := Aside0.mk (Kd.R_below (by (with_reducible repeat (first | apply Kd.R_alloc | apply Kd.R_drewN | apply Kd.R_drew)); exact HO_286001.out) hb); have n2_ := Aside0.mk (blk_below (g := gb271) (o := .cells #[.slice A0_0 l0_0.length c0_0, .slice A0_1 l0_1.length c0_1] 24 (0, 0)) (by (with_reducible repeat (first | refine blk_drewN ?_ _ | refine blk_drew ?_ | refine blk_alloc ?_ _)); exact BK271.out) hb); have n3_ := Aside0.mk (blk_below (g := gb272) (o := .cells #[.string a2_0, .string a2_1, .string a2_2, .string a2_3, .string a2_4, .string a2_5, .string a2_6, .string a2_7, .int .i64 a2_8, .int .i64 a2_9, .int .i64 a2_10, .int .i64 a2_11, .int .i64 a2_12, .int .i64 a2_13, .int .i64 a2_14, .bool a2_15, .bool a2_16, .slice A2_17 l2_17.length c2_17] 42 (0, 0)) (by (with_reducible repeat (first | refine blk_drewN ?_ _ | refine blk_drew ?_ | refine blk_alloc ?_ _)); exact BK272.out) hb); have n4_ := Aside0.mk (blk_below (g := gb285) (o := .cells #[.slice Ao38 t279.length co38, .slice Ao42 t282.length co42] 24 (0, 0)) (by (with_reducible repeat (first | refine blk_drewN ?_ _ | refine blk_drew ?_ | refine blk_alloc ?_ _)); exact BK285.out) hb); have n5_ := Aside0.mk (below_step (by repeat (first | (with_reducible first | exact HB.out | apply below_alloc | apply pw_below_drewN | apply below_drew1 | refine below_set ?_ GE271.out | refine below_set ?_ GE272.out | refine below_set ?_ GE285.out) | exact HB.out)) hb); clear HO_286000; clear HO_286001; clear BK271; clear BK272; clear BK285; clear HB; have HO_286000 := n0_; have HO_286001 := n1_; have BK271 := n2_; have BK272 := n3_; have BK285 := n4_; have HB := n5_; clear n0_ n1_ n2_ n3_ n4_ n5_; (try clear hb); (try clear hb2); (try clear hk); (try clear hi)))
            go_ret
            exact ⟨by first | rfl | (simp [errW_none, errW_some] <;> rfl) | (simp [*, errW_none, errW_some] <;> rfl), by repeat (first | (with_reducible first | exact HB.out | apply below_alloc | apply pw_below_drewN | apply below_drew1 | refine below_set ?_ GE271.out | refine below_set ?_ GE272.out | refine below_set ?_ GE285.out) | exact HB.out)⟩
           ·rw [if_neg c81] at H
            have c81b0 : (t299 == 0) = false := beq_eq_false_iff_ne.mpr c81
            have c81b1 : (t299 != 0) = true := bne_iff_ne.mpr c81
            clear hT; obtain rfl := Option.some.inj H
            have hnb92 := NB271_272.out
            have hnc92 := NB272_271.out
            have hnb93 := NB271_285.out
            have hnc93 := NB285_271.out
            have hcz94_0 : wc.cell? ⟨gb271, 0, none⟩ = some (.slice A0_0 l0_0.length c0_0) := (blk_cell BK271.out 0).trans rfl
            have hcz94_1 : wc.cell? ⟨gb271, 1, none⟩ = some (.slice A0_1 l0_1.length c0_1) := (blk_cell BK271.out 1).trans rfl
            have hfz94_0 := blk_frozen BK271.out 0
            have hfz94_1 := blk_frozen BK271.out 1
            have hnb95 := NB272_285.out
            have hnc95 := NB285_272.out
            go_wp2_with (first | ((with_reducible refine gate_dst (N := 106) rfl ?_); (try (refine gate_guard (by rfl) ?_; dsimp only)); refine wpList_load_row rfl 42 _ rfl gb272 rfl 42 #[.string a2_0, .string a2_1, .string a2_2, .string a2_3, .string a2_4, .string a2_5, .string a2_6, .string a2_7, .int .i64 a2_8, .int .i64 a2_9, .int .i64 a2_10, .int .i64 a2_11, .int .i64 a2_12, .int .i64 a2_13, .int .i64 a2_14, .bool a2_15, .bool a2_16, .slice A2_17 l2_17.length c2_17] (0, 0) _ BK272.out Try.underlying42 rfl (by kernel_rfl) ?_) | ((with_reducible refine gate_dst (N := 113) rfl ?_); (try (refine gate_guard (by rfl) ?_; dsimp only)); refine wpList_load_row rfl 42 _ rfl gb272 rfl 42 #[.string a2_0, .string a2_1, .string a2_2, .string a2_3, .string a2_4, .string a2_5, .string a2_6, .string a2_7, .int .i64 a2_8, .int .i64 a2_9, .int .i64 a2_10, .int .i64 a2_11, .int .i64 a2_12, .int .i64 a2_13, .int .i64 a2_14, .bool a2_15, .bool a2_16, .slice A2_17 l2_17.length c2_17] (0, 0) _ BK272.out Try.underlying42 rfl (by kernel_rfl) ?_) | ((with_reducible refine gate_callee (f := 21) rfl ?_); refine goesL_ (some 109) rfl rfl Try.func21 (by kernel_rfl) rfl #[.agg #[.slice A0_0 l0_0.length c0_0, .slice A0_1 l0_1.length c0_1], .agg #[.string a2_0, .string a2_1, .string a2_2, .string a2_3, .string a2_4, .string a2_5, .string a2_6, .string a2_7, .int .i64 a2_8, .int .i64 a2_9, .int .i64 a2_10, .int .i64 a2_11, .int .i64 a2_12, .int .i64 a2_13, .int .i64 a2_14, .bool a2_15, .bool a2_16, .slice A2_17 l2_17.length c2_17], .int .i64 a3, .int .i64 a4] rfl (by (try simp only [List.map_toArray, List.map_cons, List.map_nil]); first | done | rfl | (simp only [List.length_drop, List.length_take]; rfl)) ?_; (with_reducible refine (notice_Late.calls kj58 _ _ l0_0 _ _ l0_1 a2_0 a2_1 a2_2 a2_3 a2_4 a2_5 a2_6 a2_7 a2_8 a2_9 a2_10 a2_11 a2_12 a2_13 a2_14 a2_15 a2_16 _ _ l2_17 a3 a4 t299 _ ?side1 ?side2 ?side3 ?side4 ?side5 ?side6 A80.out).mono ?_); (case side1 => repeat (first | exact (Kd.C_below HR0_0.out HB.out) | (with_reducible refine Kd.C_alloc ?_ _) | (with_reducible refine Kd.C_drewN ?_ _) | (with_reducible refine Kd.C_drew ?_))); (case side2 => exact HC0_0.out); (case side3 => repeat (first | exact (Kd.C_below HR0_1.out HB.out) | (with_reducible refine Kd.C_alloc ?_ _) | (with_reducible refine Kd.C_drewN ?_ _) | (with_reducible refine Kd.C_drew ?_))); (case side4 => exact HC0_1.out); (case side5 => repeat (first | exact (Kd.C_below HR2_17.out HB.out) | (with_reducible refine Kd.C_alloc ?_ _) | (with_reducible refine Kd.C_drewN ?_ _) | (with_reducible refine Kd.C_drew ?_))); (case side6 => exact HC2_17.out); rintro e w97 ⟨rfl, hb⟩; refine ⟨_, rfl, ?_⟩; have n0_ := Aside0.mk (Kd.R_below (by (with_reducible repeat (first | apply Kd.R_alloc | apply Kd.R_drewN | apply Kd.R_drew)); exact HO_286000.out) hb); have n1_ := Aside0.mk (Kd.R_below (by (with_reducible repeat (first | apply Kd.R_alloc | apply Kd.R_drewN | apply Kd.R_drew)); exact HO_286001.out) hb); have n2_ := Aside0.mk (blk_below (g := gb271) (o := .cells #[.slice A0_0 l0_0.length c0_0, .slice A0_1 l0_1.length c0_1] 24 (0, 0)) (by (with_reducible repeat (first | refine blk_drewN ?_ _ | refine blk_drew ?_ | refine blk_alloc ?_ _)); exact BK271.out) hb); have n3_ := Aside0.mk (blk_below (g := gb272) (o := .cells #[.string a2_0, .string a2_1, .string a2_2, .string a2_3, .string a2_4, .string a2_5, .string a2_6, .string a2_7, .int .i64 a2_8, .int .i64 a2_9, .int .i64 a2_10, .int .i64 a2_11, .int .i64 a2_12, .int .i64 a2_13, .int .i64 a2_14, .bool a2_15, .bool a2_16, .slice A2_17 l2_17.length c2_17] 42 (0, 0)) (by (with_reducible repeat (first | refine blk_drewN ?_ _ | refine blk_drew ?_ | refine blk_alloc ?_ _)); exact BK272.out) hb); have n4_ := Aside0.mk (blk_below (g := gb285) (o := .cells #[.slice Ao38 t279.length co38, .slice Ao42 t282.length co42] 24 (0, 0)) (by (with_reducible repeat (first | refine blk_drewN ?_ _ | refine blk_drew ?_ | refine blk_alloc ?_ _)); exact BK285.out) hb); have n5_ := Aside0.mk (below_step (by repeat (first | (with_reducible first | exact HB.out | apply below_alloc | apply pw_below_drewN | apply below_drew1 | refine below_set ?_ GE271.out | refine below_set ?_ GE272.out | refine below_set ?_ GE285.out) | exact HB.out)) hb); clear HO_286000; clear HO_286001; clear BK271; clear BK272; clear BK285; clear HB; have HO_286000 := n0_; have HO_286001 := n1_; have BK271 := n2_; have BK272 := n3_; have BK285 := n4_; have HB := n5_; clear n0_ n1_ n2_ n3_ n4_ n5_; (try clear hb); (try clear hb2); (try clear hk); (try clear hi)))
            go_ret
            exact ⟨by first | rfl | (simp [errW_none, errW_some] <;> rfl) | (simp [*, errW_none, errW_some] <;> rfl), by repeat (first | (with_reducible first | exact HB.out | apply below_alloc | apply pw_below_drewN | apply below_drew1 | refine below_set ?_ GE271.out | refine below_set ?_ GE272.out | refine below_set ?_ GE285.out) | exact HB.out)⟩
 ·replace c8 := Bool.eq_false_iff.mpr c8
  subst c8
  have H1 : (some false) = some r := by rw [if_neg (show ¬ (false = true) by decide)] at H; exact H
  clear H
  have H := H1
  clear H1
  exact absurd (Option.some.inj H) (by rw [hT.out]; decide)

end Go.Proofs.Ytjagffhmdafnmaa.X
