-- Written for this claim by a program of this session (wip/tools/xprint.py) out of the translation.
import Derived.Test.YtjagffhmdafnmaaX0
import Derived.Test.YtjagffhmdafnmaaX3
import Derived.Test.YtjagffhmdafnmaaX4
import Derived.Test.YtjagffhmdafnmaaX5
namespace Go.Proofs.Ytjagffhmdafnmaa.X
open Go.RowKit Go.Proofs.YtjagffhmdafnmaaW.PrintWords Go.Proofs.YtjagffhmdafnmaaW.PrintLast Go.Proofs.YtjagffhmdafnmaaW.PrintMore
attribute [local go_sem] max2_int min2_int max_two min_two max_three min_three max_four min_four   -- for this text's walks alone
set_option linter.unusedVariables false
set_option linter.unusedSimpArgs false

/-! ### supercargolaw35_NoticeCounts: function 3 -/
mutual
def supercargolaw35_NoticeCounts.j0 : Nat → Int → Int → Bool → List Int → List Int → Option (Bool)
  | 0, _, _, _, _, _ => none
  | k + 1, x1, x5, x23, x174000, x174001 => if x23 = true then (some true) else (if (wrap64 (x5 - x1)) > 400 then (some true) else ((notice_Days.f k x174000 x174001 x1 x1).bind fun t178 => (if t178 = 5 then ((notice_Days.f k x174000 x174001 x1 x5).bind fun t179 => (if t179 = 0 then ((supercargoref02_Works.f k x174000 x174001 x5).bind fun t180 => (supercargolaw35_NoticeCounts.j1 k x1 x5 (!t180) x174000 x174001)) else (supercargolaw35_NoticeCounts.j1 k x1 x5 true x174000 x174001))) else (supercargolaw35_NoticeCounts.j1 k x1 x5 true x174000 x174001))))
def supercargolaw35_NoticeCounts.j1 : Nat → Int → Int → Bool → List Int → List Int → Option (Bool)
  | 0, _, _, _, _, _ => none
  | k + 1, x1, x5, x45, x174000, x174001 => if x45 = true then (some false) else (supercargolaw35_NoticeCounts.l0 k x1 x5 (wrap64 (x1 + 1)) x174000 x174001)
def supercargolaw35_NoticeCounts.l0 : Nat → Int → Int → Int → List Int → List Int → Option (Bool)
  | 0, _, _, _, _, _ => none
  | k + 1, x1, x5, x7, x174000, x174001 => if x7 ≤ (wrap64 (x5 + 1)) then ((notice_Days.f k x174000 x174001 x1 (wrap64 (x7 - 1))).bind fun t181 => (if x7 ≤ x5 then ((supercargoref02_Works.f k x174000 x174001 x7).bind fun t182 => (supercargolaw35_NoticeCounts.j3 k x1 x5 x7 t181 t182 x174000 x174001)) else (supercargolaw35_NoticeCounts.j3 k x1 x5 x7 t181 false x174000 x174001))) else (some true)
def supercargolaw35_NoticeCounts.j3 : Nat → Int → Int → Int → Int → Bool → List Int → List Int → Option (Bool)
  | 0, _, _, _, _, _, _, _ => none
  | k + 1, x1, x5, x7, x8, x66, x174000, x174001 => if x66 = true then (supercargolaw35_NoticeCounts.j4 k x1 x5 x7 (wrap64 (x8 - 1)) x174000 x174001) else (supercargolaw35_NoticeCounts.j4 k x1 x5 x7 x8 x174000 x174001)
def supercargolaw35_NoticeCounts.j4 : Nat → Int → Int → Int → Int → List Int → List Int → Option (Bool)
  | 0, _, _, _, _, _, _ => none
  | k + 1, x1, x5, x7, x8, x174000, x174001 => (notice_Days.f k x174000 x174001 x1 x7).bind fun t183 => (if t183 = x8 then ((notice_Precluded.f k x174000 x174001 x1 x7 false).bind fun t184 => (if (t184 != (decide (x7 > x5))) = true then (some false) else ((notice_Precluded.f k x174000 x174001 x1 x7 true).bind fun t185 => (if t185 = true then (some false) else (supercargolaw35_NoticeCounts.l0 k x1 x5 (wrap64 (x7 + 1)) x174000 x174001))))) else (some false))
end
def supercargolaw35_NoticeCounts.f (k : Nat) (l0_0 : List Int) (l0_1 : List Int) (a1 : Int) : Option (Bool) := (supercargolaw35_awake.f k).bind fun t174 => (if t174 = true then ((notice_Deadline.f k l0_0 l0_1 a1).bind fun bt175 => ((supercargolaw35_few.f l0_0 l0_1).bind fun t177 => (if t177 = true then (supercargolaw35_NoticeCounts.j0 k a1 bt175.1 (!bt175.2) l0_0 l0_1) else (supercargolaw35_NoticeCounts.j0 k a1 bt175.1 true l0_0 l0_1)))) else (some false))
theorem supercargolaw35_NoticeCounts.mono_l : ∀ k, (∀ y0 y1 y2 y3 y4, LeO (supercargolaw35_NoticeCounts.j0 k y0 y1 y2 y3 y4) (supercargolaw35_NoticeCounts.j0 (k + 1) y0 y1 y2 y3 y4)) ∧ (∀ y0 y1 y2 y3 y4, LeO (supercargolaw35_NoticeCounts.j1 k y0 y1 y2 y3 y4) (supercargolaw35_NoticeCounts.j1 (k + 1) y0 y1 y2 y3 y4)) ∧ (∀ y0 y1 y2 y3 y4, LeO (supercargolaw35_NoticeCounts.l0 k y0 y1 y2 y3 y4) (supercargolaw35_NoticeCounts.l0 (k + 1) y0 y1 y2 y3 y4)) ∧ (∀ y0 y1 y2 y3 y4 y5 y6, LeO (supercargolaw35_NoticeCounts.j3 k y0 y1 y2 y3 y4 y5 y6) (supercargolaw35_NoticeCounts.j3 (k + 1) y0 y1 y2 y3 y4 y5 y6)) ∧ (∀ y0 y1 y2 y3 y4 y5, LeO (supercargolaw35_NoticeCounts.j4 k y0 y1 y2 y3 y4 y5) (supercargolaw35_NoticeCounts.j4 (k + 1) y0 y1 y2 y3 y4 y5))
  | 0 => ⟨fun _ _ _ _ _ r h => by simp [supercargolaw35_NoticeCounts.j0] at h, fun _ _ _ _ _ r h => by simp [supercargolaw35_NoticeCounts.j1] at h, fun _ _ _ _ _ r h => by simp [supercargolaw35_NoticeCounts.l0] at h, fun _ _ _ _ _ _ _ r h => by simp [supercargolaw35_NoticeCounts.j3] at h, fun _ _ _ _ _ _ r h => by simp [supercargolaw35_NoticeCounts.j4] at h⟩
  | k + 1 => by
    obtain ⟨ih0, ih1, ih2, ih3, ih4⟩ := supercargolaw35_NoticeCounts.mono_l k
    refine ⟨?_, ?_, ?_, ?_, ?_⟩
    · intro y0 y1 y2 y3 y4
      unfold supercargolaw35_NoticeCounts.j0
      repeat' first
      | (with_reducible exact ih0 _ _ _ _ _)
      | (with_reducible exact ih1 _ _ _ _ _)
      | (with_reducible exact ih2 _ _ _ _ _)
      | (with_reducible exact ih3 _ _ _ _ _ _ _)
      | (with_reducible exact ih4 _ _ _ _ _ _)
      | (with_reducible exact notice_Days.mono _ _ _ _ _)
      | (with_reducible exact notice_Deadline.mono _ _ _ _)
      | (with_reducible exact notice_Precluded.mono _ _ _ _ _ _)
      | (with_reducible exact supercargolaw35_awake.mono _)
      | (with_reducible exact supercargoref02_Works.mono _ _ _ _)
      | (with_reducible exact LeO.refl _)
      | (with_reducible exact LeO.none _)
      | (with_reducible refine LeO.ite ?_ ?_)
      | (with_reducible refine LeO.bind ?_ (fun _ => ?_))
      | exact ih0 _ _ _ _ _
      | exact ih1 _ _ _ _ _
      | exact ih2 _ _ _ _ _
      | exact ih3 _ _ _ _ _ _ _
      | exact ih4 _ _ _ _ _ _
      | exact notice_Days.mono _ _ _ _ _
      | exact notice_Deadline.mono _ _ _ _
      | exact notice_Precluded.mono _ _ _ _ _ _
      | exact supercargolaw35_awake.mono _
      | exact supercargoref02_Works.mono _ _ _ _
      | exact LeO.none _
      | refine LeO.ite ?_ ?_
      | refine LeO.bind ?_ (fun _ => ?_)
    · intro y0 y1 y2 y3 y4
      unfold supercargolaw35_NoticeCounts.j1
      repeat' first
      | (with_reducible exact ih0 _ _ _ _ _)
      | (with_reducible exact ih1 _ _ _ _ _)
      | (with_reducible exact ih2 _ _ _ _ _)
      | (with_reducible exact ih3 _ _ _ _ _ _ _)
      | (with_reducible exact ih4 _ _ _ _ _ _)
      | (with_reducible exact notice_Days.mono _ _ _ _ _)
      | (with_reducible exact notice_Deadline.mono _ _ _ _)
      | (with_reducible exact notice_Precluded.mono _ _ _ _ _ _)
      | (with_reducible exact supercargolaw35_awake.mono _)
      | (with_reducible exact supercargoref02_Works.mono _ _ _ _)
      | (with_reducible exact LeO.refl _)
      | (with_reducible exact LeO.none _)
      | (with_reducible refine LeO.ite ?_ ?_)
      | (with_reducible refine LeO.bind ?_ (fun _ => ?_))
      | exact ih0 _ _ _ _ _
      | exact ih1 _ _ _ _ _
      | exact ih2 _ _ _ _ _
      | exact ih3 _ _ _ _ _ _ _
      | exact ih4 _ _ _ _ _ _
      | exact notice_Days.mono _ _ _ _ _
      | exact notice_Deadline.mono _ _ _ _
      | exact notice_Precluded.mono _ _ _ _ _ _
      | exact supercargolaw35_awake.mono _
      | exact supercargoref02_Works.mono _ _ _ _
      | exact LeO.none _
      | refine LeO.ite ?_ ?_
      | refine LeO.bind ?_ (fun _ => ?_)
    · intro y0 y1 y2 y3 y4
      unfold supercargolaw35_NoticeCounts.l0
      repeat' first
      | (with_reducible exact ih0 _ _ _ _ _)
      | (with_reducible exact ih1 _ _ _ _ _)
      | (with_reducible exact ih2 _ _ _ _ _)
      | (with_reducible exact ih3 _ _ _ _ _ _ _)
      | (with_reducible exact ih4 _ _ _ _ _ _)
      | (with_reducible exact notice_Days.mono _ _ _ _ _)
      | (with_reducible exact notice_Deadline.mono _ _ _ _)
      | (with_reducible exact notice_Precluded.mono _ _ _ _ _ _)
      | (with_reducible exact supercargolaw35_awake.mono _)
      | (with_reducible exact supercargoref02_Works.mono _ _ _ _)
      | (with_reducible exact LeO.refl _)
      | (with_reducible exact LeO.none _)
      | (with_reducible refine LeO.ite ?_ ?_)
      | (with_reducible refine LeO.bind ?_ (fun _ => ?_))
      | exact ih0 _ _ _ _ _
      | exact ih1 _ _ _ _ _
      | exact ih2 _ _ _ _ _
      | exact ih3 _ _ _ _ _ _ _
      | exact ih4 _ _ _ _ _ _
      | exact notice_Days.mono _ _ _ _ _
      | exact notice_Deadline.mono _ _ _ _
      | exact notice_Precluded.mono _ _ _ _ _ _
      | exact supercargolaw35_awake.mono _
      | exact supercargoref02_Works.mono _ _ _ _
      | exact LeO.none _
      | refine LeO.ite ?_ ?_
      | refine LeO.bind ?_ (fun _ => ?_)
    · intro y0 y1 y2 y3 y4 y5 y6
      unfold supercargolaw35_NoticeCounts.j3
      repeat' first
      | (with_reducible exact ih0 _ _ _ _ _)
      | (with_reducible exact ih1 _ _ _ _ _)
      | (with_reducible exact ih2 _ _ _ _ _)
      | (with_reducible exact ih3 _ _ _ _ _ _ _)
      | (with_reducible exact ih4 _ _ _ _ _ _)
      | (with_reducible exact notice_Days.mono _ _ _ _ _)
      | (with_reducible exact notice_Deadline.mono _ _ _ _)
      | (with_reducible exact notice_Precluded.mono _ _ _ _ _ _)
      | (with_reducible exact supercargolaw35_awake.mono _)
      | (with_reducible exact supercargoref02_Works.mono _ _ _ _)
      | (with_reducible exact LeO.refl _)
      | (with_reducible exact LeO.none _)
      | (with_reducible refine LeO.ite ?_ ?_)
      | (with_reducible refine LeO.bind ?_ (fun _ => ?_))
      | exact ih0 _ _ _ _ _
      | exact ih1 _ _ _ _ _
      | exact ih2 _ _ _ _ _
      | exact ih3 _ _ _ _ _ _ _
      | exact ih4 _ _ _ _ _ _
      | exact notice_Days.mono _ _ _ _ _
      | exact notice_Deadline.mono _ _ _ _
      | exact notice_Precluded.mono _ _ _ _ _ _
      | exact supercargolaw35_awake.mono _
      | exact supercargoref02_Works.mono _ _ _ _
      | exact LeO.none _
      | refine LeO.ite ?_ ?_
      | refine LeO.bind ?_ (fun _ => ?_)
    · intro y0 y1 y2 y3 y4 y5
      unfold supercargolaw35_NoticeCounts.j4
      repeat' first
      | (with_reducible exact ih0 _ _ _ _ _)
      | (with_reducible exact ih1 _ _ _ _ _)
      | (with_reducible exact ih2 _ _ _ _ _)
      | (with_reducible exact ih3 _ _ _ _ _ _ _)
      | (with_reducible exact ih4 _ _ _ _ _ _)
      | (with_reducible exact notice_Days.mono _ _ _ _ _)
      | (with_reducible exact notice_Deadline.mono _ _ _ _)
      | (with_reducible exact notice_Precluded.mono _ _ _ _ _ _)
      | (with_reducible exact supercargolaw35_awake.mono _)
      | (with_reducible exact supercargoref02_Works.mono _ _ _ _)
      | (with_reducible exact LeO.refl _)
      | (with_reducible exact LeO.none _)
      | (with_reducible refine LeO.ite ?_ ?_)
      | (with_reducible refine LeO.bind ?_ (fun _ => ?_))
      | exact ih0 _ _ _ _ _
      | exact ih1 _ _ _ _ _
      | exact ih2 _ _ _ _ _
      | exact ih3 _ _ _ _ _ _ _
      | exact ih4 _ _ _ _ _ _
      | exact notice_Days.mono _ _ _ _ _
      | exact notice_Deadline.mono _ _ _ _
      | exact notice_Precluded.mono _ _ _ _ _ _
      | exact supercargolaw35_awake.mono _
      | exact supercargoref02_Works.mono _ _ _ _
      | exact LeO.none _
      | refine LeO.ite ?_ ?_
      | refine LeO.bind ?_ (fun _ => ?_)
theorem supercargolaw35_NoticeCounts.mono : ∀ a0 a1 a2 k, LeO (supercargolaw35_NoticeCounts.f k a0 a1 a2) (supercargolaw35_NoticeCounts.f (k + 1) a0 a1 a2) := by
  intro a0 a1 a2 k
  obtain ⟨ih0, ih1, ih2, ih3, ih4⟩ := supercargolaw35_NoticeCounts.mono_l k
  unfold supercargolaw35_NoticeCounts.f
  repeat' first
      | (with_reducible exact ih0 _ _ _ _ _)
      | (with_reducible exact ih1 _ _ _ _ _)
      | (with_reducible exact ih2 _ _ _ _ _)
      | (with_reducible exact ih3 _ _ _ _ _ _ _)
      | (with_reducible exact ih4 _ _ _ _ _ _)
      | (with_reducible exact notice_Days.mono _ _ _ _ _)
      | (with_reducible exact notice_Deadline.mono _ _ _ _)
      | (with_reducible exact notice_Precluded.mono _ _ _ _ _ _)
      | (with_reducible exact supercargolaw35_awake.mono _)
      | (with_reducible exact supercargoref02_Works.mono _ _ _ _)
      | (with_reducible exact LeO.refl _)
      | (with_reducible exact LeO.none _)
      | (with_reducible refine LeO.ite ?_ ?_)
      | (with_reducible refine LeO.bind ?_ (fun _ => ?_))
      | exact ih0 _ _ _ _ _
      | exact ih1 _ _ _ _ _
      | exact ih2 _ _ _ _ _
      | exact ih3 _ _ _ _ _ _ _
      | exact ih4 _ _ _ _ _ _
      | exact notice_Days.mono _ _ _ _ _
      | exact notice_Deadline.mono _ _ _ _
      | exact notice_Precluded.mono _ _ _ _ _ _
      | exact supercargolaw35_awake.mono _
      | exact supercargoref02_Works.mono _ _ _ _
      | exact LeO.none _
      | refine LeO.ite ?_ ?_
      | refine LeO.bind ?_ (fun _ => ?_)
set_option maxHeartbeats 8000000 in
set_option maxRecDepth 100000 in
theorem supercargolaw35_NoticeCounts.calls (k : Nat) (A0_0 : Option Addr) (c0_0 : Nat) (l0_0 : List Int) (A0_1 : Option Addr) (c0_1 : Nat) (l0_1 : List Int) (a1 : Int) (r : Bool) (w : World) (hr0_0 : Kd.C (Kd.int .i64) w A0_0 l0_0.length l0_0) (hc0_0 : l0_0.length ≤ c0_0) (hr0_1 : Kd.C (Kd.int .i64) w A0_1 l0_1.length l0_1) (hc0_1 : l0_1.length ≤ c0_1) (h : supercargolaw35_NoticeCounts.f k l0_0 l0_1 a1 = some r) (hT : Aside0 (r = true)) :
    Calls Try.prog 3 #[.agg #[.slice A0_0 l0_0.length c0_0, .slice A0_1 l0_1.length c0_1], .int .i64 a1] w fun e w' => e = .returned (.bool r) ∧ Below w.heap.size w w' := by
  have hu24 := Try.underlying24
  have HR0_0 := Aside0.mk hr0_0
  have HC0_0 := Aside0.mk hc0_0
  clear hr0_0 hc0_0
  have HR0_1 := Aside0.mk hr0_1
  have HC0_1 := Aside0.mk hc0_1
  clear hr0_1 hc0_1
  have HB := Aside0.mk (Below.refl w.heap.size w)
  have H : ((supercargolaw35_awake.f k).bind fun t174 => (if t174 = true then ((notice_Deadline.f k l0_0 l0_1 a1).bind fun bt175 => ((supercargolaw35_few.f l0_0 l0_1).bind fun t177 => (if t177 = true then (supercargolaw35_NoticeCounts.j0 k a1 bt175.1 (!bt175.2) l0_0 l0_1) else (supercargolaw35_NoticeCounts.j0 k a1 bt175.1 true l0_0 l0_1)))) else (some false))) = some r := h
  clear h
  replace H := Option.bind_eq_some_iff.mp H
  obtain ⟨t174, A30, H⟩ := H
  replace H : (if t174 = true then ((notice_Deadline.f k l0_0 l0_1 a1).bind fun bt175 => ((supercargolaw35_few.f l0_0 l0_1).bind fun t177 => (if t177 = true then (supercargolaw35_NoticeCounts.j0 k a1 bt175.1 (!bt175.2) l0_0 l0_1) else (supercargolaw35_NoticeCounts.j0 k a1 bt175.1 true l0_0 l0_1)))) else (some false)) = some r := H
  have A3 := Aside0.mk A30
  clear A30
  by_cases c4 : t174 = true
  · subst c4
    have H1 : ((notice_Deadline.f k l0_0 l0_1 a1).bind fun bt175 => ((supercargolaw35_few.f l0_0 l0_1).bind fun t177 => (if t177 = true then (supercargolaw35_NoticeCounts.j0 k a1 bt175.1 (!bt175.2) l0_0 l0_1) else (supercargolaw35_NoticeCounts.j0 k a1 bt175.1 true l0_0 l0_1)))) = some r := by rw [if_pos rfl] at H; exact H
    clear H
    have H := H1
    clear H1
    replace H := Option.bind_eq_some_iff.mp H
    obtain ⟨⟨t175, t176⟩, A50, H⟩ := H
    replace H : ((supercargolaw35_few.f l0_0 l0_1).bind fun t177 => (if t177 = true then (supercargolaw35_NoticeCounts.j0 k a1 t175 (!t176) l0_0 l0_1) else (supercargolaw35_NoticeCounts.j0 k a1 t175 true l0_0 l0_1))) = some r := H
    have A5 := Aside0.mk A50
    clear A50
    have HC6 := Aside0.mk H
    clear H
    go_enter Try.func3, Try.ntmps3
    go_upto_region 4 with (first | ((with_reducible refine gate_dst (N := 2) rfl ?_); refine box_event ?hg (N := 2) ?hd (cs := #[.slice A0_0 l0_0.length c0_0, .slice A0_1 l0_1.length c0_1]) (t := 24) ?hr ?_; (case hd => rfl); (case hg => rfl); (case hr => first | (go_simp; done) | (go_simp; rfl)); intro gb173 hg w7 hbox hb; have n0_ := Aside0.mk (below_step (by repeat (first | (with_reducible first | exact HB.out | apply below_alloc | apply pw_below_drewN | apply below_drew1) | exact HB.out)) hb); have n1_ := Aside0.mk (hbox); have n2_ := Aside0.mk ((by rw [hg]; exact (below_size (by repeat (first | (with_reducible first | exact HB.out | apply below_alloc | apply pw_below_drewN | apply below_drew1) | exact HB.out))) : w.heap.size ≤ gb173)); have n3_ := Aside0.mk ((by rw [hg]; exact (below_size (by repeat (first | (with_reducible first | exact HB.out | apply below_alloc | apply pw_below_drewN | apply below_drew1) | exact HB.out))) : w.heap.size ≤ gb173)); clear HB; have HB := n0_; have BK173 := n1_; have GW173 := n2_; have GE173 := n3_; clear n0_ n1_ n2_ n3_; clear hb hbox hg) | ((with_reducible refine gate_callee (f := 9) rfl ?_); refine goesL_ (some 9) rfl rfl Try.func9 (by kernel_rfl) rfl #[] rfl (by (try simp only [List.map_toArray, List.map_cons, List.map_nil]); first | done | rfl | (simp only [List.length_drop, List.length_take]; rfl)) ?_; (with_reducible refine (supercargolaw35_awake.calls k  true _ A3.out).mono ?_); rintro e w8 ⟨rfl, hb⟩; refine ⟨_, rfl, ?_⟩; have n0_ := Aside0.mk (blk_below (g := gb173) (o := .cells #[.slice A0_0 l0_0.length c0_0, .slice A0_1 l0_1.length c0_1] 24 (0, 0)) (by (with_reducible repeat (first | refine blk_drewN ?_ _ | refine blk_drew ?_ | refine blk_alloc ?_ _)); exact BK173.out) hb); have n1_ := Aside0.mk (below_step (by repeat (first | (with_reducible first | exact HB.out | apply below_alloc | apply pw_below_drewN | apply below_drew1 | refine below_set ?_ GE173.out) | exact HB.out)) hb); clear BK173; clear HB; have BK173 := n0_; have HB := n1_; clear n0_ n1_; (try clear hb); (try clear hb2); (try clear hk); (try clear hi); have hcz9_0 : w8.cell? ⟨gb173, 0, none⟩ = some (.slice A0_0 l0_0.length c0_0) := (blk_cell BK173.out 0).trans rfl; have hcz9_1 : w8.cell? ⟨gb173, 1, none⟩ = some (.slice A0_1 l0_1.length c0_1) := (blk_cell BK173.out 1).trans rfl; have hfz9_0 := blk_frozen BK173.out 0; have hfz9_1 := blk_frozen BK173.out 1) | ((with_reducible refine gate_callee (f := 10) rfl ?_); refine goesL_ (some 14) rfl rfl Try.func10 (by kernel_rfl) rfl #[.agg #[.slice A0_0 l0_0.length c0_0, .slice A0_1 l0_1.length c0_1], .int .i64 a1] rfl (by (try simp only [List.map_toArray, List.map_cons, List.map_nil]); first | done | rfl | (simp only [List.length_drop, List.length_take]; rfl)) ?_; (with_reducible refine (notice_Deadline.calls k _ _ l0_0 _ _ l0_1 a1 t175 t176 _ ?side1 ?side2 ?side3 ?side4 A5.out).mono ?_); (case side1 => repeat (first | exact (Kd.C_below HR0_0.out HB.out) | (with_reducible refine Kd.C_alloc ?_ _) | (with_reducible refine Kd.C_drewN ?_ _) | (with_reducible refine Kd.C_drew ?_))); (case side2 => exact HC0_0.out); (case side3 => repeat (first | exact (Kd.C_below HR0_1.out HB.out) | (with_reducible refine Kd.C_alloc ?_ _) | (with_reducible refine Kd.C_drewN ?_ _) | (with_reducible refine Kd.C_drew ?_))); (case side4 => exact HC0_1.out); rintro e w10 ⟨rfl, hb⟩; refine ⟨_, rfl, ?_⟩; have n0_ := Aside0.mk (blk_below (g := gb173) (o := .cells #[.slice A0_0 l0_0.length c0_0, .slice A0_1 l0_1.length c0_1] 24 (0, 0)) (by (with_reducible repeat (first | refine blk_drewN ?_ _ | refine blk_drew ?_ | refine blk_alloc ?_ _)); exact BK173.out) hb); have n1_ := Aside0.mk (below_step (by repeat (first | (with_reducible first | exact HB.out | apply below_alloc | apply pw_below_drewN | apply below_drew1 | refine below_set ?_ GE173.out) | exact HB.out)) hb); clear BK173; clear HB; have BK173 := n0_; have HB := n1_; clear n0_ n1_; (try clear hb); (try clear hb2); (try clear hk); (try clear hi)))
    (try simp only [Act.put, List.setIfInBounds_toArray, List.set_cons_zero, List.set_cons_succ])
    go_cut [23] (fun v23 wc => ∃ (kq : Nat) (x23_5 : Bool), v23 = .bool x23_5 ∧ Aside0 (supercargolaw35_NoticeCounts.j0 kq a1 t175 x23_5 l0_0 l0_1 = some r) ∧ Aside0 (kq ≤ k) ∧ Aside0 (wc.heap[gb173]? = some (.cells #[(.slice A0_0 l0_0.length c0_0), (.slice A0_1 l0_1.length c0_1)] 24 (0, 0))) ∧ Aside0 (Below w.heap.size w wc))
    case first =>
      have H := HC6.out
      clear HC6
      replace H := Option.bind_eq_some_iff.mp H
      obtain ⟨t177, A110, H⟩ := H
      replace H : (if t177 = true then (supercargolaw35_NoticeCounts.j0 k a1 t175 (!t176) l0_0 l0_1) else (supercargolaw35_NoticeCounts.j0 k a1 t175 true l0_0 l0_1)) = some r := H
      have A11 := Aside0.mk A110
      clear A110
      by_cases c12 : t177 = true
      · subst c12
        have H1 : (supercargolaw35_NoticeCounts.j0 k a1 t175 (!t176) l0_0 l0_1) = some r := by rw [if_pos rfl] at H; exact H
        clear H
        have H := H1
        clear H1
        have H' := Aside0.mk H
        clear H
        have hcz13_0 : w10.cell? ⟨gb173, 0, none⟩ = some (.slice A0_0 l0_0.length c0_0) := (blk_cell BK173.out 0).trans rfl
        have hcz13_1 : w10.cell? ⟨gb173, 1, none⟩ = some (.slice A0_1 l0_1.length c0_1) := (blk_cell BK173.out 1).trans rfl
        have hfz13_0 := blk_frozen BK173.out 0
        have hfz13_1 := blk_frozen BK173.out 1
        go_wp2_with (first | ((with_reducible refine gate_callee (f := 11) rfl ?_); refine goesL_ (some 18) rfl rfl Try.func11 (by kernel_rfl) rfl #[.agg #[.slice A0_0 l0_0.length c0_0, .slice A0_1 l0_1.length c0_1]] rfl (by (try simp only [List.map_toArray, List.map_cons, List.map_nil]); first | done | rfl | (simp only [List.length_drop, List.length_take]; rfl)) ?_; (with_reducible refine (supercargolaw35_few.calls _ _ l0_0 _ _ l0_1 true _ ?side1 ?side2 ?side3 ?side4 A11.out).mono ?_); (case side1 => repeat (first | exact (Kd.C_below HR0_0.out HB.out) | (with_reducible refine Kd.C_alloc ?_ _) | (with_reducible refine Kd.C_drewN ?_ _) | (with_reducible refine Kd.C_drew ?_))); (case side2 => exact HC0_0.out); (case side3 => repeat (first | exact (Kd.C_below HR0_1.out HB.out) | (with_reducible refine Kd.C_alloc ?_ _) | (with_reducible refine Kd.C_drewN ?_ _) | (with_reducible refine Kd.C_drew ?_))); (case side4 => exact HC0_1.out); rintro e w14 ⟨rfl, hb⟩; refine ⟨_, rfl, ?_⟩; have n0_ := Aside0.mk (blk_below (g := gb173) (o := .cells #[.slice A0_0 l0_0.length c0_0, .slice A0_1 l0_1.length c0_1] 24 (0, 0)) (by (with_reducible repeat (first | refine blk_drewN ?_ _ | refine blk_drew ?_ | refine blk_alloc ?_ _)); exact BK173.out) hb); have n1_ := Aside0.mk (below_step (by repeat (first | (with_reducible first | exact HB.out | apply below_alloc | apply pw_below_drewN | apply below_drew1 | refine below_set ?_ GE173.out) | exact HB.out)) hb); clear BK173; clear HB; have BK173 := n0_; have HB := n1_; clear n0_ n1_; (try clear hb); (try clear hb2); (try clear hk); (try clear hi)))
        go_meet
        case rel => exact ⟨_, (!t176), (by first | rfl | (simp; done) | (simp [*]; done)), H', ⟨by first | omega | exact Nat.le_refl _⟩, ⟨by (with_reducible repeat (first | refine blk_drewN ?_ _ | refine blk_drew ?_ | refine blk_alloc ?_ _)); exact BK173.out⟩, ⟨by repeat (first | (with_reducible first | exact HB.out | apply below_alloc | apply pw_below_drewN | apply below_drew1 | refine below_set ?_ GE173.out) | exact HB.out)⟩⟩
      · replace c12 := Bool.eq_false_iff.mpr c12
        subst c12
        have H1 : (supercargolaw35_NoticeCounts.j0 k a1 t175 true l0_0 l0_1) = some r := by rw [if_neg (show ¬ (false = true) by decide)] at H; exact H
        clear H
        have H := H1
        clear H1
        have H' := Aside0.mk H
        clear H
        have hcz15_0 : w10.cell? ⟨gb173, 0, none⟩ = some (.slice A0_0 l0_0.length c0_0) := (blk_cell BK173.out 0).trans rfl
        have hcz15_1 : w10.cell? ⟨gb173, 1, none⟩ = some (.slice A0_1 l0_1.length c0_1) := (blk_cell BK173.out 1).trans rfl
        have hfz15_0 := blk_frozen BK173.out 0
        have hfz15_1 := blk_frozen BK173.out 1
        go_wp2_with (first | ((with_reducible refine gate_callee (f := 11) rfl ?_); refine goesL_ (some 18) rfl rfl Try.func11 (by kernel_rfl) rfl #[.agg #[.slice A0_0 l0_0.length c0_0, .slice A0_1 l0_1.length c0_1]] rfl (by (try simp only [List.map_toArray, List.map_cons, List.map_nil]); first | done | rfl | (simp only [List.length_drop, List.length_take]; rfl)) ?_; (with_reducible refine (supercargolaw35_few.calls _ _ l0_0 _ _ l0_1 false _ ?side1 ?side2 ?side3 ?side4 A11.out).mono ?_); (case side1 => repeat (first | exact (Kd.C_below HR0_0.out HB.out) | (with_reducible refine Kd.C_alloc ?_ _) | (with_reducible refine Kd.C_drewN ?_ _) | (with_reducible refine Kd.C_drew ?_))); (case side2 => exact HC0_0.out); (case side3 => repeat (first | exact (Kd.C_below HR0_1.out HB.out) | (with_reducible refine Kd.C_alloc ?_ _) | (with_reducible refine Kd.C_drewN ?_ _) | (with_reducible refine Kd.C_drew ?_))); (case side4 => exact HC0_1.out); rintro e w16 ⟨rfl, hb⟩; refine ⟨_, rfl, ?_⟩; have n0_ := Aside0.mk (blk_below (g := gb173) (o := .cells #[.slice A0_0 l0_0.length c0_0, .slice A0_1 l0_1.length c0_1] 24 (0, 0)) (by (with_reducible repeat (first | refine blk_drewN ?_ _ | refine blk_drew ?_ | refine blk_alloc ?_ _)); exact BK173.out) hb); have n1_ := Aside0.mk (below_step (by repeat (first | (with_reducible first | exact HB.out | apply below_alloc | apply pw_below_drewN | apply below_drew1 | refine below_set ?_ GE173.out) | exact HB.out)) hb); clear BK173; clear HB; have BK173 := n0_; have HB := n1_; clear n0_ n1_; (try clear hb); (try clear hb2); (try clear hk); (try clear hi)))
        go_meet
        case rel => exact ⟨_, (true), (by first | rfl | (simp; done) | (simp [*]; done)), H', ⟨by first | omega | exact Nat.le_refl _⟩, ⟨by (with_reducible repeat (first | refine blk_drewN ?_ _ | refine blk_drew ?_ | refine blk_alloc ?_ _)); exact BK173.out⟩, ⟨by repeat (first | (with_reducible first | exact HB.out | apply below_alloc | apply pw_below_drewN | apply below_drew1 | refine below_set ?_ GE173.out) | exact HB.out)⟩⟩
    case rest =>
      clear HC6
      try clear c1
      try clear p2
      try clear c3
      try clear c4
      try clear c9
      try clear c10
      try clear c11
      try clear c12
      try clear hcz13_0
      try clear hcz13_1
      try clear hcz15_0
      try clear hcz15_1
      try clear hcz9_0
      try clear hcz9_1
      try clear hfz13_0
      try clear hfz13_1
      try clear hfz15_0
      try clear hfz15_1
      try clear hfz9_0
      try clear hfz9_1
      obtain ⟨kq, x23_5, rfl, HA, HJ5, BK173, HB⟩ := hcut
      cases kq with
      | zero => exact absurd HA.out (by simp [supercargolaw35_NoticeCounts.j0])
      | succ kj5 =>
        have H := HA.out
        clear HA
        simp only [supercargolaw35_NoticeCounts.j0] at H
        by_cases c17 : x23_5 = true
        · subst c17
          have H1 : (some true) = some r := by rw [if_pos rfl] at H; exact H
          clear H
          have H := H1
          clear H1
          clear hT; obtain rfl := Option.some.inj H
          go_wp2
          go_ret
          exact ⟨by first | rfl | (simp [errW_none, errW_some] <;> rfl) | (simp [*, errW_none, errW_some] <;> rfl), by repeat (first | (with_reducible first | exact HB.out | apply below_alloc | apply pw_below_drewN | apply below_drew1 | refine below_set ?_ GE173.out) | exact HB.out)⟩
        · replace c17 := Bool.eq_false_iff.mpr c17
          subst c17
          have H1 : (if (wrap64 (t175 - a1)) > 400 then (some true) else ((notice_Days.f kj5 l0_0 l0_1 a1 a1).bind fun t178 => (if t178 = 5 then ((notice_Days.f kj5 l0_0 l0_1 a1 t175).bind fun t179 => (if t179 = 0 then ((supercargoref02_Works.f kj5 l0_0 l0_1 t175).bind fun t180 => (supercargolaw35_NoticeCounts.j1 kj5 a1 t175 (!t180) l0_0 l0_1)) else (supercargolaw35_NoticeCounts.j1 kj5 a1 t175 true l0_0 l0_1))) else (supercargolaw35_NoticeCounts.j1 kj5 a1 t175 true l0_0 l0_1)))) = some r := by rw [if_neg (show ¬ (false = true) by decide)] at H; exact H
          clear H
          have H := H1
          clear H1
          by_cases c18 : (wrap64 (t175 - a1)) > 400
          · rw [if_pos c18] at H
            have c18b0 : decide (400 < (wrap64 (t175 - a1))) = true := decide_eq_true c18
            clear c18
            clear hT; obtain rfl := Option.some.inj H
            go_wp2
            go_ret
            exact ⟨by first | rfl | (simp [errW_none, errW_some] <;> rfl) | (simp [*, errW_none, errW_some] <;> rfl), by repeat (first | (with_reducible first | exact HB.out | apply below_alloc | apply pw_below_drewN | apply below_drew1 | refine below_set ?_ GE173.out) | exact HB.out)⟩
          · rw [if_neg c18] at H
            have c18b0 : decide (400 < (wrap64 (t175 - a1))) = false := decide_eq_false c18
            clear c18
            have HC19 := Aside0.mk H
            clear H
            go_upto_region 8 with (fail)
            go_cut [45] (fun v45 wc => ∃ (kq : Nat) (x45_18 : Bool), v45 = .bool x45_18 ∧ Aside0 (supercargolaw35_NoticeCounts.j1 kq a1 t175 x45_18 l0_0 l0_1 = some r) ∧ Aside0 (kq ≤ kj5) ∧ Aside0 (wc.heap[gb173]? = some (.cells #[(.slice A0_0 l0_0.length c0_0), (.slice A0_1 l0_1.length c0_1)] 24 (0, 0))) ∧ Aside0 (Below w.heap.size w wc))
            case first =>
              have H := HC19.out
              clear HC19
              replace H := Option.bind_eq_some_iff.mp H
              obtain ⟨t178, A200, H⟩ := H
              replace H : (if t178 = 5 then ((notice_Days.f kj5 l0_0 l0_1 a1 t175).bind fun t179 => (if t179 = 0 then ((supercargoref02_Works.f kj5 l0_0 l0_1 t175).bind fun t180 => (supercargolaw35_NoticeCounts.j1 kj5 a1 t175 (!t180) l0_0 l0_1)) else (supercargolaw35_NoticeCounts.j1 kj5 a1 t175 true l0_0 l0_1))) else (supercargolaw35_NoticeCounts.j1 kj5 a1 t175 true l0_0 l0_1)) = some r := H
              have A20 := Aside0.mk A200
              clear A200
              by_cases c21 : t178 = 5
              · rw [if_pos c21] at H
                have c21b0 : (t178 == 5) = true := beq_iff_eq.mpr c21
                have c21b1 : (t178 != 5) = false := bne_eq_false_iff_eq.mpr c21
                clear c21
                (first | rw [c21b0] | (simp only [i64_w, i32_w]; rw [c21b0]) | skip)
                replace H := Option.bind_eq_some_iff.mp H
                obtain ⟨t179, A220, H⟩ := H
                replace H : (if t179 = 0 then ((supercargoref02_Works.f kj5 l0_0 l0_1 t175).bind fun t180 => (supercargolaw35_NoticeCounts.j1 kj5 a1 t175 (!t180) l0_0 l0_1)) else (supercargolaw35_NoticeCounts.j1 kj5 a1 t175 true l0_0 l0_1)) = some r := H
                have A22 := Aside0.mk A220
                clear A220
                by_cases c23 : t179 = 0
                · rw [if_pos c23] at H
                  have c23b0 : (t179 == 0) = true := beq_iff_eq.mpr c23
                  have c23b1 : (t179 != 0) = false := bne_eq_false_iff_eq.mpr c23
                  clear c23
                  replace H := Option.bind_eq_some_iff.mp H
                  obtain ⟨t180, A240, H⟩ := H
                  replace H : (supercargolaw35_NoticeCounts.j1 kj5 a1 t175 (!t180) l0_0 l0_1) = some r := H
                  have A24 := Aside0.mk A240
                  clear A240
                  have H' := Aside0.mk H
                  clear H
                  have hcz25_0 : wc.cell? ⟨gb173, 0, none⟩ = some (.slice A0_0 l0_0.length c0_0) := (blk_cell BK173.out 0).trans rfl
                  have hcz25_1 : wc.cell? ⟨gb173, 1, none⟩ = some (.slice A0_1 l0_1.length c0_1) := (blk_cell BK173.out 1).trans rfl
                  have hfz25_0 := blk_frozen BK173.out 0
                  have hfz25_1 := blk_frozen BK173.out 1
                  go_wp2_with (first | ((with_reducible refine gate_callee (f := 12) rfl ?_); refine goesL_ (some 31) rfl rfl Try.func12 (by kernel_rfl) rfl #[.agg #[.slice A0_0 l0_0.length c0_0, .slice A0_1 l0_1.length c0_1], .int .i64 a1, .int .i64 a1] rfl (by (try simp only [List.map_toArray, List.map_cons, List.map_nil]); first | done | rfl | (simp only [List.length_drop, List.length_take]; rfl)) ?_; (with_reducible refine (notice_Days.calls kj5 _ _ l0_0 _ _ l0_1 a1 a1 t178 _ ?side1 ?side2 ?side3 ?side4 A20.out).mono ?_); (case side1 => repeat (first | exact (Kd.C_below HR0_0.out HB.out) | (with_reducible refine Kd.C_alloc ?_ _) | (with_reducible refine Kd.C_drewN ?_ _) | (with_reducible refine Kd.C_drew ?_))); (case side2 => exact HC0_0.out); (case side3 => repeat (first | exact (Kd.C_below HR0_1.out HB.out) | (with_reducible refine Kd.C_alloc ?_ _) | (with_reducible refine Kd.C_drewN ?_ _) | (with_reducible refine Kd.C_drew ?_))); (case side4 => exact HC0_1.out); rintro e w26 ⟨rfl, hb⟩; refine ⟨_, rfl, ?_⟩; have n0_ := Aside0.mk (blk_below (g := gb173) (o := .cells #[.slice A0_0 l0_0.length c0_0, .slice A0_1 l0_1.length c0_1] 24 (0, 0)) (by (with_reducible repeat (first | refine blk_drewN ?_ _ | refine blk_drew ?_ | refine blk_alloc ?_ _)); exact BK173.out) hb); have n1_ := Aside0.mk (below_step (by repeat (first | (with_reducible first | exact HB.out | apply below_alloc | apply pw_below_drewN | apply below_drew1 | refine below_set ?_ GE173.out) | exact HB.out)) hb); clear BK173; clear HB; have BK173 := n0_; have HB := n1_; clear n0_ n1_; (try clear hb); (try clear hb2); (try clear hk); (try clear hi); have hcz27_0 : w26.cell? ⟨gb173, 0, none⟩ = some (.slice A0_0 l0_0.length c0_0) := (blk_cell BK173.out 0).trans rfl; have hcz27_1 : w26.cell? ⟨gb173, 1, none⟩ = some (.slice A0_1 l0_1.length c0_1) := (blk_cell BK173.out 1).trans rfl; have hfz27_0 := blk_frozen BK173.out 0; have hfz27_1 := blk_frozen BK173.out 1) | (go_at_call 12; (with_reducible refine (notice_Days.calls kj5 _ _ l0_0 _ _ l0_1 a1 t175 t179 _ ?side1 ?side2 ?side3 ?side4 A22.out).mono ?_); (case side1 => repeat (first | exact (Kd.C_below HR0_0.out HB.out) | (with_reducible refine Kd.C_alloc ?_ _) | (with_reducible refine Kd.C_drewN ?_ _) | (with_reducible refine Kd.C_drew ?_))); (case side2 => exact HC0_0.out); (case side3 => repeat (first | exact (Kd.C_below HR0_1.out HB.out) | (with_reducible refine Kd.C_alloc ?_ _) | (with_reducible refine Kd.C_drewN ?_ _) | (with_reducible refine Kd.C_drew ?_))); (case side4 => exact HC0_1.out); rintro e w28 ⟨rfl, hb⟩; have n0_ := Aside0.mk (blk_below (g := gb173) (o := .cells #[.slice A0_0 l0_0.length c0_0, .slice A0_1 l0_1.length c0_1] 24 (0, 0)) (by (with_reducible repeat (first | refine blk_drewN ?_ _ | refine blk_drew ?_ | refine blk_alloc ?_ _)); exact BK173.out) hb); have n1_ := Aside0.mk (below_step (by repeat (first | (with_reducible first | exact HB.out | apply below_alloc | apply pw_below_drewN | apply below_drew1 | refine below_set ?_ GE173.out) | exact HB.out)) hb); clear BK173; clear HB; have BK173 := n0_; have HB := n1_; clear n0_ n1_; (try clear hb); (try clear hb2); (try clear hk); (try clear hi); have hcz29_0 : w28.cell? ⟨gb173, 0, none⟩ = some (.slice A0_0 l0_0.length c0_0) := (blk_cell BK173.out 0).trans rfl; have hcz29_1 : w28.cell? ⟨gb173, 1, none⟩ = some (.slice A0_1 l0_1.length c0_1) := (blk_cell BK173.out 1).trans rfl; have hfz29_0 := blk_frozen BK173.out 0; have hfz29_1 := blk_frozen BK173.out 1) | (go_at_call 13; (with_reducible refine (supercargoref02_Works.calls kj5 _ _ l0_0 _ _ l0_1 t175 t180 _ ?side1 ?side2 ?side3 ?side4 A24.out).mono ?_); (case side1 => repeat (first | exact (Kd.C_below HR0_0.out HB.out) | (with_reducible refine Kd.C_alloc ?_ _) | (with_reducible refine Kd.C_drewN ?_ _) | (with_reducible refine Kd.C_drew ?_))); (case side2 => exact HC0_0.out); (case side3 => repeat (first | exact (Kd.C_below HR0_1.out HB.out) | (with_reducible refine Kd.C_alloc ?_ _) | (with_reducible refine Kd.C_drewN ?_ _) | (with_reducible refine Kd.C_drew ?_))); (case side4 => exact HC0_1.out); rintro e w30 ⟨rfl, hb⟩; have n0_ := Aside0.mk (blk_below (g := gb173) (o := .cells #[.slice A0_0 l0_0.length c0_0, .slice A0_1 l0_1.length c0_1] 24 (0, 0)) (by (with_reducible repeat (first | refine blk_drewN ?_ _ | refine blk_drew ?_ | refine blk_alloc ?_ _)); exact BK173.out) hb); have n1_ := Aside0.mk (below_step (by repeat (first | (with_reducible first | exact HB.out | apply below_alloc | apply pw_below_drewN | apply below_drew1 | refine below_set ?_ GE173.out) | exact HB.out)) hb); clear BK173; clear HB; have BK173 := n0_; have HB := n1_; clear n0_ n1_; (try clear hb); (try clear hb2); (try clear hk); (try clear hi)))
                  go_meet
                  case rel => exact ⟨_, (!t180), (by first | rfl | (simp; done) | (simp [*]; done)), H', ⟨by have := HJ5.out; first | omega | exact Nat.le_refl _⟩, ⟨by (with_reducible repeat (first | refine blk_drewN ?_ _ | refine blk_drew ?_ | refine blk_alloc ?_ _)); exact BK173.out⟩, ⟨by repeat (first | (with_reducible first | exact HB.out | apply below_alloc | apply pw_below_drewN | apply below_drew1 | refine below_set ?_ GE173.out) | exact HB.out)⟩⟩
                · rw [if_neg c23] at H
                  have c23b0 : (t179 == 0) = false := beq_eq_false_iff_ne.mpr c23
                  have c23b1 : (t179 != 0) = true := bne_iff_ne.mpr c23
                  have H' := Aside0.mk H
                  clear H
                  have hcz31_0 : wc.cell? ⟨gb173, 0, none⟩ = some (.slice A0_0 l0_0.length c0_0) := (blk_cell BK173.out 0).trans rfl
                  have hcz31_1 : wc.cell? ⟨gb173, 1, none⟩ = some (.slice A0_1 l0_1.length c0_1) := (blk_cell BK173.out 1).trans rfl
                  have hfz31_0 := blk_frozen BK173.out 0
                  have hfz31_1 := blk_frozen BK173.out 1
                  go_wp2_with (first | ((with_reducible refine gate_callee (f := 12) rfl ?_); refine goesL_ (some 31) rfl rfl Try.func12 (by kernel_rfl) rfl #[.agg #[.slice A0_0 l0_0.length c0_0, .slice A0_1 l0_1.length c0_1], .int .i64 a1, .int .i64 a1] rfl (by (try simp only [List.map_toArray, List.map_cons, List.map_nil]); first | done | rfl | (simp only [List.length_drop, List.length_take]; rfl)) ?_; (with_reducible refine (notice_Days.calls kj5 _ _ l0_0 _ _ l0_1 a1 a1 t178 _ ?side1 ?side2 ?side3 ?side4 A20.out).mono ?_); (case side1 => repeat (first | exact (Kd.C_below HR0_0.out HB.out) | (with_reducible refine Kd.C_alloc ?_ _) | (with_reducible refine Kd.C_drewN ?_ _) | (with_reducible refine Kd.C_drew ?_))); (case side2 => exact HC0_0.out); (case side3 => repeat (first | exact (Kd.C_below HR0_1.out HB.out) | (with_reducible refine Kd.C_alloc ?_ _) | (with_reducible refine Kd.C_drewN ?_ _) | (with_reducible refine Kd.C_drew ?_))); (case side4 => exact HC0_1.out); rintro e w32 ⟨rfl, hb⟩; refine ⟨_, rfl, ?_⟩; have n0_ := Aside0.mk (blk_below (g := gb173) (o := .cells #[.slice A0_0 l0_0.length c0_0, .slice A0_1 l0_1.length c0_1] 24 (0, 0)) (by (with_reducible repeat (first | refine blk_drewN ?_ _ | refine blk_drew ?_ | refine blk_alloc ?_ _)); exact BK173.out) hb); have n1_ := Aside0.mk (below_step (by repeat (first | (with_reducible first | exact HB.out | apply below_alloc | apply pw_below_drewN | apply below_drew1 | refine below_set ?_ GE173.out) | exact HB.out)) hb); clear BK173; clear HB; have BK173 := n0_; have HB := n1_; clear n0_ n1_; (try clear hb); (try clear hb2); (try clear hk); (try clear hi); have hcz33_0 : w32.cell? ⟨gb173, 0, none⟩ = some (.slice A0_0 l0_0.length c0_0) := (blk_cell BK173.out 0).trans rfl; have hcz33_1 : w32.cell? ⟨gb173, 1, none⟩ = some (.slice A0_1 l0_1.length c0_1) := (blk_cell BK173.out 1).trans rfl; have hfz33_0 := blk_frozen BK173.out 0; have hfz33_1 := blk_frozen BK173.out 1) | (go_at_call 12; (with_reducible refine (notice_Days.calls kj5 _ _ l0_0 _ _ l0_1 a1 t175 t179 _ ?side1 ?side2 ?side3 ?side4 A22.out).mono ?_); (case side1 => repeat (first | exact (Kd.C_below HR0_0.out HB.out) | (with_reducible refine Kd.C_alloc ?_ _) | (with_reducible refine Kd.C_drewN ?_ _) | (with_reducible refine Kd.C_drew ?_))); (case side2 => exact HC0_0.out); (case side3 => repeat (first | exact (Kd.C_below HR0_1.out HB.out) | (with_reducible refine Kd.C_alloc ?_ _) | (with_reducible refine Kd.C_drewN ?_ _) | (with_reducible refine Kd.C_drew ?_))); (case side4 => exact HC0_1.out); rintro e w34 ⟨rfl, hb⟩; have n0_ := Aside0.mk (blk_below (g := gb173) (o := .cells #[.slice A0_0 l0_0.length c0_0, .slice A0_1 l0_1.length c0_1] 24 (0, 0)) (by (with_reducible repeat (first | refine blk_drewN ?_ _ | refine blk_drew ?_ | refine blk_alloc ?_ _)); exact BK173.out) hb); have n1_ := Aside0.mk (below_step (by repeat (first | (with_reducible first | exact HB.out | apply below_alloc | apply pw_below_drewN | apply below_drew1 | refine below_set ?_ GE173.out) | exact HB.out)) hb); clear BK173; clear HB; have BK173 := n0_; have HB := n1_; clear n0_ n1_; (try clear hb); (try clear hb2); (try clear hk); (try clear hi)))
                  go_meet
                  case rel => exact ⟨_, (true), (by first | rfl | (simp; done) | (simp [*]; done)), H', ⟨by have := HJ5.out; first | omega | exact Nat.le_refl _⟩, ⟨by (with_reducible repeat (first | refine blk_drewN ?_ _ | refine blk_drew ?_ | refine blk_alloc ?_ _)); exact BK173.out⟩, ⟨by repeat (first | (with_reducible first | exact HB.out | apply below_alloc | apply pw_below_drewN | apply below_drew1 | refine below_set ?_ GE173.out) | exact HB.out)⟩⟩
              · rw [if_neg c21] at H
                have c21b0 : (t178 == 5) = false := beq_eq_false_iff_ne.mpr c21
                have c21b1 : (t178 != 5) = true := bne_iff_ne.mpr c21
                (first | rw [c21b0] | (simp only [i64_w, i32_w]; rw [c21b0]) | skip)
                have H' := Aside0.mk H
                clear H
                have hcz35_0 : wc.cell? ⟨gb173, 0, none⟩ = some (.slice A0_0 l0_0.length c0_0) := (blk_cell BK173.out 0).trans rfl
                have hcz35_1 : wc.cell? ⟨gb173, 1, none⟩ = some (.slice A0_1 l0_1.length c0_1) := (blk_cell BK173.out 1).trans rfl
                have hfz35_0 := blk_frozen BK173.out 0
                have hfz35_1 := blk_frozen BK173.out 1
                go_wp2_with (first | ((with_reducible refine gate_callee (f := 12) rfl ?_); refine goesL_ (some 31) rfl rfl Try.func12 (by kernel_rfl) rfl #[.agg #[.slice A0_0 l0_0.length c0_0, .slice A0_1 l0_1.length c0_1], .int .i64 a1, .int .i64 a1] rfl (by (try simp only [List.map_toArray, List.map_cons, List.map_nil]); first | done | rfl | (simp only [List.length_drop, List.length_take]; rfl)) ?_; (with_reducible refine (notice_Days.calls kj5 _ _ l0_0 _ _ l0_1 a1 a1 t178 _ ?side1 ?side2 ?side3 ?side4 A20.out).mono ?_); (case side1 => repeat (first | exact (Kd.C_below HR0_0.out HB.out) | (with_reducible refine Kd.C_alloc ?_ _) | (with_reducible refine Kd.C_drewN ?_ _) | (with_reducible refine Kd.C_drew ?_))); (case side2 => exact HC0_0.out); (case side3 => repeat (first | exact (Kd.C_below HR0_1.out HB.out) | (with_reducible refine Kd.C_alloc ?_ _) | (with_reducible refine Kd.C_drewN ?_ _) | (with_reducible refine Kd.C_drew ?_))); (case side4 => exact HC0_1.out); rintro e w36 ⟨rfl, hb⟩; refine ⟨_, rfl, ?_⟩; have n0_ := Aside0.mk (blk_below (g := gb173) (o := .cells #[.slice A0_0 l0_0.length c0_0, .slice A0_1 l0_1.length c0_1] 24 (0, 0)) (by (with_reducible repeat (first | refine blk_drewN ?_ _ | refine blk_drew ?_ | refine blk_alloc ?_ _)); exact BK173.out) hb); have n1_ := Aside0.mk (below_step (by repeat (first | (with_reducible first | exact HB.out | apply below_alloc | apply pw_below_drewN | apply below_drew1 | refine below_set ?_ GE173.out) | exact HB.out)) hb); clear BK173; clear HB; have BK173 := n0_; have HB := n1_; clear n0_ n1_; (try clear hb); (try clear hb2); (try clear hk); (try clear hi)))
                go_meet
                case rel => exact ⟨_, (true), (by first | rfl | (simp; done) | (simp [*]; done)), H', ⟨by have := HJ5.out; first | omega | exact Nat.le_refl _⟩, ⟨by (with_reducible repeat (first | refine blk_drewN ?_ _ | refine blk_drew ?_ | refine blk_alloc ?_ _)); exact BK173.out⟩, ⟨by repeat (first | (with_reducible first | exact HB.out | apply below_alloc | apply pw_below_drewN | apply below_drew1 | refine below_set ?_ GE173.out) | exact HB.out)⟩⟩
            case rest =>
              clear HC19
              try clear c1
              try clear c2
              try clear p2
              try clear c3
              try clear c4
              try clear p6
              try clear c9
              try clear c10
              try clear c11
              try clear c12
              try clear c17
              try clear c18
              try clear c18b0
              try clear c21
              try clear c21b0
              try clear c21b1
              try clear c23
              try clear c23b0
              try clear c23b1
              try clear hcz13_0
              try clear hcz13_1
              try clear hcz15_0
              try clear hcz15_1
              try clear hcz25_0
              try clear hcz25_1
              try clear hcz27_0
              try clear hcz27_1
              try clear hcz29_0
              try clear hcz29_1
              try clear hcz31_0
              try clear hcz31_1
              try clear hcz33_0
              try clear hcz33_1
              try clear hcz35_0
              try clear hcz35_1
              try clear hcz9_0
              try clear hcz9_1
              try clear hfz13_0
              try clear hfz13_1
              try clear hfz15_0
              try clear hfz15_1
              try clear hfz25_0
              try clear hfz25_1
              try clear hfz27_0
              try clear hfz27_1
              try clear hfz29_0
              try clear hfz29_1
              try clear hfz31_0
              try clear hfz31_1
              try clear hfz33_0
              try clear hfz33_1
              try clear hfz35_0
              try clear hfz35_1
              try clear hfz9_0
              try clear hfz9_1
              try clear p2
              obtain ⟨kq, x45_18, rfl, HA, HJ18, BK173, HB⟩ := hcut
              cases kq with
              | zero => exact absurd HA.out (by simp [supercargolaw35_NoticeCounts.j1])
              | succ kj18 =>
                have H := HA.out
                clear HA
                simp only [supercargolaw35_NoticeCounts.j1] at H
                by_cases c37 : x45_18 = true
                · subst c37
                  have H1 : (some false) = some r := by rw [if_pos rfl] at H; exact H
                  clear H
                  have H := H1
                  clear H1
                  exact absurd (Option.some.inj H) (by rw [hT.out]; decide)
                · replace c37 := Bool.eq_false_iff.mpr c37
                  subst c37
                  have H1 : (supercargolaw35_NoticeCounts.l0 kj18 a1 t175 (wrap64 (a1 + 1)) l0_0 l0_1) = some r := by rw [if_neg (show ¬ (false = true) by decide)] at H; exact H
                  clear H
                  have H := H1
                  clear H1
                  have H' := Aside0.mk H
                  clear H
                  go_wp2
                  go_loopg [7] kj18 (fun kq v7 w' => ∃ (x7_3 : Int), v7 = .int .i64 x7_3 ∧ Aside0 (supercargolaw35_NoticeCounts.l0 kq a1 t175 x7_3 l0_0 l0_1 = some r) ∧ Aside0 (kq ≤ kj18) ∧ Aside0 (w'.heap[gb173]? = some (.cells #[(.slice A0_0 l0_0.length c0_0), (.slice A0_1 l0_1.length c0_1)] 24 (0, 0))) ∧ Aside0 (Below w.heap.size w w'))
                  case atStart => exact ⟨(wrap64 (a1 + 1)), (by first | rfl | (simp; done) | (simp [*]; done)), H', ⟨Nat.le_refl _⟩, ⟨by (with_reducible repeat (first | refine blk_drewN ?_ _ | refine blk_drew ?_ | refine blk_alloc ?_ _)); exact BK173.out⟩, ⟨by repeat (first | (with_reducible first | exact HB.out | apply below_alloc | apply pw_below_drewN | apply below_drew1 | refine below_set ?_ GE173.out) | exact HB.out)⟩⟩
                  case round =>
                    clear H'
                    try clear c1
                    try clear c2
                    try clear p2
                    try clear c3
                    try clear c4
                    try clear p6
                    try clear c9
                    try clear c10
                    try clear c11
                    try clear c12
                    try clear c17
                    try clear c18
                    try clear c18b0
                    try clear c21
                    try clear c21b0
                    try clear c21b1
                    try clear c23
                    try clear c23b0
                    try clear c23b1
                    try clear c37
                    try clear hcz13_0
                    try clear hcz13_1
                    try clear hcz15_0
                    try clear hcz15_1
                    try clear hcz25_0
                    try clear hcz25_1
                    try clear hcz27_0
                    try clear hcz27_1
                    try clear hcz29_0
                    try clear hcz29_1
                    try clear hcz31_0
                    try clear hcz31_1
                    try clear hcz33_0
                    try clear hcz33_1
                    try clear hcz35_0
                    try clear hcz35_1
                    try clear hcz9_0
                    try clear hcz9_1
                    try clear hfz13_0
                    try clear hfz13_1
                    try clear hfz15_0
                    try clear hfz15_1
                    try clear hfz25_0
                    try clear hfz25_1
                    try clear hfz27_0
                    try clear hfz27_1
                    try clear hfz29_0
                    try clear hfz29_1
                    try clear hfz31_0
                    try clear hfz31_1
                    try clear hfz33_0
                    try clear hfz33_1
                    try clear hfz35_0
                    try clear hfz35_1
                    try clear hfz9_0
                    try clear hfz9_1
                    try clear p2
                    try clear p6
                    obtain ⟨x7_3, rfl, HA, HK3, BK173, HB⟩ := hrel
                    cases gk with
                    | zero => exact absurd HA.out (by simp [supercargolaw35_NoticeCounts.l0])
                    | succ k3 =>
                      have H := HA.out
                      clear HA
                      simp only [supercargolaw35_NoticeCounts.l0] at H
                      by_cases c38 : x7_3 ≤ (wrap64 (t175 + 1))
                      · rw [if_pos c38] at H
                        have c38b0 : decide (x7_3 ≤ (wrap64 (t175 + 1))) = true := decide_eq_true c38
                        clear c38
                        replace H := Option.bind_eq_some_iff.mp H
                        obtain ⟨t181, A390, H⟩ := H
                        replace H : (if x7_3 ≤ t175 then ((supercargoref02_Works.f k3 l0_0 l0_1 x7_3).bind fun t182 => (supercargolaw35_NoticeCounts.j3 k3 a1 t175 x7_3 t181 t182 l0_0 l0_1)) else (supercargolaw35_NoticeCounts.j3 k3 a1 t175 x7_3 t181 false l0_0 l0_1)) = some r := H
                        have A39 := Aside0.mk A390
                        clear A390
                        have HC40 := Aside0.mk H
                        clear H
                        have hcz41_0 : wr.cell? ⟨gb173, 0, none⟩ = some (.slice A0_0 l0_0.length c0_0) := (blk_cell BK173.out 0).trans rfl
                        have hcz41_1 : wr.cell? ⟨gb173, 1, none⟩ = some (.slice A0_1 l0_1.length c0_1) := (blk_cell BK173.out 1).trans rfl
                        have hfz41_0 := blk_frozen BK173.out 0
                        have hfz41_1 := blk_frozen BK173.out 1
                        go_upto_region 14 with (first | ((with_reducible refine gate_callee (f := 12) rfl ?_); refine goesL_ (some 58) rfl rfl Try.func12 (by kernel_rfl) rfl #[.agg #[.slice A0_0 l0_0.length c0_0, .slice A0_1 l0_1.length c0_1], .int .i64 a1, .int .i64 (wrap64 (x7_3 - 1))] rfl (by (try simp only [List.map_toArray, List.map_cons, List.map_nil]); first | done | rfl | (simp only [List.length_drop, List.length_take]; rfl)) ?_; (with_reducible refine (notice_Days.calls k3 _ _ l0_0 _ _ l0_1 a1 (wrap64 (x7_3 - 1)) t181 _ ?side1 ?side2 ?side3 ?side4 A39.out).mono ?_); (case side1 => repeat (first | exact (Kd.C_below HR0_0.out HB.out) | (with_reducible refine Kd.C_alloc ?_ _) | (with_reducible refine Kd.C_drewN ?_ _) | (with_reducible refine Kd.C_drew ?_))); (case side2 => exact HC0_0.out); (case side3 => repeat (first | exact (Kd.C_below HR0_1.out HB.out) | (with_reducible refine Kd.C_alloc ?_ _) | (with_reducible refine Kd.C_drewN ?_ _) | (with_reducible refine Kd.C_drew ?_))); (case side4 => exact HC0_1.out); rintro e w42 ⟨rfl, hb⟩; refine ⟨_, rfl, ?_⟩; have n0_ := Aside0.mk (blk_below (g := gb173) (o := .cells #[.slice A0_0 l0_0.length c0_0, .slice A0_1 l0_1.length c0_1] 24 (0, 0)) (by (with_reducible repeat (first | refine blk_drewN ?_ _ | refine blk_drew ?_ | refine blk_alloc ?_ _)); exact BK173.out) hb); have n1_ := Aside0.mk (below_step (by repeat (first | (with_reducible first | exact HB.out | apply below_alloc | apply pw_below_drewN | apply below_drew1 | refine below_set ?_ GE173.out) | exact HB.out)) hb); clear BK173; clear HB; have BK173 := n0_; have HB := n1_; clear n0_ n1_; (try clear hb); (try clear hb2); (try clear hk); (try clear hi)))
                        (try simp only [Act.put, List.setIfInBounds_toArray, List.set_cons_zero, List.set_cons_succ])
                        go_cut [66] (fun v66 wc => ∃ (kq : Nat) (x66_39 : Bool), v66 = .bool x66_39 ∧ Aside0 (supercargolaw35_NoticeCounts.j3 kq a1 t175 x7_3 t181 x66_39 l0_0 l0_1 = some r) ∧ Aside0 (kq ≤ k3) ∧ Aside0 (wc.heap[gb173]? = some (.cells #[(.slice A0_0 l0_0.length c0_0), (.slice A0_1 l0_1.length c0_1)] 24 (0, 0))) ∧ Aside0 (Below w.heap.size w wc))
                        case first =>
                          have H := HC40.out
                          clear HC40
                          by_cases c43 : x7_3 ≤ t175
                          · rw [if_pos c43] at H
                            have c43b0 : decide (x7_3 ≤ t175) = true := decide_eq_true c43
                            clear c43
                            (first | rw [c43b0] | (simp only [i64_w, i32_w]; rw [c43b0]) | skip)
                            replace H := Option.bind_eq_some_iff.mp H
                            obtain ⟨t182, A440, H⟩ := H
                            replace H : (supercargolaw35_NoticeCounts.j3 k3 a1 t175 x7_3 t181 t182 l0_0 l0_1) = some r := H
                            have A44 := Aside0.mk A440
                            clear A440
                            have H' := Aside0.mk H
                            clear H
                            have hcz45_0 : w42.cell? ⟨gb173, 0, none⟩ = some (.slice A0_0 l0_0.length c0_0) := (blk_cell BK173.out 0).trans rfl
                            have hcz45_1 : w42.cell? ⟨gb173, 1, none⟩ = some (.slice A0_1 l0_1.length c0_1) := (blk_cell BK173.out 1).trans rfl
                            have hfz45_0 := blk_frozen BK173.out 0
                            have hfz45_1 := blk_frozen BK173.out 1
                            go_wp2_with (first | (go_at_call 13; (with_reducible refine (supercargoref02_Works.calls k3 _ _ l0_0 _ _ l0_1 x7_3 t182 _ ?side1 ?side2 ?side3 ?side4 A44.out).mono ?_); (case side1 => repeat (first | exact (Kd.C_below HR0_0.out HB.out) | (with_reducible refine Kd.C_alloc ?_ _) | (with_reducible refine Kd.C_drewN ?_ _) | (with_reducible refine Kd.C_drew ?_))); (case side2 => exact HC0_0.out); (case side3 => repeat (first | exact (Kd.C_below HR0_1.out HB.out) | (with_reducible refine Kd.C_alloc ?_ _) | (with_reducible refine Kd.C_drewN ?_ _) | (with_reducible refine Kd.C_drew ?_))); (case side4 => exact HC0_1.out); rintro e w46 ⟨rfl, hb⟩; have n0_ := Aside0.mk (blk_below (g := gb173) (o := .cells #[.slice A0_0 l0_0.length c0_0, .slice A0_1 l0_1.length c0_1] 24 (0, 0)) (by (with_reducible repeat (first | refine blk_drewN ?_ _ | refine blk_drew ?_ | refine blk_alloc ?_ _)); exact BK173.out) hb); have n1_ := Aside0.mk (below_step (by repeat (first | (with_reducible first | exact HB.out | apply below_alloc | apply pw_below_drewN | apply below_drew1 | refine below_set ?_ GE173.out) | exact HB.out)) hb); clear BK173; clear HB; have BK173 := n0_; have HB := n1_; clear n0_ n1_; (try clear hb); (try clear hb2); (try clear hk); (try clear hi)))
                            go_meet
                            case rel => exact ⟨_, (t182), (by first | rfl | (simp; done) | (simp [*]; done)), H', ⟨by have := HJ5.out; have := HJ18.out; have := HK3.out; first | omega | exact Nat.le_refl _⟩, ⟨by (with_reducible repeat (first | refine blk_drewN ?_ _ | refine blk_drew ?_ | refine blk_alloc ?_ _)); exact BK173.out⟩, ⟨by repeat (first | (with_reducible first | exact HB.out | apply below_alloc | apply pw_below_drewN | apply below_drew1 | refine below_set ?_ GE173.out) | exact HB.out)⟩⟩
                          · rw [if_neg c43] at H
                            have c43b0 : decide (x7_3 ≤ t175) = false := decide_eq_false c43
                            clear c43
                            (first | rw [c43b0] | (simp only [i64_w, i32_w]; rw [c43b0]) | skip)
                            have H' := Aside0.mk H
                            clear H
                            go_wp2
                            go_meet
                            case rel => exact ⟨_, (false), (by first | rfl | (simp; done) | (simp [*]; done)), H', ⟨by have := HJ5.out; have := HJ18.out; have := HK3.out; first | omega | exact Nat.le_refl _⟩, ⟨by (with_reducible repeat (first | refine blk_drewN ?_ _ | refine blk_drew ?_ | refine blk_alloc ?_ _)); exact BK173.out⟩, ⟨by repeat (first | (with_reducible first | exact HB.out | apply below_alloc | apply pw_below_drewN | apply below_drew1 | refine below_set ?_ GE173.out) | exact HB.out)⟩⟩
                        case rest =>
                          clear HC40
                          try clear c1
                          try clear c2
                          try clear p2
                          try clear c3
                          try clear c4
                          try clear p6
                          try clear c9
                          try clear c10
                          try clear c11
                          try clear c12
                          try clear c17
                          try clear c18
                          try clear c18b0
                          try clear c21
                          try clear c21b0
                          try clear c21b1
                          try clear c23
                          try clear c23b0
                          try clear c23b1
                          try clear c37
                          try clear c38
                          try clear c38b0
                          try clear c43
                          try clear c43b0
                          try clear hcz13_0
                          try clear hcz13_1
                          try clear hcz15_0
                          try clear hcz15_1
                          try clear hcz25_0
                          try clear hcz25_1
                          try clear hcz27_0
                          try clear hcz27_1
                          try clear hcz29_0
                          try clear hcz29_1
                          try clear hcz31_0
                          try clear hcz31_1
                          try clear hcz33_0
                          try clear hcz33_1
                          try clear hcz35_0
                          try clear hcz35_1
                          try clear hcz41_0
                          try clear hcz41_1
                          try clear hcz45_0
                          try clear hcz45_1
                          try clear hcz9_0
                          try clear hcz9_1
                          try clear hfz13_0
                          try clear hfz13_1
                          try clear hfz15_0
                          try clear hfz15_1
                          try clear hfz25_0
                          try clear hfz25_1
                          try clear hfz27_0
                          try clear hfz27_1
                          try clear hfz29_0
                          try clear hfz29_1
                          try clear hfz31_0
                          try clear hfz31_1
                          try clear hfz33_0
                          try clear hfz33_1
                          try clear hfz35_0
                          try clear hfz35_1
                          try clear hfz41_0
                          try clear hfz41_1
                          try clear hfz45_0
                          try clear hfz45_1
                          try clear hfz9_0
                          try clear hfz9_1
                          try clear p2
                          try clear p6
                          obtain ⟨kq, x66_39, rfl, HA, HJ39, BK173, HB⟩ := hcut
                          cases kq with
                          | zero => exact absurd HA.out (by simp [supercargolaw35_NoticeCounts.j3])
                          | succ kj39 =>
                            have H := HA.out
                            clear HA
                            simp only [supercargolaw35_NoticeCounts.j3] at H
                            have HC47 := Aside0.mk H
                            clear H
                            go_upto_if 66 with (fail)
                            go_cut [8] (fun v8 wc => ∃ (kq : Nat) (x8_46 : Int), v8 = .int .i64 x8_46 ∧ Aside0 (supercargolaw35_NoticeCounts.j4 kq a1 t175 x7_3 x8_46 l0_0 l0_1 = some r) ∧ Aside0 (kq ≤ kj39) ∧ Aside0 (wc.heap[gb173]? = some (.cells #[(.slice A0_0 l0_0.length c0_0), (.slice A0_1 l0_1.length c0_1)] 24 (0, 0))) ∧ Aside0 (Below w.heap.size w wc))
                            case first =>
                              have H := HC47.out
                              clear HC47
                              by_cases c48 : x66_39 = true
                              · subst c48
                                have H1 : (supercargolaw35_NoticeCounts.j4 kj39 a1 t175 x7_3 (wrap64 (t181 - 1)) l0_0 l0_1) = some r := by rw [if_pos rfl] at H; exact H
                                clear H
                                have H := H1
                                clear H1
                                have H' := Aside0.mk H
                                clear H
                                go_wp2
                                go_meet
                                case rel => exact ⟨_, (wrap64 (t181 - 1)), (by first | rfl | (simp; done) | (simp [*]; done)), H', ⟨by have := HJ5.out; have := HJ18.out; have := HK3.out; have := HJ39.out; first | omega | exact Nat.le_refl _⟩, ⟨by (with_reducible repeat (first | refine blk_drewN ?_ _ | refine blk_drew ?_ | refine blk_alloc ?_ _)); exact BK173.out⟩, ⟨by repeat (first | (with_reducible first | exact HB.out | apply below_alloc | apply pw_below_drewN | apply below_drew1 | refine below_set ?_ GE173.out) | exact HB.out)⟩⟩
                              · replace c48 := Bool.eq_false_iff.mpr c48
                                subst c48
                                have H1 : (supercargolaw35_NoticeCounts.j4 kj39 a1 t175 x7_3 t181 l0_0 l0_1) = some r := by rw [if_neg (show ¬ (false = true) by decide)] at H; exact H
                                clear H
                                have H := H1
                                clear H1
                                have H' := Aside0.mk H
                                clear H
                                go_wp2
                                go_meet
                                case rel => exact ⟨_, (t181), (by first | rfl | (simp; done) | (simp [*]; done)), H', ⟨by have := HJ5.out; have := HJ18.out; have := HK3.out; have := HJ39.out; first | omega | exact Nat.le_refl _⟩, ⟨by (with_reducible repeat (first | refine blk_drewN ?_ _ | refine blk_drew ?_ | refine blk_alloc ?_ _)); exact BK173.out⟩, ⟨by repeat (first | (with_reducible first | exact HB.out | apply below_alloc | apply pw_below_drewN | apply below_drew1 | refine below_set ?_ GE173.out) | exact HB.out)⟩⟩
                            case rest =>
                              clear HC47
                              try clear c1
                              try clear c2
                              try clear p2
                              try clear c3
                              try clear c4
                              try clear p6
                              try clear c9
                              try clear c10
                              try clear c11
                              try clear c12
                              try clear c17
                              try clear c18
                              try clear c18b0
                              try clear c21
                              try clear c21b0
                              try clear c21b1
                              try clear c23
                              try clear c23b0
                              try clear c23b1
                              try clear c37
                              try clear c38
                              try clear c38b0
                              try clear c43
                              try clear c43b0
                              try clear c48
                              try clear hcz13_0
                              try clear hcz13_1
                              try clear hcz15_0
                              try clear hcz15_1
                              try clear hcz25_0
                              try clear hcz25_1
                              try clear hcz27_0
                              try clear hcz27_1
                              try clear hcz29_0
                              try clear hcz29_1
                              try clear hcz31_0
                              try clear hcz31_1
                              try clear hcz33_0
                              try clear hcz33_1
                              try clear hcz35_0
                              try clear hcz35_1
                              try clear hcz41_0
                              try clear hcz41_1
                              try clear hcz45_0
                              try clear hcz45_1
                              try clear hcz9_0
                              try clear hcz9_1
                              try clear hfz13_0
                              try clear hfz13_1
                              try clear hfz15_0
                              try clear hfz15_1
                              try clear hfz25_0
                              try clear hfz25_1
                              try clear hfz27_0
                              try clear hfz27_1
                              try clear hfz29_0
                              try clear hfz29_1
                              try clear hfz31_0
                              try clear hfz31_1
                              try clear hfz33_0
                              try clear hfz33_1
                              try clear hfz35_0
                              try clear hfz35_1
                              try clear hfz41_0
                              try clear hfz41_1
                              try clear hfz45_0
                              try clear hfz45_1
                              try clear hfz9_0
                              try clear hfz9_1
                              try clear p2
                              try clear p6
                              obtain ⟨kq, x8_46, rfl, HA, HJ46, BK173, HB⟩ := hcut
                              cases kq with
                              | zero => exact absurd HA.out (by simp [supercargolaw35_NoticeCounts.j4])
                              | succ kj46 =>
                                have H := HA.out
                                clear HA
                                simp only [supercargolaw35_NoticeCounts.j4] at H
                                replace H := Option.bind_eq_some_iff.mp H
                                obtain ⟨t183, A490, H⟩ := H
                                replace H : (if t183 = x8_46 then ((notice_Precluded.f kj46 l0_0 l0_1 a1 x7_3 false).bind fun t184 => (if (t184 != (decide (x7_3 > t175))) = true then (some false) else ((notice_Precluded.f kj46 l0_0 l0_1 a1 x7_3 true).bind fun t185 => (if t185 = true then (some false) else (supercargolaw35_NoticeCounts.l0 kj46 a1 t175 (wrap64 (x7_3 + 1)) l0_0 l0_1))))) else (some false)) = some r := H
                                have A49 := Aside0.mk A490
                                clear A490
                                by_cases c50 : t183 = x8_46
                                · rw [if_pos c50] at H
                                  have c50b0 : (t183 == x8_46) = true := beq_iff_eq.mpr c50
                                  have c50b1 : (t183 != x8_46) = false := bne_eq_false_iff_eq.mpr c50
                                  clear c50
                                  replace H := Option.bind_eq_some_iff.mp H
                                  obtain ⟨t184, A510, H⟩ := H
                                  replace H : (if (t184 != (decide (x7_3 > t175))) = true then (some false) else ((notice_Precluded.f kj46 l0_0 l0_1 a1 x7_3 true).bind fun t185 => (if t185 = true then (some false) else (supercargolaw35_NoticeCounts.l0 kj46 a1 t175 (wrap64 (x7_3 + 1)) l0_0 l0_1)))) = some r := H
                                  have A51 := Aside0.mk A510
                                  clear A510
                                  by_cases c52 : (t184 != (decide (x7_3 > t175))) = true
                                  · rw [if_pos c52] at H
                                    have c52b0 : (t184 != (decide (x7_3 > t175))) = true := c52
                                    (try (have c52b1 : decide (t184 = (decide (x7_3 > t175))) = false := by simpa using c52))
                                    (try (have c52b2 : (t184 == (decide (x7_3 > t175))) = false := by simpa using c52))
                                    (try (have c52b3 : ¬ (t184 = (decide (x7_3 > t175))) := by simpa using c52))
                                    clear c52
                                    exact absurd (Option.some.inj H) (by rw [hT.out]; decide)
                                  · rw [if_neg c52] at H
                                    have c52b0 : (t184 != (decide (x7_3 > t175))) = false := by simpa using c52
                                    (try (have c52b1 : decide (t184 = (decide (x7_3 > t175))) = true := by simpa using c52))
                                    (try (have c52b2 : (t184 == (decide (x7_3 > t175))) = true := by simpa using c52))
                                    clear c52
                                    replace H := Option.bind_eq_some_iff.mp H
                                    obtain ⟨t185, A530, H⟩ := H
                                    replace H : (if t185 = true then (some false) else (supercargolaw35_NoticeCounts.l0 kj46 a1 t175 (wrap64 (x7_3 + 1)) l0_0 l0_1)) = some r := H
                                    have A53 := Aside0.mk A530
                                    clear A530
                                    by_cases c54 : t185 = true
                                    · subst c54
                                      have H1 : (some false) = some r := by rw [if_pos rfl] at H; exact H
                                      clear H
                                      have H := H1
                                      clear H1
                                      exact absurd (Option.some.inj H) (by rw [hT.out]; decide)
                                    · replace c54 := Bool.eq_false_iff.mpr c54
                                      subst c54
                                      have H1 : (supercargolaw35_NoticeCounts.l0 kj46 a1 t175 (wrap64 (x7_3 + 1)) l0_0 l0_1) = some r := by rw [if_neg (show ¬ (false = true) by decide)] at H; exact H
                                      clear H
                                      have H := H1
                                      clear H1
                                      have H' := Aside0.mk H
                                      clear H
                                      have hcz55_0 : wc.cell? ⟨gb173, 0, none⟩ = some (.slice A0_0 l0_0.length c0_0) := (blk_cell BK173.out 0).trans rfl
                                      have hcz55_1 : wc.cell? ⟨gb173, 1, none⟩ = some (.slice A0_1 l0_1.length c0_1) := (blk_cell BK173.out 1).trans rfl
                                      have hfz55_0 := blk_frozen BK173.out 0
                                      have hfz55_1 := blk_frozen BK173.out 1
                                      go_wp2_with (first | ((with_reducible refine gate_callee (f := 12) rfl ?_); refine goesL_ (some 72) rfl rfl Try.func12 (by kernel_rfl) rfl #[.agg #[.slice A0_0 l0_0.length c0_0, .slice A0_1 l0_1.length c0_1], .int .i64 a1, .int .i64 x7_3] rfl (by (try simp only [List.map_toArray, List.map_cons, List.map_nil]); first | done | rfl | (simp only [List.length_drop, List.length_take]; rfl)) ?_; (with_reducible refine (notice_Days.calls kj46 _ _ l0_0 _ _ l0_1 a1 x7_3 t183 _ ?side1 ?side2 ?side3 ?side4 A49.out).mono ?_); (case side1 => repeat (first | exact (Kd.C_below HR0_0.out HB.out) | (with_reducible refine Kd.C_alloc ?_ _) | (with_reducible refine Kd.C_drewN ?_ _) | (with_reducible refine Kd.C_drew ?_))); (case side2 => exact HC0_0.out); (case side3 => repeat (first | exact (Kd.C_below HR0_1.out HB.out) | (with_reducible refine Kd.C_alloc ?_ _) | (with_reducible refine Kd.C_drewN ?_ _) | (with_reducible refine Kd.C_drew ?_))); (case side4 => exact HC0_1.out); rintro e w56 ⟨rfl, hb⟩; refine ⟨_, rfl, ?_⟩; have n0_ := Aside0.mk (blk_below (g := gb173) (o := .cells #[.slice A0_0 l0_0.length c0_0, .slice A0_1 l0_1.length c0_1] 24 (0, 0)) (by (with_reducible repeat (first | refine blk_drewN ?_ _ | refine blk_drew ?_ | refine blk_alloc ?_ _)); exact BK173.out) hb); have n1_ := Aside0.mk (below_step (by repeat (first | (with_reducible first | exact HB.out | apply below_alloc | apply pw_below_drewN | apply below_drew1 | refine below_set ?_ GE173.out) | exact HB.out)) hb); clear BK173; clear HB; have BK173 := n0_; have HB := n1_; clear n0_ n1_; (try clear hb); (try clear hb2); (try clear hk); (try clear hi); have hcz57_0 : w56.cell? ⟨gb173, 0, none⟩ = some (.slice A0_0 l0_0.length c0_0) := (blk_cell BK173.out 0).trans rfl; have hcz57_1 : w56.cell? ⟨gb173, 1, none⟩ = some (.slice A0_1 l0_1.length c0_1) := (blk_cell BK173.out 1).trans rfl; have hfz57_0 := blk_frozen BK173.out 0; have hfz57_1 := blk_frozen BK173.out 1) | (go_at_call 14; (with_reducible refine (notice_Precluded.calls kj46 _ _ l0_0 _ _ l0_1 a1 x7_3 false t184 _ ?side1 ?side2 ?side3 ?side4 A51.out).mono ?_); (case side1 => repeat (first | exact (Kd.C_below HR0_0.out HB.out) | (with_reducible refine Kd.C_alloc ?_ _) | (with_reducible refine Kd.C_drewN ?_ _) | (with_reducible refine Kd.C_drew ?_))); (case side2 => exact HC0_0.out); (case side3 => repeat (first | exact (Kd.C_below HR0_1.out HB.out) | (with_reducible refine Kd.C_alloc ?_ _) | (with_reducible refine Kd.C_drewN ?_ _) | (with_reducible refine Kd.C_drew ?_))); (case side4 => exact HC0_1.out); rintro e w58 ⟨rfl, hb⟩; have n0_ := Aside0.mk (blk_below (g := gb173) (o := .cells #[.slice A0_0 l0_0.length c0_0, .slice A0_1 l0_1.length c0_1] 24 (0, 0)) (by (with_reducible repeat (first | refine blk_drewN ?_ _ | refine blk_drew ?_ | refine blk_alloc ?_ _)); exact BK173.out) hb); have n1_ := Aside0.mk (below_step (by repeat (first | (with_reducible first | exact HB.out | apply below_alloc | apply pw_below_drewN | apply below_drew1 | refine below_set ?_ GE173.out) | exact HB.out)) hb); clear BK173; clear HB; have BK173 := n0_; have HB := n1_; clear n0_ n1_; (try clear hb); (try clear hb2); (try clear hk); (try clear hi); have hcz59_0 : w58.cell? ⟨gb173, 0, none⟩ = some (.slice A0_0 l0_0.length c0_0) := (blk_cell BK173.out 0).trans rfl; have hcz59_1 : w58.cell? ⟨gb173, 1, none⟩ = some (.slice A0_1 l0_1.length c0_1) := (blk_cell BK173.out 1).trans rfl; have hfz59_0 := blk_frozen BK173.out 0; have hfz59_1 := blk_frozen BK173.out 1) | (go_at_call 14; (with_reducible refine (notice_Precluded.calls kj46 _ _ l0_0 _ _ l0_1 a1 x7_3 true false _ ?side1 ?side2 ?side3 ?side4 A53.out).mono ?_); (case side1 => repeat (first | exact (Kd.C_below HR0_0.out HB.out) | (with_reducible refine Kd.C_alloc ?_ _) | (with_reducible refine Kd.C_drewN ?_ _) | (with_reducible refine Kd.C_drew ?_))); (case side2 => exact HC0_0.out); (case side3 => repeat (first | exact (Kd.C_below HR0_1.out HB.out) | (with_reducible refine Kd.C_alloc ?_ _) | (with_reducible refine Kd.C_drewN ?_ _) | (with_reducible refine Kd.C_drew ?_))); (case side4 => exact HC0_1.out); rintro e w60 ⟨rfl, hb⟩; have n0_ := Aside0.mk (blk_below (g := gb173) (o := .cells #[.slice A0_0 l0_0.length c0_0, .slice A0_1 l0_1.length c0_1] 24 (0, 0)) (by (with_reducible repeat (first | refine blk_drewN ?_ _ | refine blk_drew ?_ | refine blk_alloc ?_ _)); exact BK173.out) hb); have n1_ := Aside0.mk (below_step (by repeat (first | (with_reducible first | exact HB.out | apply below_alloc | apply pw_below_drewN | apply below_drew1 | refine below_set ?_ GE173.out) | exact HB.out)) hb); clear BK173; clear HB; have BK173 := n0_; have HB := n1_; clear n0_ n1_; (try clear hb); (try clear hb2); (try clear hk); (try clear hi)))
                                      go_roundg kj46
                                      case measure => have := HJ5.out; have := HJ18.out; have := HK3.out; have := HJ39.out; have := HJ46.out; omega
                                      case rel => exact ⟨(wrap64 (x7_3 + 1)), (by first | rfl | (simp; done) | (simp [*]; done)), H', ⟨by have := HJ5.out; have := HJ18.out; have := HK3.out; have := HJ39.out; have := HJ46.out; omega⟩, ⟨by (with_reducible repeat (first | refine blk_drewN ?_ _ | refine blk_drew ?_ | refine blk_alloc ?_ _)); exact BK173.out⟩, ⟨by repeat (first | (with_reducible first | exact HB.out | apply below_alloc | apply pw_below_drewN | apply below_drew1 | refine below_set ?_ GE173.out) | exact HB.out)⟩⟩
                                · rw [if_neg c50] at H
                                  have c50b0 : (t183 == x8_46) = false := beq_eq_false_iff_ne.mpr c50
                                  have c50b1 : (t183 != x8_46) = true := bne_iff_ne.mpr c50
                                  exact absurd (Option.some.inj H) (by rw [hT.out]; decide)
                      · rw [if_neg c38] at H
                        have c38b0 : decide (x7_3 ≤ (wrap64 (t175 + 1))) = false := decide_eq_false c38
                        clear c38
                        clear hT; obtain rfl := Option.some.inj H
                        go_wp2
                        go_ret
                        exact ⟨by first | rfl | (simp [errW_none, errW_some] <;> rfl) | (simp [*, errW_none, errW_some] <;> rfl), by repeat (first | (with_reducible first | exact HB.out | apply below_alloc | apply pw_below_drewN | apply below_drew1 | refine below_set ?_ GE173.out) | exact HB.out)⟩
  · replace c4 := Bool.eq_false_iff.mpr c4
    subst c4
    have H1 : (some false) = some r := by rw [if_neg (show ¬ (false = true) by decide)] at H; exact H
    clear H
    have H := H1
    clear H1
    exact absurd (Option.some.inj H) (by rw [hT.out]; decide)

end Go.Proofs.Ytjagffhmdafnmaa.X
