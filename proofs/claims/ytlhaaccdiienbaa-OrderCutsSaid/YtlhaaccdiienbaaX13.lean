-- Written for this claim by a program of this session (wip/tools/xprint.py) out of the translation.
import Derived.Test.YtlhaaccdiienbaaX0
import Derived.Test.YtlhaaccdiienbaaX12
namespace Go.Proofs.Ytlhaaccdiienbaa.X
open Go.RowKit Go.Proofs.YtlhaaccdiienbaaW.PrintWords Go.Proofs.YtlhaaccdiienbaaW.PrintLast Go.Proofs.YtlhaaccdiienbaaW.PrintMore
attribute [local go_sem] max2_int min2_int max_two min_two max_three min_three max_four min_four   -- for this text's walks alone
set_option linter.unusedVariables false
set_option linter.unusedSimpArgs false

mutual
def sr19_Cut.l0 : Nat → List Int → List (List Int) → List (S42) → Int → ByteArray → ByteArray → ByteArray → ByteArray → ByteArray → ByteArray → Int → List (S65) → Option ((List (S42)) × Int)
 | 0, _, _, _, _, _, _, _, _, _, _, _, _ => none
 | k + 1, x1, x2, x9, x10, x200000, x200001, x200002, x200003, x200004, x200005, x200006, x200007 => if x10 < (x2.length : Int) then (if 0 ≤ x10 then (if x10 < (x1.length : Int) then (sr19_Cut.l1 k x1 x2 x9 x10 0 x200000 x200001 x200002 x200003 x200004 x200005 x200006 x200007 x200000 (wrap64 (x10 + 1)) (rd x1 x10) ([] : List (S67))) else (none)) else (none)) else (some (x9, 0))
def sr19_Cut.l1 : Nat → List Int → List (List Int) → List (S42) → Int → Int → ByteArray → ByteArray → ByteArray → ByteArray → ByteArray → ByteArray → Int → List (S65) → ByteArray → Int → Int → List (S67) → Option ((List (S42)) × Int)
 | 0, _, _, _, _, _, _, _, _, _, _, _, _, _, _, _, _, _ => none
 | k + 1, x1, x2, x9, x10, x12, x200000, x200001, x200002, x200003, x200004, x200005, x200006, x200007, x206000, x206001, x206002, x206003 => if 0 ≤ x10 then (if x10 < (x2.length : Int) then (if x12 < ((rd_L5 x2 x10).length : Int) then (if 0 ≤ x12 then (if (rd (rd_L5 x2 x10) x12) > 0 then (if x12 < (x200007.length : Int) then (if x206003.length < 5864062014805 then (sr19_Cut.l1 k x1 x2 x9 x10 (wrap64 (x12 + 1)) x200000 x200001 x200002 x200003 x200004 x200005 x200006 x200007 x206000 x206001 x206002 (x206003 ++ [(⟨(rd_T65 x200007 x12).f0, rd (rd_L5 x2 x10) x12⟩ : S67)])) else (none)) else (none)) else (sr19_Cut.l1 k x1 x2 x9 x10 (wrap64 (x12 + 1)) x200000 x200001 x200002 x200003 x200004 x200005 x200006 x200007 x206000 x206001 x206002 x206003)) else (none)) else (if x9.length < 2513169434916 then (sr19_Cut.l0 k x1 x2 (x9 ++ [(⟨x206000, x206001, x206002, x206003⟩ : S42)]) (wrap64 (x10 + 1)) x200000 x200001 x200002 x200003 x200004 x200005 x200006 x200007) else (none))) else (none)) else (none)
end
def sr19_Cut.f (k : Nat) (a0_0 : ByteArray) (a0_1 : ByteArray) (a0_2 : ByteArray) (a0_3 : ByteArray) (a0_4 : ByteArray) (a0_5 : ByteArray) (a0_6 : Int) (l0_7 : List (S65)) (l1 : List Int) (l2 : List (List Int)) : Option ((List (S42)) × Int) := (sr19_Wrong.f k a0_0 a0_1 a0_2 a0_3 a0_4 a0_5 a0_6 l0_7 l1 l2).bind fun t200 => (if t200 = 0 then (sr19_Cut.l0 k l1 l2 (([] : List (S42))) 0 a0_0 a0_1 a0_2 a0_3 a0_4 a0_5 a0_6 l0_7) else (some (([] : List (S42)), t200)))
theorem sr19_Cut.mono_l : ∀ k, (∀ y0 y1 y2 y3 y4 y5 y6 y7 y8 y9 y10 y11, LeO (sr19_Cut.l0 k y0 y1 y2 y3 y4 y5 y6 y7 y8 y9 y10 y11) (sr19_Cut.l0 (k + 1) y0 y1 y2 y3 y4 y5 y6 y7 y8 y9 y10 y11)) ∧ (∀ y0 y1 y2 y3 y4 y5 y6 y7 y8 y9 y10 y11 y12 y13 y14 y15 y16, LeO (sr19_Cut.l1 k y0 y1 y2 y3 y4 y5 y6 y7 y8 y9 y10 y11 y12 y13 y14 y15 y16) (sr19_Cut.l1 (k + 1) y0 y1 y2 y3 y4 y5 y6 y7 y8 y9 y10 y11 y12 y13 y14 y15 y16))
 | 0 => ⟨fun _ _ _ _ _ _ _ _ _ _ _ _ r h => by simp [sr19_Cut.l0] at h, fun _ _ _ _ _ _ _ _ _ _ _ _ _ _ _ _ _ r h => by simp [sr19_Cut.l1] at h⟩
 | k + 1 => by
  obtain ⟨ih0, ih1⟩ := sr19_Cut.mono_l k
  refine ⟨?_, ?_⟩
  ·intro y0 y1 y2 y3 y4 y5 y6 y7 y8 y9 y10 y11
   unfold sr19_Cut.l0
   repeat' first
   | (with_reducible exact ih0 _ _ _ _ _ _ _ _ _ _ _ _)
   | (with_reducible exact ih1 _ _ _ _ _ _ _ _ _ _ _ _ _ _ _ _ _)
   | (with_reducible exact sr19_Wrong.mono _ _ _ _ _ _ _ _ _ _ _)
   | (with_reducible exact LeO.refl _)
   | (with_reducible exact LeO.none _)
   | (with_reducible refine LeO.ite ?_ ?_)
   | (with_reducible refine LeO.bind ?_ (fun _ => ?_))
   | exact ih0 _ _ _ _ _ _ _ _ _ _ _ _
   | exact ih1 _ _ _ _ _ _ _ _ _ _ _ _ _ _ _ _ _
   | exact sr19_Wrong.mono _ _ _ _ _ _ _ _ _ _ _
   | exact LeO.none _
   | refine LeO.ite ?_ ?_
   | refine LeO.bind ?_ (fun _ => ?_)
  ·intro y0 y1 y2 y3 y4 y5 y6 y7 y8 y9 y10 y11 y12 y13 y14 y15 y16
   unfold sr19_Cut.l1
   repeat' first
   | (with_reducible exact ih0 _ _ _ _ _ _ _ _ _ _ _ _)
   | (with_reducible exact ih1 _ _ _ _ _ _ _ _ _ _ _ _ _ _ _ _ _)
   | (with_reducible exact sr19_Wrong.mono _ _ _ _ _ _ _ _ _ _ _)
   | (with_reducible exact LeO.refl _)
   | (with_reducible exact LeO.none _)
   | (with_reducible refine LeO.ite ?_ ?_)
   | (with_reducible refine LeO.bind ?_ (fun _ => ?_))
   | exact ih0 _ _ _ _ _ _ _ _ _ _ _ _
   | exact ih1 _ _ _ _ _ _ _ _ _ _ _ _ _ _ _ _ _
   | exact sr19_Wrong.mono _ _ _ _ _ _ _ _ _ _ _
   | exact LeO.none _
   | refine LeO.ite ?_ ?_
   | refine LeO.bind ?_ (fun _ => ?_)
theorem sr19_Cut.mono : ∀ a0 a1 a2 a3 a4 a5 a6 a7 a8 a9 k, LeO (sr19_Cut.f k a0 a1 a2 a3 a4 a5 a6 a7 a8 a9) (sr19_Cut.f (k + 1) a0 a1 a2 a3 a4 a5 a6 a7 a8 a9) := by
 intro a0 a1 a2 a3 a4 a5 a6 a7 a8 a9 k
 obtain ⟨ih0, ih1⟩ := sr19_Cut.mono_l k
 unfold sr19_Cut.f
 repeat' first
   | (with_reducible exact ih0 _ _ _ _ _ _ _ _ _ _ _ _)
   | (with_reducible exact ih1 _ _ _ _ _ _ _ _ _ _ _ _ _ _ _ _ _)
   | (with_reducible exact sr19_Wrong.mono _ _ _ _ _ _ _ _ _ _ _)
   | (with_reducible exact LeO.refl _)
   | (with_reducible exact LeO.none _)
   | (with_reducible refine LeO.ite ?_ ?_)
   | (with_reducible refine LeO.bind ?_ (fun _ => ?_))
   | exact ih0 _ _ _ _ _ _ _ _ _ _ _ _
   | exact ih1 _ _ _ _ _ _ _ _ _ _ _ _ _ _ _ _ _
   | exact sr19_Wrong.mono _ _ _ _ _ _ _ _ _ _ _
   | exact LeO.none _
   | refine LeO.ite ?_ ?_
   | refine LeO.bind ?_ (fun _ => ?_)
def sr19_Cut.T8 : Bool × List (List Nat × List Nat) := (true, [([], []), ([0], [0]), ([], []), ([2], [2]), ([], []), ([], []), ([4, 5], [4, 5]), ([6], [6]), ([1, 3, 7], [1, 3, 7]), ([], []), ([9, 8, 0, 1, 2, 3, 4, 5, 6, 7, 8, 9], [8, 9])])
def sr19_Cut.B8 : List Nat := [0, 1, 0, 4, 0, 0, 48, 112, 255, 0, 1023]
theorem sr19_Cut.tab8 : rtab .any (opsOf Try.f20 8) = sr19_Cut.T8 := by kernel_rfl
theorem sr19_Cut.bits8 : waitsOk sr19_Cut.T8.2 sr19_Cut.B8 = true := by kernel_rfl
def sr19_Cut.T13 : Bool × List (List Nat × List Nat) := (true, [([], []), ([0], [0]), ([], []), ([2], [2]), ([], []), ([3, 4], [3, 4]), ([5], [5]), ([6], [6]), ([], []), ([], []), ([8, 9], [8, 9]), ([10], [10]), ([], []), ([11, 12], [11, 12]), ([13], [13]), ([7, 14], [7, 14]), ([15], [15]), ([1, 16], [1, 16]), ([0, 1, 2, 3, 4, 5, 6, 7, 8, 9, 10, 11, 12, 13, 14, 15, 16, 17], []), ([18, 17, 17, 0, 1, 2, 3, 4, 5, 6, 7, 8, 9, 10, 11, 12, 13, 14, 15, 16, 17], [17, 18])])
def sr19_Cut.B13 : List Nat := [0, 1, 0, 4, 0, 28, 60, 124, 0, 0, 768, 1792, 0, 7936, 16128, 32764, 65532, 131071, 262143, 524287]
theorem sr19_Cut.tab13 : rtab .any (opsOf Try.f20 13) = sr19_Cut.T13 := by kernel_rfl
theorem sr19_Cut.bits13 : waitsOk sr19_Cut.T13.2 sr19_Cut.B13 = true := by kernel_rfl
set_option maxHeartbeats 8000000 in
set_option maxRecDepth 100000 in
theorem sr19_Cut.calls (k : Nat) (a0_0 : ByteArray) (a0_1 : ByteArray) (a0_2 : ByteArray) (a0_3 : ByteArray) (a0_4 : ByteArray) (a0_5 : ByteArray) (a0_6 : Int) (A0_7 : Option Addr) (c0_7 : Nat) (l0_7 : List (S65)) (A1 : Option Addr) (c1 : Nat) (l1 : List Int) (A2 : Option Addr) (c2 : Nat) (l2 : List (List Int)) (r1 : List (S42)) (r2 : Int) (w : World) (hr0_7 : Kd.C k65 w A0_7 l0_7.length l0_7) (hc0_7 : l0_7.length ≤ c0_7) (hr1 : Kd.C (Kd.int .i64) w A1 l1.length l1) (hc1 : l1.length ≤ c1) (hr2 : Kd.C (Kd.slice 3 (Kd.int .i64)) w A2 l2.length l2) (hc2 : l2.length ≤ c2) (h : sr19_Cut.f k a0_0 a0_1 a0_2 a0_3 a0_4 a0_5 a0_6 l0_7 l1 l2 = some (r1, r2)) :
  Calls Try.prog 20 #[.agg #[.string a0_0, .string a0_1, .string a0_2, .string a0_3, .string a0_4, .string a0_5, .int .i64 a0_6, .slice A0_7 l0_7.length c0_7], .slice A1 l1.length c1, .slice A2 l2.length c2] w fun e w' => ∃ v0_ : Value, e = .returned (.tuple #[v0_, .int .i64 r2]) ∧ Kd.S k42 42 w' w.heap.size (fun _ => True) v0_ r1 ∧ Below w.heap.size w w' := by
 have hu24 := Try.underlying24
 have hu42 := Try.underlying42
 have hu67 := Try.underlying67
 have HR0_7 := Aside0.mk hr0_7
 have HC0_7 := Aside0.mk hc0_7
 clear hr0_7 hc0_7
 have HR1 := Aside0.mk hr1
 have HC1 := Aside0.mk hc1
 clear hr1 hc1
 have HR2 := Aside0.mk hr2
 have HC2 := Aside0.mk hc2
 clear hr2 hc2
 have HB := Aside0.mk (Below.refl w.heap.size w)
 have H : ((sr19_Wrong.f k a0_0 a0_1 a0_2 a0_3 a0_4 a0_5 a0_6 l0_7 l1 l2).bind fun t200 => (if t200 = 0 then (sr19_Cut.l0 k l1 l2 (([] : List (S42))) 0 a0_0 a0_1 a0_2 a0_3 a0_4 a0_5 a0_6 l0_7) else (some (([] : List (S42)), t200)))) = some (r1, r2) := h
 clear h
 replace H := Option.bind_eq_some_iff.mp H
 obtain ⟨t200, A40, H⟩ := H
 replace H : (if t200 = 0 then (sr19_Cut.l0 k l1 l2 (([] : List (S42))) 0 a0_0 a0_1 a0_2 a0_3 a0_4 a0_5 a0_6 l0_7) else (some (([] : List (S42)), t200))) = some (r1, r2) := H
 have A4 := Aside0.mk A40
 clear A40
 by_cases c5 : t200 = 0
 ·(
rw [if_pos c5] at H
have c5b0 : (t200 == 0) = true := beq_iff_eq.mpr c5
have c5b1 : (t200 != 0) = false := bne_eq_false_iff_eq.mpr c5
clear c5
obtain ⟨y201, hy201⟩ : ∃ y_ : List (S42), y_ = (([] : List (S42))) := ⟨_, rfl⟩
replace H : (sr19_Cut.l0 k l1 l2 y201 0 a0_0 a0_1 a0_2 a0_3 a0_4 a0_5 a0_6 l0_7) = some (r1, r2) := by first | (rw [hy201]; with_reducible exact H) | (have H2_ := (Option.bind_some _ _).symm.trans H; rw [hy201]; with_reducible exact H2_) | (have H2_ := (Option.bind_some _ _).symm.trans H; with_reducible exact H2_) | with_reducible exact H | (rw [hy201]; exact H) | exact H
have Ny201 := Aside0.mk hy201
clear hy201
have H' := Aside0.mk H
clear H
go_enter Try.func20, Try.ntmps20
go_wp2_with (first | ((with_reducible refine gate_dst (N := 3) rfl ?_); refine box_event ?hg (N := 3) ?hd (cs := #[.string a0_0, .string a0_1, .string a0_2, .string a0_3, .string a0_4, .string a0_5, .int .i64 a0_6, .slice A0_7 l0_7.length c0_7]) (t := 24) ?hr ?_; (case hd => rfl); (case hg => rfl); (case hr => first | (go_simp; done) | (go_simp; rfl)); intro gb199 hg w6 hbox hb; have n0_ := Aside0.mk (below_step (by repeat (first | (with_reducible first | exact HB.out | apply below_alloc | apply pw_below_drewN | apply below_drew1) | exact HB.out)) hb); have n1_ := Aside0.mk (hbox); have n2_ := Aside0.mk ((by rw [hg]; exact (below_size (by repeat (first | (with_reducible first | exact HB.out | apply below_alloc | apply pw_below_drewN | apply below_drew1) | exact HB.out))) : w.heap.size ≤ gb199)); have n3_ := Aside0.mk ((by rw [hg]; exact (below_size (by repeat (first | (with_reducible first | exact HB.out | apply below_alloc | apply pw_below_drewN | apply below_drew1) | exact HB.out))) : w.heap.size ≤ gb199)); clear HB; have HB := n0_; have BK199 := n1_; have GW199 := n2_; have GE199 := n3_; clear n0_ n1_ n2_ n3_; clear hb hbox hg; have hcz7_0 : w6.cell? ⟨gb199, 0, none⟩ = some (.string a0_0) := (blk_cell BK199.out 0).trans rfl; have hcz7_1 : w6.cell? ⟨gb199, 1, none⟩ = some (.string a0_1) := (blk_cell BK199.out 1).trans rfl; have hcz7_2 : w6.cell? ⟨gb199, 2, none⟩ = some (.string a0_2) := (blk_cell BK199.out 2).trans rfl; have hcz7_3 : w6.cell? ⟨gb199, 3, none⟩ = some (.string a0_3) := (blk_cell BK199.out 3).trans rfl; have hcz7_4 : w6.cell? ⟨gb199, 4, none⟩ = some (.string a0_4) := (blk_cell BK199.out 4).trans rfl; have hcz7_5 : w6.cell? ⟨gb199, 5, none⟩ = some (.string a0_5) := (blk_cell BK199.out 5).trans rfl; have hcz7_6 : w6.cell? ⟨gb199, 6, none⟩ = some (.int .i64 a0_6) := (blk_cell BK199.out 6).trans rfl; have hcz7_7 : w6.cell? ⟨gb199, 7, none⟩ = some (.slice A0_7 l0_7.length c0_7) := (blk_cell BK199.out 7).trans rfl; have hfz7_0 := blk_frozen BK199.out 0; have hfz7_1 := blk_frozen BK199.out 1; have hfz7_2 := blk_frozen BK199.out 2; have hfz7_3 := blk_frozen BK199.out 3; have hfz7_4 := blk_frozen BK199.out 4; have hfz7_5 := blk_frozen BK199.out 5; have hfz7_6 := blk_frozen BK199.out 6; have hfz7_7 := blk_frozen BK199.out 7) | ((with_reducible refine gate_callee (f := 59) rfl ?_); refine goesL_ (some 16) rfl rfl Try.func59 (by kernel_rfl) rfl #[.agg #[.string a0_0, .string a0_1, .string a0_2, .string a0_3, .string a0_4, .string a0_5, .int .i64 a0_6, .slice A0_7 l0_7.length c0_7], .slice A1 l1.length c1, .slice A2 l2.length c2] rfl (by (try simp only [List.map_toArray, List.map_cons, List.map_nil]); first | done | rfl | (simp only [List.length_drop, List.length_take]; rfl)) ?_; (with_reducible refine (sr19_Wrong.calls k a0_0 a0_1 a0_2 a0_3 a0_4 a0_5 a0_6 _ _ l0_7 _ _ l1 _ _ l2 t200 _ ?side1 ?side2 ?side3 ?side4 ?side5 ?side6 A4.out).mono ?_); (case side1 => repeat (first | exact (Kd.C_below HR0_7.out HB.out) | (with_reducible refine Kd.C_alloc ?_ _) | (with_reducible refine Kd.C_drewN ?_ _) | (with_reducible refine Kd.C_drew ?_))); (case side2 => exact HC0_7.out); (case side3 => repeat (first | exact (Kd.C_below HR1.out HB.out) | (with_reducible refine Kd.C_alloc ?_ _) | (with_reducible refine Kd.C_drewN ?_ _) | (with_reducible refine Kd.C_drew ?_))); (case side4 => exact HC1.out); (case side5 => repeat (first | exact (Kd.C_below HR2.out HB.out) | (with_reducible refine Kd.C_alloc ?_ _) | (with_reducible refine Kd.C_drewN ?_ _) | (with_reducible refine Kd.C_drew ?_))); (case side6 => exact HC2.out); rintro e w8 ⟨rfl, hb⟩; refine ⟨_, rfl, ?_⟩; have n0_ := Aside0.mk (blk_below (g := gb199) (o := .cells #[.string a0_0, .string a0_1, .string a0_2, .string a0_3, .string a0_4, .string a0_5, .int .i64 a0_6, .slice A0_7 l0_7.length c0_7] 24 (0, 0)) (by (with_reducible repeat (first | refine blk_drewN ?_ _ | refine blk_drew ?_ | refine blk_alloc ?_ _)); exact BK199.out) hb); have n1_ := Aside0.mk (below_step (by repeat (first | (with_reducible first | exact HB.out | apply below_alloc | apply pw_below_drewN | apply below_drew1 | refine below_set ?_ GE199.out) | exact HB.out)) hb); clear BK199; clear HB; have BK199 := n0_; have HB := n1_; clear n0_ n1_; (try clear hb); (try clear hb2); (try clear hk); (try clear hi)) | ((with_reducible refine gate_dst (N := 20) rfl ?_); refine Kd.S_lit k42 _ 42 ?hg (N := 20) ?hd (xs := ([] : List (S42))) (inner := []) (ok := fun _ => True) (okp := fun _ => True) ?hr ?hp (fun _ hk => hk) trivial (Below.refl _ _) (Nat.le_refl _) (by simp) ?_; (case hd => rfl); (case hg => rfl); (case hr => first | (go_simp; done) | (go_simp; rfl)); (case hp => exact (Reps.none _ _)); intro v202 w9 ho10 hb hg_ hnew_; clear hg_ hnew_; (first | rw [← Ny201.out] at ho10 | (simp only [Int.reduceToNat] at ho10; rw [← Ny201.out] at ho10)); have n0_ := Aside0.mk (Kd.S_lower ho10 (below_size (by repeat (first | (with_reducible first | exact HB.out | apply below_alloc | apply pw_below_drewN | apply below_drew1 | refine below_set ?_ GE199.out) | exact HB.out)))); have n1_ := Aside0.mk (blk_below (g := gb199) (o := .cells #[.string a0_0, .string a0_1, .string a0_2, .string a0_3, .string a0_4, .string a0_5, .int .i64 a0_6, .slice A0_7 l0_7.length c0_7] 24 (0, 0)) (by (with_reducible repeat (first | refine blk_drewN ?_ _ | refine blk_drew ?_ | refine blk_alloc ?_ _)); exact BK199.out) hb); have n2_ := Aside0.mk (below_step (by repeat (first | (with_reducible first | exact HB.out | apply below_alloc | apply pw_below_drewN | apply below_drew1 | refine below_set ?_ GE199.out) | exact HB.out)) hb); clear BK199; clear HB; have HO203 := n0_; have BK199 := n1_; have HB := n2_; clear n0_ n1_ n2_; clear hb ho10))
go_loopg [9, 10] k (fun kq v9 v10 w' => ∃ (x9_1 : List (S42)) (x10_1 : Int), v10 = .int .i64 x10_1 ∧ Aside0 (sr19_Cut.l0 kq l1 l2 x9_1 x10_1 a0_0 a0_1 a0_2 a0_3 a0_4 a0_5 a0_6 l0_7 = some (r1, r2)) ∧ Aside0 (kq ≤ k) ∧ Aside0 (Kd.S k42 42 w' w.heap.size (fun _ => True) v9 x9_1) ∧ Aside0 (w'.heap[gb199]? = some (.cells #[.string a0_0, .string a0_1, .string a0_2, .string a0_3, .string a0_4, .string a0_5, .int .i64 a0_6, (.slice A0_7 l0_7.length c0_7)] 24 (0, 0))) ∧ Aside0 (Below w.heap.size w w'))
case atStart => exact ⟨(y201), (0), (by first | rfl | (simp; done) | (simp [*]; done)), H', ⟨Nat.le_refl _⟩, ⟨by (with_reducible repeat (first | apply Kd.S_alloc | apply Kd.S_drewN | apply Kd.S_drew)); exact HO203.out⟩, ⟨by (with_reducible repeat (first | refine blk_drewN ?_ _ | refine blk_drew ?_ | refine blk_alloc ?_ _)); exact BK199.out⟩, ⟨by repeat (first | (with_reducible first | exact HB.out | apply below_alloc | apply pw_below_drewN | apply below_drew1 | refine below_set ?_ GE199.out) | exact HB.out)⟩⟩
case round => (
clear H'
try clear c1
try clear c2
try clear p2
try clear c5
try clear c5b0
try clear c5b1
try clear hcz7_0
try clear hcz7_1
try clear hcz7_2
try clear hcz7_3
try clear hcz7_4
try clear hcz7_5
try clear hcz7_6
try clear hcz7_7
try clear hfz7_0
try clear hfz7_1
try clear hfz7_2
try clear hfz7_3
try clear hfz7_4
try clear hfz7_5
try clear hfz7_6
try clear hfz7_7
obtain ⟨x9_1, x10_1, rfl, HA, HK1, HO_9, BK199, HB⟩ := hrel
cases gk with
| zero => exact absurd HA.out (by simp [sr19_Cut.l0])
| succ k1 => (
have H := HA.out
clear HA
simp only [sr19_Cut.l0] at H
by_cases c11 : x10_1 < (l2.length : Int)
·(
rw [if_pos c11] at H
have c11b0 : decide (x10_1 < (l2.length : Int)) = true := decide_eq_true c11
clear c11
by_cases c12 : 0 ≤ x10_1
·(
rw [if_pos c12] at H
have c12b0 : decide (0 ≤ x10_1) = true := decide_eq_true c12
clear c12
by_cases c13 : x10_1 < (l1.length : Int)
·(
rw [if_pos c13] at H
have c13b0 : decide (x10_1 < (l1.length : Int)) = true := decide_eq_true c13
clear c13
have H' := Aside0.mk H
clear H
try go_wp2
have n0_ := Aside0.mk (Kd.S_drew HO_9.out)
have n1_ := Aside0.mk (blk_drew BK199.out)
have n2_ := Aside0.mk (below_drew1 HB.out)
clear HO_9
clear BK199
clear HB
have HO_9 := n0_
have BK199 := n1_
have HB := n2_
clear n0_ n1_ n2_
have p204 : 0 ≤ (x10_1 : Int) := of_decide_eq_true (by first | (with_reducible assumption) | assumption)
have q204 : x10_1 < (l1.length : Int) := of_decide_eq_true (by first | (with_reducible assumption) | assumption)
obtain ⟨ad204, e204, hx204_0⟩ := Kd.at_int HR1.out x10_1 p204 q204
have hw204_0 := hx204_0
cases e204
replace hx204_0 := (HB.out.cell (World.block_lt_of_cell? w _ hx204_0)).trans hx204_0
replace p204 := eq_true p204
replace q204 := eq_true q204
refine start_ (n := 11) (S := fun w' => w'.cell? ⟨gb199, 0, none⟩ = some (.string a0_0) ∧ w'.cell? ⟨gb199, 1, none⟩ = some (.string a0_1) ∧ w'.cell? ⟨gb199, 2, none⟩ = some (.string a0_2) ∧ w'.cell? ⟨gb199, 3, none⟩ = some (.string a0_3) ∧ w'.cell? ⟨gb199, 4, none⟩ = some (.string a0_4) ∧ w'.cell? ⟨gb199, 5, none⟩ = some (.string a0_5) ∧ w'.cell? ⟨gb199, 6, none⟩ = some (.int .i64 a0_6) ∧ w'.cell? ⟨gb199, 7, none⟩ = some (.slice A0_7 l0_7.length c0_7) ∧ w'.cell? (ad204.add (x10_1).toNat) = some (.int .i64 (rd l1 x10_1))) (ds := []) #[F,F,F,F,F,F,F,F,F,F,F] (by kernel_rfl) rfl rfl ⟨(blk_cell BK199.out 0).trans rfl, (blk_cell BK199.out 1).trans rfl, (blk_cell BK199.out 2).trans rfl, (blk_cell BK199.out 3).trans rfl, (blk_cell BK199.out 4).trans rfl, (blk_cell BK199.out 5).trans rfl, (blk_cell BK199.out 6).trans rfl, (blk_cell BK199.out 7).trans rfl, ((HB.out.cell (World.block_lt_of_cell? w _ hw204_0)).trans hw204_0)⟩ (fun hHeld => ?_); refine with_tabW sr19_Cut.tab8 sr19_Cut.bits8 (fun HT_ HW_ => ?_)
generalize wr.drew = w14 at HO_9 BK199 HB hx204_0 hHeld ⊢
refine pure_ (i := 0) (N := some 27) (v := ?_) (a' := ?_) #[T,F,F,F,F,F,F,F,F,F,F] rfl rfl (any_of HT_.out (by kernel_rfl)) (fun _ _ _ h => h) (Or.inl ⟨by rfl, ?_⟩) ?_ ?_
rotate_left
·(
intro w'
go_simp
with_reducible rfl
)
rotate_left
·(
simp only [Act.put, List.setIfInBounds_toArray, List.set_cons_zero, List.set_cons_succ, i64_w, i32_w]
rfl
)
refine pure_ (i := 2) (N := some 29) (v := ?_) (a' := ?_) #[T,F,T,F,F,F,F,F,F,F,F] rfl rfl (any_of HT_.out (by kernel_rfl)) (fun _ _ _ h => h) (Or.inl ⟨by rfl, ?_⟩) ?_ ?_
rotate_left
·(
intro w'
go_simp
with_reducible rfl
)
rotate_left
·(
simp only [Act.put, List.setIfInBounds_toArray, List.set_cons_zero, List.set_cons_succ, i64_w, i32_w]
rfl
)
refine pure_ (i := 3) (N := some 30) (v := ?_) (a' := ?_) #[T,F,T,T,F,F,F,F,F,F,F] rfl rfl (any_of HT_.out (by kernel_rfl)) (fun _ _ _ h => h) (Or.inl ⟨by rfl, ?_⟩) ?_ ?_
rotate_left
·(
intro w'
go_simp
with_reducible rfl
)
rotate_left
·(
simp only [Act.put, List.setIfInBounds_toArray, List.set_cons_zero, List.set_cons_succ, i64_w, i32_w]
rfl
)
refine pure_ (i := 4) (N := some 31) (v := ?_) (a' := ?_) #[T,F,T,T,T,F,F,F,F,F,F] rfl rfl (any_of HT_.out (by kernel_rfl)) (fun _ _ _ h => h) (Or.inl ⟨by rfl, ?_⟩) ?_ ?_
rotate_left
·(
intro w'
go_simp
with_reducible rfl
)
rotate_left
·(
simp only [Act.put, List.setIfInBounds_toArray, List.set_cons_zero, List.set_cons_succ, i64_w, i32_w]
rfl
)
refine pure_ (i := 5) (N := some 32) (v := ?_) (a' := ?_) #[T,F,T,T,T,T,F,F,F,F,F] rfl rfl (any_of HT_.out (by kernel_rfl)) (fun _ _ _ h => h) (Or.inl ⟨by rfl, ?_⟩) ?_ ?_
rotate_left
·(
intro w'
go_simp
with_reducible rfl
)
rotate_left
·(
simp only [Act.put, List.setIfInBounds_toArray, List.set_cons_zero, List.set_cons_succ, i64_w, i32_w]
rfl
)
refine pure_ (i := 6) (N := some 33) (v := ?_) (a' := ?_) #[T,F,T,T,T,T,T,F,F,F,F] rfl rfl (any_of HT_.out (by kernel_rfl)) (fun _ _ _ h => h) (Or.inl ⟨by rfl, ?_⟩) ?_ ?_
rotate_left
·(
intro w'
go_simp
with_reducible rfl
)
rotate_left
·(
simp only [Act.put, List.setIfInBounds_toArray, List.set_cons_zero, List.set_cons_succ, i64_w, i32_w]
rfl
)
refine take_ (i := 1) (N := some 28) (v := ?_) (a' := ?_) #[T,T,T,T,T,T,T,F,F,F,F] rfl rfl (take_ofW HT_.out HW_.out (by kernel_rfl)) (fun _ _ _ h => h) (Or.inl ⟨by rfl, ?_⟩) hHeld ?_ ?_
rotate_left
·(
rintro w' ⟨s0, s1, s2, s3, s4, s5, s6, s7, s8⟩
go_simp
with_reducible rfl
)
rotate_left
·(
simp only [Act.put, List.setIfInBounds_toArray, List.set_cons_zero, List.set_cons_succ, i64_w, i32_w]
rfl
)
refine take_ (i := 7) (N := some 34) (v := ?_) (a' := ?_) #[T,T,T,T,T,T,T,T,F,F,F] rfl rfl (take_ofW HT_.out HW_.out (by kernel_rfl)) (fun _ _ _ h => h) (Or.inl ⟨by rfl, ?_⟩) hHeld ?_ ?_
rotate_left
·(
rintro w' ⟨s0, s1, s2, s3, s4, s5, s6, s7, s8⟩
go_simp
with_reducible rfl
)
rotate_left
·(
simp only [Act.put, List.setIfInBounds_toArray, List.set_cons_zero, List.set_cons_succ, i64_w, i32_w]
rfl
)
refine pure_ (i := 8) (N := some 35) (v := ?_) (a' := ?_) #[T,T,T,T,T,T,T,T,T,F,F] rfl rfl (any_of HT_.out (by kernel_rfl)) (fun _ _ _ h => h) (Or.inl ⟨by rfl, ?_⟩) ?_ ?_
rotate_left
·(
intro w'
go_simp
with_reducible rfl
)
rotate_left
·(
simp only [Act.put, List.setIfInBounds_toArray, List.set_cons_zero, List.set_cons_succ, i64_w, i32_w]
rfl
)
refine one_ (i := 9) (N := some 11) #[T,T,T,T,T,T,T,T,T,T,F] rfl rfl (one_of HT_.out (by kernel_rfl)) (by decide) (fun K hK => ?_)
refine box_step ?hg (N := 11) ?hd (cs := #[.string (⟨#[]⟩ : ByteArray), .int .i64 0, .int .i64 0, .slice none 0 0]) (t := 42) ?hr ?_; (case hd => rfl); (case hg => rfl); (case hr => first | (go_simp; done) | (go_simp; rfl))
intro gb205 hg w15 hbox hb
have n0_ := Aside0.mk (Kd.S_below (Kd.S_elderB (by (with_reducible repeat (first | apply Kd.S_alloc | apply Kd.S_drewN | apply Kd.S_drew)); exact HO_9.out) gb205 (Nat.le_of_eq hg.symm)) hb)
have n1_ := Aside0.mk (blk_below (g := gb199) (o := .cells #[.string a0_0, .string a0_1, .string a0_2, .string a0_3, .string a0_4, .string a0_5, .int .i64 a0_6, .slice A0_7 l0_7.length c0_7] 24 (0, 0)) (by (with_reducible repeat (first | refine blk_drewN ?_ _ | refine blk_drew ?_ | refine blk_alloc ?_ _)); exact BK199.out) hb)
have n2_ := Aside0.mk (below_step (by repeat (first | (with_reducible first | exact HB.out | apply below_alloc | apply pw_below_drewN | apply below_drew1 | refine below_set ?_ GE199.out) | exact HB.out)) hb)
have n3_ := Aside0.mk (hbox)
have n4_ := Aside0.mk ((by rw [hg]; exact (below_size (by repeat (first | (with_reducible first | exact HB.out | apply below_alloc | apply pw_below_drewN | apply below_drew1 | refine below_set ?_ GE199.out) | exact HB.out))) : w.heap.size ≤ gb205))
have n5_ := Aside0.mk ((by rw [hg]; exact (below_size (by repeat (first | (with_reducible first | exact HB.out | apply below_alloc | apply pw_below_drewN | apply below_drew1 | refine below_set ?_ GE199.out) | exact HB.out))) : w.heap.size ≤ gb205))
have n6_ := Aside0.mk ((by rw [hg]; exact Nat.ne_of_lt (blk_lt (g := gb199) (o := .cells #[.string a0_0, .string a0_1, .string a0_2, .string a0_3, .string a0_4, .string a0_5, .int .i64 a0_6, .slice A0_7 l0_7.length c0_7] 24 (0, 0)) (by (with_reducible repeat (first | refine blk_drewN ?_ _ | refine blk_drew ?_ | refine blk_alloc ?_ _)); exact BK199.out)) : gb199 ≠ gb205))
have n7_ := Aside0.mk ((by rw [hg]; exact Nat.ne_of_gt (blk_lt (g := gb199) (o := .cells #[.string a0_0, .string a0_1, .string a0_2, .string a0_3, .string a0_4, .string a0_5, .int .i64 a0_6, .slice A0_7 l0_7.length c0_7] 24 (0, 0)) (by (with_reducible repeat (first | refine blk_drewN ?_ _ | refine blk_drew ?_ | refine blk_alloc ?_ _)); exact BK199.out)) : gb205 ≠ gb199))
clear HO_9
clear BK199
clear HB
have HO_9 := n0_
have BK199 := n1_
have HB := n2_
have BK205 := n3_
have GW205 := n4_
have GE205 := n5_
have NB199_205 := n6_
have NB205_199 := n7_
clear n0_ n1_ n2_ n3_ n4_ n5_ n6_ n7_
clear hb hbox hg
refine hK.out _ _ ⟨(blk_cell BK199.out 0).trans rfl, (blk_cell BK199.out 1).trans rfl, (blk_cell BK199.out 2).trans rfl, (blk_cell BK199.out 3).trans rfl, (blk_cell BK199.out 4).trans rfl, (blk_cell BK199.out 5).trans rfl, (blk_cell BK199.out 6).trans rfl, (blk_cell BK199.out 7).trans rfl, ((HB.out.cell (World.block_lt_of_cell? w _ hw204_0)).trans hw204_0)⟩ (fun hHeld => ?_)
clear hK K
refine norm_ (a' := ?_) ?_ ?_
rotate_left
·(
show Act.put _ (some 11) _ = _
simp only [Act.put, List.setIfInBounds_toArray, List.set_cons_zero, List.set_cons_succ, i64_w, i32_w]
rfl
)
refine one_ (i := 10) (N := none) #[T,T,T,T,T,T,T,T,T,T,T] rfl rfl (one_of HT_.out (by kernel_rfl)) (by decide) (fun K hK => ?_)
have hs16 : w15.cell? ⟨gb205, 0, none⟩ = some (.string (⟨#[]⟩ : ByteArray)) := (blk_cell BK205.out 0).trans rfl
have hfs16 := blk_frozen BK205.out 0
have hns16_0 := NB199_205.out
have hms16_0 := NB205_199.out
have hs17 : w15.cell? ⟨gb205, 1, none⟩ = some (.int .i64 0) := (blk_cell BK205.out 1).trans rfl
have hfs17 := blk_frozen BK205.out 1
have hns17_0 := NB199_205.out
have hms17_0 := NB205_199.out
have hs18 : w15.cell? ⟨gb205, 2, none⟩ = some (.int .i64 0) := (blk_cell BK205.out 2).trans rfl
have hfs18 := blk_frozen BK205.out 2
have hns18_0 := NB199_205.out
have hms18_0 := NB205_199.out
have hs19 : w15.cell? ⟨gb205, 3, none⟩ = some (.slice none 0 0) := (blk_cell BK205.out 3).trans rfl
have hfs19 := blk_frozen BK205.out 3
have hns19_0 := NB199_205.out
have hms19_0 := NB205_199.out
refine skip_ (w1 := ?_) (by rfl) rfl ?_ ?_
rotate_left
·(
go_simp
rfl
)
refine hK.out _ _ ⟨((cell_far (p := ⟨gb205, _, none⟩) NB199_205.out _).trans (((cell_far (p := ⟨gb205, _, none⟩) NB199_205.out _).trans (((cell_far (p := ⟨gb205, _, none⟩) NB199_205.out _).trans (((cell_far (p := ⟨gb205, _, none⟩) NB199_205.out _).trans (hHeld.1)))))))), ((cell_far (p := ⟨gb205, _, none⟩) NB199_205.out _).trans (((cell_far (p := ⟨gb205, _, none⟩) NB199_205.out _).trans (((cell_far (p := ⟨gb205, _, none⟩) NB199_205.out _).trans (((cell_far (p := ⟨gb205, _, none⟩) NB199_205.out _).trans (hHeld.2.1)))))))), ((cell_far (p := ⟨gb205, _, none⟩) NB199_205.out _).trans (((cell_far (p := ⟨gb205, _, none⟩) NB199_205.out _).trans (((cell_far (p := ⟨gb205, _, none⟩) NB199_205.out _).trans (((cell_far (p := ⟨gb205, _, none⟩) NB199_205.out _).trans (hHeld.2.2.1)))))))), ((cell_far (p := ⟨gb205, _, none⟩) NB199_205.out _).trans (((cell_far (p := ⟨gb205, _, none⟩) NB199_205.out _).trans (((cell_far (p := ⟨gb205, _, none⟩) NB199_205.out _).trans (((cell_far (p := ⟨gb205, _, none⟩) NB199_205.out _).trans (hHeld.2.2.2.1)))))))), ((cell_far (p := ⟨gb205, _, none⟩) NB199_205.out _).trans (((cell_far (p := ⟨gb205, _, none⟩) NB199_205.out _).trans (((cell_far (p := ⟨gb205, _, none⟩) NB199_205.out _).trans (((cell_far (p := ⟨gb205, _, none⟩) NB199_205.out _).trans (hHeld.2.2.2.2.1)))))))), ((cell_far (p := ⟨gb205, _, none⟩) NB199_205.out _).trans (((cell_far (p := ⟨gb205, _, none⟩) NB199_205.out _).trans (((cell_far (p := ⟨gb205, _, none⟩) NB199_205.out _).trans (((cell_far (p := ⟨gb205, _, none⟩) NB199_205.out _).trans (hHeld.2.2.2.2.2.1)))))))), ((cell_far (p := ⟨gb205, _, none⟩) NB199_205.out _).trans (((cell_far (p := ⟨gb205, _, none⟩) NB199_205.out _).trans (((cell_far (p := ⟨gb205, _, none⟩) NB199_205.out _).trans (((cell_far (p := ⟨gb205, _, none⟩) NB199_205.out _).trans (hHeld.2.2.2.2.2.2.1)))))))), ((cell_far (p := ⟨gb205, _, none⟩) NB199_205.out _).trans (((cell_far (p := ⟨gb205, _, none⟩) NB199_205.out _).trans (((cell_far (p := ⟨gb205, _, none⟩) NB199_205.out _).trans (((cell_far (p := ⟨gb205, _, none⟩) NB199_205.out _).trans (hHeld.2.2.2.2.2.2.2.1)))))))), ((cell_far (p := ⟨gb205, _, none⟩) (by first | exact Nat.ne_of_lt (Nat.lt_of_lt_of_le (by have := World.block_lt_of_cell? _ _ hw204_0; first | rwa [add_block] at this | exact this) GW205.out) | (rw [add_block]; exact Nat.ne_of_lt (Nat.lt_of_lt_of_le (by have := World.block_lt_of_cell? _ _ hw204_0; first | rwa [add_block] at this | exact this) GW205.out)) | (show (Addr.add _ _).block ≠ _; rw [add_block]; exact Nat.ne_of_lt (Nat.lt_of_lt_of_le (by have := World.block_lt_of_cell? _ _ hw204_0; first | rwa [add_block] at this | exact this) GW205.out)) | (dsimp only; exact Nat.ne_of_lt (Nat.lt_of_lt_of_le (by have := World.block_lt_of_cell? _ _ hw204_0; first | rwa [add_block] at this | exact this) GW205.out))) _).trans (((cell_far (p := ⟨gb205, _, none⟩) (by first | exact Nat.ne_of_lt (Nat.lt_of_lt_of_le (by have := World.block_lt_of_cell? _ _ hw204_0; first | rwa [add_block] at this | exact this) GW205.out) | (rw [add_block]; exact Nat.ne_of_lt (Nat.lt_of_lt_of_le (by have := World.block_lt_of_cell? _ _ hw204_0; first | rwa [add_block] at this | exact this) GW205.out)) | (show (Addr.add _ _).block ≠ _; rw [add_block]; exact Nat.ne_of_lt (Nat.lt_of_lt_of_le (by have := World.block_lt_of_cell? _ _ hw204_0; first | rwa [add_block] at this | exact this) GW205.out)) | (dsimp only; exact Nat.ne_of_lt (Nat.lt_of_lt_of_le (by have := World.block_lt_of_cell? _ _ hw204_0; first | rwa [add_block] at this | exact this) GW205.out))) _).trans (((cell_far (p := ⟨gb205, _, none⟩) (by first | exact Nat.ne_of_lt (Nat.lt_of_lt_of_le (by have := World.block_lt_of_cell? _ _ hw204_0; first | rwa [add_block] at this | exact this) GW205.out) | (rw [add_block]; exact Nat.ne_of_lt (Nat.lt_of_lt_of_le (by have := World.block_lt_of_cell? _ _ hw204_0; first | rwa [add_block] at this | exact this) GW205.out)) | (show (Addr.add _ _).block ≠ _; rw [add_block]; exact Nat.ne_of_lt (Nat.lt_of_lt_of_le (by have := World.block_lt_of_cell? _ _ hw204_0; first | rwa [add_block] at this | exact this) GW205.out)) | (dsimp only; exact Nat.ne_of_lt (Nat.lt_of_lt_of_le (by have := World.block_lt_of_cell? _ _ hw204_0; first | rwa [add_block] at this | exact this) GW205.out))) _).trans (((cell_far (p := ⟨gb205, _, none⟩) (by first | exact Nat.ne_of_lt (Nat.lt_of_lt_of_le (by have := World.block_lt_of_cell? _ _ hw204_0; first | rwa [add_block] at this | exact this) GW205.out) | (rw [add_block]; exact Nat.ne_of_lt (Nat.lt_of_lt_of_le (by have := World.block_lt_of_cell? _ _ hw204_0; first | rwa [add_block] at this | exact this) GW205.out)) | (show (Addr.add _ _).block ≠ _; rw [add_block]; exact Nat.ne_of_lt (Nat.lt_of_lt_of_le (by have := World.block_lt_of_cell? _ _ hw204_0; first | rwa [add_block] at this | exact this) GW205.out)) | (dsimp only; exact Nat.ne_of_lt (Nat.lt_of_lt_of_le (by have := World.block_lt_of_cell? _ _ hw204_0; first | rwa [add_block] at this | exact this) GW205.out))) _).trans (hHeld.2.2.2.2.2.2.2.2))))))))⟩ (fun hHeld => ?_)
clear hK K
refine done_ (done_of HT_.out (by kernel_rfl)) ?_
try go_wp2
go_loopg [12] k1 (fun kq v12 w' => ∃ (x12_2 : Int) (x206003_2 : List (S67)) (u206003 : Value), v12 = .int .i64 x12_2 ∧ Aside0 (sr19_Cut.l1 kq l1 l2 x9_1 x10_1 x12_2 a0_0 a0_1 a0_2 a0_3 a0_4 a0_5 a0_6 l0_7 a0_0 (wrap64 (x10_1 + 1)) (rd l1 x10_1) x206003_2 = some (r1, r2)) ∧ Aside0 (kq ≤ k1) ∧ Aside0 (Kd.S k42 42 w' w.heap.size (fun k_ => some k_ ≠ (u206003 : Value).ownBlock ∧ k_ ≠ gb205) u9 x9_1) ∧ Aside0 (Kd.R k67 67 w' w.heap.size (fun _ => True) u206003 x206003_2) ∧ Aside0 (w'.heap[gb199]? = some (.cells #[.string a0_0, .string a0_1, .string a0_2, .string a0_3, .string a0_4, .string a0_5, .int .i64 a0_6, (.slice A0_7 l0_7.length c0_7)] 24 (0, 0))) ∧ Aside0 (w'.heap[gb205]? = some (.cells #[.string a0_0, .int .i64 (wrap64 (x10_1 + 1)), .int .i64 (rd l1 x10_1), u206003] 42 (0, 0))) ∧ Aside0 (Below w.heap.size w w'))
case atStart => exact ⟨(0), (([] : List (S67))), (.slice none 0 0), (by first | rfl | (simp; done) | (simp [*]; done)), H', ⟨Nat.le_refl _⟩, ⟨by (with_reducible repeat (first | apply Kd.S_alloc | apply Kd.S_drewN | apply Kd.S_drew)); exact Kd.S_mono (Kd.S_far (p := ⟨gb205, 3, none⟩) (Kd.S_far (p := ⟨gb205, 2, none⟩) (Kd.S_far (p := ⟨gb205, 1, none⟩) (Kd.S_far (p := ⟨gb205, 0, none⟩) (Kd.S_mono HO_9.out (fun k_ hk => (⟨hk, hk.2⟩ : _ ∧ k_ ≠ gb205))) (fun _ hk => hk.2) (.string a0_0)) (fun _ hk => hk.2) (.int .i64 (wrap64 (x10_1 + 1)))) (fun _ hk => hk.2) (.int .i64 (rd l1 x10_1))) (fun _ hk => hk.2) (.slice none 0 0)) (fun _ hk => ⟨(by simp [Value.ownBlock]), hk.1.2⟩)⟩, ⟨by first | exact Kd.R_nil _ _ _ _ _ | exact Kd.N_nil _ _ _ _ _ | exact Kd.V_nil _ _ _ _ _ | exact Kd.Q_nil _ _ _ _ _ | exact Kd.S_nil _ _ _ _ _⟩, ⟨by (with_reducible repeat (first | refine blk_drewN ?_ _ | refine blk_drew ?_ | refine blk_alloc ?_ _)); refine blk_far ?_ NB199_205.out _; (with_reducible repeat (first | refine blk_drewN ?_ _ | refine blk_drew ?_ | refine blk_alloc ?_ _)); refine blk_far ?_ NB199_205.out _; (with_reducible repeat (first | refine blk_drewN ?_ _ | refine blk_drew ?_ | refine blk_alloc ?_ _)); refine blk_far ?_ NB199_205.out _; (with_reducible repeat (first | refine blk_drewN ?_ _ | refine blk_drew ?_ | refine blk_alloc ?_ _)); refine blk_far ?_ NB199_205.out _; (with_reducible repeat (first | refine blk_drewN ?_ _ | refine blk_drew ?_ | refine blk_alloc ?_ _)); exact BK199.out⟩, ⟨by (with_reducible repeat (first | refine blk_drewN ?_ _ | refine blk_drew ?_ | refine blk_alloc ?_ _)); refine blk_put (cs := #[.string a0_0, .int .i64 (wrap64 (x10_1 + 1)), .int .i64 (rd l1 x10_1), .slice none 0 0]) ?_ 3 _ rfl; (with_reducible repeat (first | refine blk_drewN ?_ _ | refine blk_drew ?_ | refine blk_alloc ?_ _)); refine blk_put (cs := #[.string a0_0, .int .i64 (wrap64 (x10_1 + 1)), .int .i64 0, .slice none 0 0]) ?_ 2 _ rfl; (with_reducible repeat (first | refine blk_drewN ?_ _ | refine blk_drew ?_ | refine blk_alloc ?_ _)); refine blk_put (cs := #[.string a0_0, .int .i64 0, .int .i64 0, .slice none 0 0]) ?_ 1 _ rfl; (with_reducible repeat (first | refine blk_drewN ?_ _ | refine blk_drew ?_ | refine blk_alloc ?_ _)); refine blk_put (cs := #[.string (⟨#[]⟩ : ByteArray), .int .i64 0, .int .i64 0, .slice none 0 0]) ?_ 0 _ rfl; (with_reducible repeat (first | refine blk_drewN ?_ _ | refine blk_drew ?_ | refine blk_alloc ?_ _)); exact BK205.out⟩, ⟨by repeat (first | (with_reducible first | exact HB.out | apply below_alloc | apply pw_below_drewN | apply below_drew1 | refine below_set ?_ GE199.out | refine below_set ?_ GE205.out) | exact HB.out)⟩⟩
case round => (
clear H'
try clear c1
try clear c2
try clear p2
try clear q2
try clear hx2
try clear c5
try clear c5b0
try clear c5b1
try clear p6
try clear c11
try clear c11b0
try clear c12
try clear c12b0
try clear c13
try clear c13b0
try clear hcz7_0
try clear hcz7_1
try clear hcz7_2
try clear hcz7_3
try clear hcz7_4
try clear hcz7_5
try clear hcz7_6
try clear hcz7_7
try clear hfz7_0
try clear hfz7_1
try clear hfz7_2
try clear hfz7_3
try clear hfz7_4
try clear hfz7_5
try clear hfz7_6
try clear hfz7_7
try clear hx204_0
try clear p2
try clear p204
try clear q204
obtain ⟨x12_2, x206003_2, u206003, rfl, HA, HK2, HO_9, HO_206003, BK199, BK205, HB⟩ := hrel
cases gk with
| zero => exact absurd HA.out (by simp [sr19_Cut.l1])
| succ k2 => (
have H := HA.out
clear HA
simp only [sr19_Cut.l1] at H
by_cases c20 : 0 ≤ x10_1
·(
rw [if_pos c20] at H
have c20b0 : decide (0 ≤ x10_1) = true := decide_eq_true c20
clear c20
by_cases c21 : x10_1 < (l2.length : Int)
·(
rw [if_pos c21] at H
have c21b0 : decide (x10_1 < (l2.length : Int)) = true := decide_eq_true c21
clear c21
by_cases c22 : x12_2 < ((rd_L5 l2 x10_1).length : Int)
·(
rw [if_pos c22] at H
have c22b0 : decide (x12_2 < ((rd_L5 l2 x10_1).length : Int)) = true := decide_eq_true c22
clear c22
by_cases c23 : 0 ≤ x12_2
·(
rw [if_pos c23] at H
have c23b0 : decide (0 ≤ x12_2) = true := decide_eq_true c23
clear c23
by_cases c24 : (rd (rd_L5 l2 x10_1) x12_2) > 0
·(
rw [if_pos c24] at H
have c24b0 : decide (0 < (rd (rd_L5 l2 x10_1) x12_2)) = true := decide_eq_true c24
clear c24
by_cases c25 : x12_2 < (l0_7.length : Int)
·(
rw [if_pos c25] at H
have c25b0 : decide (x12_2 < (l0_7.length : Int)) = true := decide_eq_true c25
clear c25
by_cases c26 : x206003_2.length < 5864062014805
·(
rw [if_pos c26] at H
have LMc26 := Aside0.mk c26
clear c26
obtain ⟨y212, hy212⟩ : ∃ y_ : List (S67), y_ = (x206003_2 ++ [(⟨(rd_T65 l0_7 x12_2).f0, rd (rd_L5 l2 x10_1) x12_2⟩ : S67)]) := ⟨_, rfl⟩
replace H : (sr19_Cut.l1 k2 l1 l2 x9_1 x10_1 (wrap64 (x12_2 + 1)) a0_0 a0_1 a0_2 a0_3 a0_4 a0_5 a0_6 l0_7 a0_0 (wrap64 (x10_1 + 1)) (rd l1 x10_1) y212) = some (r1, r2) := by first | (rw [hy212]; with_reducible exact H) | (have H2_ := (Option.bind_some _ _).symm.trans H; rw [hy212]; with_reducible exact H2_) | (have H2_ := (Option.bind_some _ _).symm.trans H; with_reducible exact H2_) | with_reducible exact H | (rw [hy212]; exact H) | exact H
have Ny212 := Aside0.mk hy212
clear hy212
have H' := Aside0.mk H
clear H
have p206 : 0 ≤ (x10_1 : Int) := of_decide_eq_true (by first | (with_reducible assumption) | assumption)
have q206 : x10_1 < (l2.length : Int) := of_decide_eq_true (by first | (with_reducible assumption) | assumption)
obtain ⟨ad206, A206_0, c206_0, e206, hx206_0, hl206_0, hi206_0⟩ := at_L5 HR2.out x10_1 p206 q206
cases e206
replace hx206_0 := (HB.out.cell (World.block_lt_of_cell? w _ hx206_0)).trans hx206_0
have HR206_0 := Aside0.mk hi206_0
have HC206_0 := Aside0.mk hl206_0
clear hi206_0 hl206_0
replace p206 := eq_true p206
replace q206 := eq_true q206
have p207 : 0 ≤ (x10_1 : Int) := of_decide_eq_true (by first | (with_reducible assumption) | assumption)
have q207 : x10_1 < (l2.length : Int) := of_decide_eq_true (by first | (with_reducible assumption) | assumption)
obtain ⟨ad207, A207_0, c207_0, e207, hx207_0, hl207_0, hi207_0⟩ := at_L5 HR2.out x10_1 p207 q207
obtain rfl : ad206 = ad207 := (by injection e207)
replace hx207_0 := (HB.out.cell (World.block_lt_of_cell? w _ hx207_0)).trans hx207_0
have HR207_0 := Aside0.mk hi207_0
have HC207_0 := Aside0.mk hl207_0
clear hi207_0 hl207_0
replace p207 := eq_true p207
replace q207 := eq_true q207
have ea_ := Option.some.inj (hx206_0.symm.trans hx207_0)
injection ea_ with ea_ en_ ec_
subst ea_
subst ec_
clear en_
have p208 : 0 ≤ (x12_2 : Int) := of_decide_eq_true (by first | (with_reducible assumption) | assumption)
have q208 : x12_2 < ((rd_L5 l2 x10_1).length : Int) := of_decide_eq_true (by first | (with_reducible assumption) | assumption)
obtain ⟨ad208, e208, hx208_0⟩ := Kd.at_int HR207_0.out x12_2 p208 q208
cases e208
replace hx208_0 := (HB.out.cell (World.block_lt_of_cell? w _ hx208_0)).trans hx208_0
replace p208 := eq_true p208
replace q208 := eq_true q208
try go_wp2
have n0_ := Aside0.mk (Kd.S_drew HO_9.out)
have n1_ := Aside0.mk (Kd.R_drew HO_206003.out)
have n2_ := Aside0.mk (blk_drew BK199.out)
have n3_ := Aside0.mk (blk_drew BK205.out)
have n4_ := Aside0.mk (below_drew1 HB.out)
clear HO_9
clear HO_206003
clear BK199
clear BK205
clear HB
have HO_9 := n0_
have HO_206003 := n1_
have BK199 := n2_
have BK205 := n3_
have HB := n4_
clear n0_ n1_ n2_ n3_ n4_
have p209 : 0 ≤ (x12_2 : Int) := of_decide_eq_true (by first | (with_reducible assumption) | assumption)
have q209 : x12_2 < (l0_7.length : Int) := of_decide_eq_true (by first | (with_reducible assumption) | assumption)
obtain ⟨ad209, e209, hx209_0, hx209_1, hx209_2⟩ := at_T65 HR0_7.out x12_2 p209 q209
have hw209_2 := hx209_2
have hw209_1 := hx209_1
have hw209_0 := hx209_0
cases e209
replace hx209_0 := (HB.out.cell (World.block_lt_of_cell? w _ hx209_0)).trans hx209_0
replace hx209_1 := (HB.out.cell (World.block_lt_of_cell? w _ hx209_1)).trans hx209_1
replace hx209_2 := (HB.out.cell (World.block_lt_of_cell? w _ hx209_2)).trans hx209_2
replace p209 := eq_true p209
replace q209 := eq_true q209
have p210 : 0 ≤ (x10_1 : Int) := of_decide_eq_true (by first | (with_reducible assumption) | assumption)
have q210 : x10_1 < (l2.length : Int) := of_decide_eq_true (by first | (with_reducible assumption) | assumption)
obtain ⟨ad210, A210_0, c210_0, e210, hx210_0, hl210_0, hi210_0⟩ := at_L5 HR2.out x10_1 p210 q210
have hw210_0 := hx210_0
obtain rfl : ad206 = ad210 := (by injection e210)
replace hx210_0 := (HB.out.cell (World.block_lt_of_cell? w _ hx210_0)).trans hx210_0
have HR210_0 := Aside0.mk hi210_0
have HC210_0 := Aside0.mk hl210_0
clear hi210_0 hl210_0
replace p210 := eq_true p210
replace q210 := eq_true q210
have p211 : 0 ≤ (x12_2 : Int) := of_decide_eq_true (by first | (with_reducible assumption) | assumption)
have q211 : x12_2 < ((rd_L5 l2 x10_1).length : Int) := of_decide_eq_true (by first | (with_reducible assumption) | assumption)
obtain ⟨ad211, e211, hx211_0⟩ := Kd.at_int HR210_0.out x12_2 p211 q211
have hw211_0 := hx211_0
cases e211
replace hx211_0 := (HB.out.cell (World.block_lt_of_cell? w _ hx211_0)).trans hx211_0
replace p211 := eq_true p211
replace q211 := eq_true q211
refine start_ (n := 20) (S := fun w' => w'.cell? ⟨gb205, 0, none⟩ = some (.string a0_0) ∧ w'.cell? ⟨gb205, 1, none⟩ = some (.int .i64 (wrap64 (x10_1 + 1))) ∧ w'.cell? ⟨gb205, 2, none⟩ = some (.int .i64 (rd l1 x10_1)) ∧ w'.cell? ⟨gb205, 3, none⟩ = some (u206003) ∧ w'.cell? ⟨gb199, 0, none⟩ = some (.string a0_0) ∧ w'.cell? ⟨gb199, 1, none⟩ = some (.string a0_1) ∧ w'.cell? ⟨gb199, 2, none⟩ = some (.string a0_2) ∧ w'.cell? ⟨gb199, 3, none⟩ = some (.string a0_3) ∧ w'.cell? ⟨gb199, 4, none⟩ = some (.string a0_4) ∧ w'.cell? ⟨gb199, 5, none⟩ = some (.string a0_5) ∧ w'.cell? ⟨gb199, 6, none⟩ = some (.int .i64 a0_6) ∧ w'.cell? ⟨gb199, 7, none⟩ = some (.slice (some ad209) l0_7.length c0_7) ∧ w'.cell? (ad209.add ((x12_2).toNat * 3)) = some (.string ((rd_T65 l0_7 x12_2).f0)) ∧ w'.cell? ⟨(ad209.add ((x12_2).toNat * 3)).block, (ad209.add ((x12_2).toNat * 3)).off + 1, none⟩ = some (.int .i64 ((rd_T65 l0_7 x12_2).f1)) ∧ w'.cell? ⟨(ad209.add ((x12_2).toNat * 3)).block, (ad209.add ((x12_2).toNat * 3)).off + 2, none⟩ = some (.int .i64 ((rd_T65 l0_7 x12_2).f2)) ∧ w'.cell? (ad206.add (x10_1).toNat) = some (.slice (some ad211) (rd_L5 l2 x10_1).length c210_0) ∧ w'.cell? (ad211.add (x12_2).toNat) = some (.int .i64 (rd (rd_L5 l2 x10_1) x12_2))) (ds := [19]) #[F,F,F,F,F,F,F,F,F,F,F,F,F,F,F,F,F,F,F,F] (by kernel_rfl) rfl rfl ⟨(blk_cell BK205.out 0).trans rfl, (blk_cell BK205.out 1).trans rfl, (blk_cell BK205.out 2).trans rfl, (blk_cell BK205.out 3).trans rfl, (blk_cell BK199.out 0).trans rfl, (blk_cell BK199.out 1).trans rfl, (blk_cell BK199.out 2).trans rfl, (blk_cell BK199.out 3).trans rfl, (blk_cell BK199.out 4).trans rfl, (blk_cell BK199.out 5).trans rfl, (blk_cell BK199.out 6).trans rfl, (blk_cell BK199.out 7).trans rfl, ((HB.out.cell (World.block_lt_of_cell? w _ hw209_0)).trans hw209_0), ((HB.out.cell (World.block_lt_of_cell? w _ hw209_1)).trans hw209_1), ((HB.out.cell (World.block_lt_of_cell? w _ hw209_2)).trans hw209_2), ((HB.out.cell (World.block_lt_of_cell? w _ hw210_0)).trans hw210_0), ((HB.out.cell (World.block_lt_of_cell? w _ hw211_0)).trans hw211_0)⟩ (fun hHeld => ?_); refine with_tabW sr19_Cut.tab13 sr19_Cut.bits13 (fun HT_ HW_ => ?_)
generalize wr.drew = w27 at HO_9 HO_206003 BK199 BK205 HB HR210_0 hx209_0 hx209_1 hx209_2 hx210_0 hx211_0 hHeld ⊢
refine pure_ (i := 0) (N := some 53) (v := ?_) (a' := ?_) #[T,F,F,F,F,F,F,F,F,F,F,F,F,F,F,F,F,F,F,F] rfl rfl (any_of HT_.out (by kernel_rfl)) (fun _ _ _ h => h) (Or.inl ⟨by rfl, ?_⟩) ?_ ?_
rotate_left
·(
intro w'
go_simp
with_reducible rfl
)
rotate_left
·(
simp only [Act.put, List.setIfInBounds_toArray, List.set_cons_zero, List.set_cons_succ, i64_w, i32_w]
rfl
)
refine pure_ (i := 2) (N := some 55) (v := ?_) (a' := ?_) #[T,F,T,F,F,F,F,F,F,F,F,F,F,F,F,F,F,F,F,F] rfl rfl (any_of HT_.out (by kernel_rfl)) (fun _ _ _ h => h) (Or.inl ⟨by rfl, ?_⟩) ?_ ?_
rotate_left
·(
intro w'
go_simp
with_reducible rfl
)
rotate_left
·(
simp only [Act.put, List.setIfInBounds_toArray, List.set_cons_zero, List.set_cons_succ, i64_w, i32_w]
rfl
)
refine pure_ (i := 4) (N := some 57) (v := ?_) (a' := ?_) #[T,F,T,F,T,F,F,F,F,F,F,F,F,F,F,F,F,F,F,F] rfl rfl (any_of HT_.out (by kernel_rfl)) (fun _ _ _ h => h) (Or.inl ⟨by rfl, ?_⟩) ?_ ?_
rotate_left
·(
intro w'
go_simp
with_reducible rfl
)
rotate_left
·(
simp only [Act.put, List.setIfInBounds_toArray, List.set_cons_zero, List.set_cons_succ, i64_w, i32_w]
rfl
)
refine pure_ (i := 8) (N := some 61) (v := ?_) (a' := ?_) #[T,F,T,F,T,F,F,F,T,F,F,F,F,F,F,F,F,F,F,F] rfl rfl (any_of HT_.out (by kernel_rfl)) (fun _ _ _ h => h) (Or.inl ⟨by rfl, ?_⟩) ?_ ?_
rotate_left
·(
intro w'
go_simp
with_reducible rfl
)
rotate_left
·(
simp only [Act.put, List.setIfInBounds_toArray, List.set_cons_zero, List.set_cons_succ, i64_w, i32_w]
rfl
)
refine pure_ (i := 9) (N := some 62) (v := ?_) (a' := ?_) #[T,F,T,F,T,F,F,F,T,T,F,F,F,F,F,F,F,F,F,F] rfl rfl (any_of HT_.out (by kernel_rfl)) (fun _ _ _ h => h) (Or.inl ⟨by rfl, ?_⟩) ?_ ?_
rotate_left
·(
intro w'
go_simp
with_reducible rfl
)
rotate_left
·(
simp only [Act.put, List.setIfInBounds_toArray, List.set_cons_zero, List.set_cons_succ, i64_w, i32_w]
rfl
)
refine pure_ (i := 10) (N := some 63) (v := ?_) (a' := ?_) #[T,F,T,F,T,F,F,F,T,T,T,F,F,F,F,F,F,F,F,F] rfl rfl (any_of HT_.out (by kernel_rfl)) (fun _ _ _ h => h) (Or.inl ⟨by rfl, ?_⟩) ?_ ?_
rotate_left
·(
intro w'
go_simp
with_reducible rfl
)
rotate_left
·(
simp only [Act.put, List.setIfInBounds_toArray, List.set_cons_zero, List.set_cons_succ, i64_w, i32_w]
rfl
)
refine pure_ (i := 12) (N := some 65) (v := ?_) (a' := ?_) #[T,F,T,F,T,F,F,F,T,T,T,F,T,F,F,F,F,F,F,F] rfl rfl (any_of HT_.out (by kernel_rfl)) (fun _ _ _ h => h) (Or.inl ⟨by rfl, ?_⟩) ?_ ?_
rotate_left
·(
intro w'
go_simp
with_reducible rfl
)
rotate_left
·(
simp only [Act.put, List.setIfInBounds_toArray, List.set_cons_zero, List.set_cons_succ, i64_w, i32_w]
rfl
)
refine take_ (i := 1) (N := some 54) (v := ?_) (a' := ?_) #[T,T,T,F,T,F,F,F,T,T,T,F,T,F,F,F,F,F,F,F] rfl rfl (take_ofW HT_.out HW_.out (by kernel_rfl)) (fun _ _ _ h => h) (Or.inl ⟨by rfl, ?_⟩) hHeld ?_ ?_
rotate_left
·(
rintro w' ⟨s0, s1, s2, s3, s4, s5, s6, s7, s8, s9, s10, s11, s12, s13, s14, s15, s16⟩
go_simp
with_reducible rfl
)
rotate_left
·(
simp only [Act.put, List.setIfInBounds_toArray, List.set_cons_zero, List.set_cons_succ, i64_w, i32_w]
rfl
)
refine take_ (i := 3) (N := some 56) (v := ?_) (a' := ?_) #[T,T,T,T,T,F,F,F,T,T,T,F,T,F,F,F,F,F,F,F] rfl rfl (take_ofW HT_.out HW_.out (by kernel_rfl)) (fun _ _ _ h => h) (Or.inl ⟨by rfl, ?_⟩) hHeld ?_ ?_
rotate_left
·(
rintro w' ⟨s0, s1, s2, s3, s4, s5, s6, s7, s8, s9, s10, s11, s12, s13, s14, s15, s16⟩
go_simp
with_reducible rfl
)
rotate_left
·(
simp only [Act.put, List.setIfInBounds_toArray, List.set_cons_zero, List.set_cons_succ, i64_w, i32_w]
rfl
)
refine pure_ (i := 5) (N := some 58) (v := ?_) (a' := ?_) #[T,T,T,T,T,T,F,F,T,T,T,F,T,F,F,F,F,F,F,F] rfl rfl (any_of HT_.out (by kernel_rfl)) (fun _ _ _ h => h) (Or.inl ⟨by rfl, ?_⟩) ?_ ?_
rotate_left
·(
intro w'
go_simp
with_reducible rfl
)
rotate_left
·(
simp only [Act.put, List.setIfInBounds_toArray, List.set_cons_zero, List.set_cons_succ, i64_w, i32_w]
rfl
)
refine pure_ (i := 6) (N := some 59) (v := ?_) (a' := ?_) #[T,T,T,T,T,T,T,F,T,T,T,F,T,F,F,F,F,F,F,F] rfl rfl (any_of HT_.out (by kernel_rfl)) (fun _ _ _ h => h) (Or.inl ⟨by rfl, ?_⟩) ?_ ?_
rotate_left
·(
intro w'
go_simp
with_reducible rfl
)
rotate_left
·(
simp only [Act.put, List.setIfInBounds_toArray, List.set_cons_zero, List.set_cons_succ, i64_w, i32_w]
rfl
)
refine take_ (i := 7) (N := some 60) (v := ?_) (a' := ?_) #[T,T,T,T,T,T,T,T,T,T,T,F,T,F,F,F,F,F,F,F] rfl rfl (take_ofW HT_.out HW_.out (by kernel_rfl)) (fun _ _ _ h => h) (Or.inl ⟨by rfl, ?_⟩) hHeld ?_ ?_
rotate_left
·(
rintro w' ⟨s0, s1, s2, s3, s4, s5, s6, s7, s8, s9, s10, s11, s12, s13, s14, s15, s16⟩
go_simp
with_reducible rfl
)
rotate_left
·(
simp only [Act.put, List.setIfInBounds_toArray, List.set_cons_zero, List.set_cons_succ, i64_w, i32_w]
rfl
)
refine take_ (i := 11) (N := some 64) (v := ?_) (a' := ?_) #[T,T,T,T,T,T,T,T,T,T,T,T,T,F,F,F,F,F,F,F] rfl rfl (take_ofW HT_.out HW_.out (by kernel_rfl)) (fun _ _ _ h => h) (Or.inl ⟨by rfl, ?_⟩) hHeld ?_ ?_
rotate_left
·(
rintro w' ⟨s0, s1, s2, s3, s4, s5, s6, s7, s8, s9, s10, s11, s12, s13, s14, s15, s16⟩
go_simp
with_reducible rfl
)
rotate_left
·(
simp only [Act.put, List.setIfInBounds_toArray, List.set_cons_zero, List.set_cons_succ, i64_w, i32_w]
rfl
)
refine pure_ (i := 13) (N := some 66) (v := ?_) (a' := ?_) #[T,T,T,T,T,T,T,T,T,T,T,T,T,T,F,F,F,F,F,F] rfl rfl (any_of HT_.out (by kernel_rfl)) (fun _ _ _ h => h) (Or.inl ⟨by rfl, ?_⟩) ?_ ?_
rotate_left
·(
intro w'
go_simp
with_reducible rfl
)
rotate_left
·(
simp only [Act.put, List.setIfInBounds_toArray, List.set_cons_zero, List.set_cons_succ, i64_w, i32_w]
rfl
)
refine take_ (i := 14) (N := some 67) (v := ?_) (a' := ?_) #[T,T,T,T,T,T,T,T,T,T,T,T,T,T,T,F,F,F,F,F] rfl rfl (take_ofW HT_.out HW_.out (by kernel_rfl)) (fun _ _ _ h => h) (Or.inl ⟨by rfl, ?_⟩) hHeld ?_ ?_
rotate_left
·(
rintro w' ⟨s0, s1, s2, s3, s4, s5, s6, s7, s8, s9, s10, s11, s12, s13, s14, s15, s16⟩
go_simp
with_reducible rfl
)
rotate_left
·(
simp only [Act.put, List.setIfInBounds_toArray, List.set_cons_zero, List.set_cons_succ, i64_w, i32_w]
rfl
)
refine pure_ (i := 15) (N := some 68) (v := ?_) (a' := ?_) #[T,T,T,T,T,T,T,T,T,T,T,T,T,T,T,T,F,F,F,F] rfl rfl (any_of HT_.out (by kernel_rfl)) (fun _ _ _ h => h) (Or.inl ⟨by rfl, ?_⟩) ?_ ?_
rotate_left
·(
intro w'
go_simp
with_reducible rfl
)
rotate_left
·(
simp only [Act.put, List.setIfInBounds_toArray, List.set_cons_zero, List.set_cons_succ, i64_w, i32_w]
rfl
)
refine one_ (i := 16) (N := some 69) #[T,T,T,T,T,T,T,T,T,T,T,T,T,T,T,T,T,F,F,F] rfl rfl (one_of HT_.out (by kernel_rfl)) (by decide) (fun K hK => ?_)
refine value_ (w1 := ?_) (v := ?_) (by rfl) rfl ?_ ?_
rotate_left 2
·(
go_simp
constructor
·rfl
·rfl
)
refine hK.out _ _ ⟨(blk_cell (blk_alloc BK205.out _) 0).trans rfl, (blk_cell (blk_alloc BK205.out _) 1).trans rfl, (blk_cell (blk_alloc BK205.out _) 2).trans rfl, (blk_cell (blk_alloc BK205.out _) 3).trans rfl, (blk_cell (blk_alloc BK199.out _) 0).trans rfl, (blk_cell (blk_alloc BK199.out _) 1).trans rfl, (blk_cell (blk_alloc BK199.out _) 2).trans rfl, (blk_cell (blk_alloc BK199.out _) 3).trans rfl, (blk_cell (blk_alloc BK199.out _) 4).trans rfl, (blk_cell (blk_alloc BK199.out _) 5).trans rfl, (blk_cell (blk_alloc BK199.out _) 6).trans rfl, (blk_cell (blk_alloc BK199.out _) 7).trans rfl, (World.cell?_alloc_lt _ _ _ (World.block_lt_of_cell? _ _ (((HB.out.cell (World.block_lt_of_cell? w _ hw209_0)).trans hw209_0)))).trans (((HB.out.cell (World.block_lt_of_cell? w _ hw209_0)).trans hw209_0)), (World.cell?_alloc_lt _ _ _ (World.block_lt_of_cell? _ _ (((HB.out.cell (World.block_lt_of_cell? w _ hw209_1)).trans hw209_1)))).trans (((HB.out.cell (World.block_lt_of_cell? w _ hw209_1)).trans hw209_1)), (World.cell?_alloc_lt _ _ _ (World.block_lt_of_cell? _ _ (((HB.out.cell (World.block_lt_of_cell? w _ hw209_2)).trans hw209_2)))).trans (((HB.out.cell (World.block_lt_of_cell? w _ hw209_2)).trans hw209_2)), (World.cell?_alloc_lt _ _ _ (World.block_lt_of_cell? _ _ (((HB.out.cell (World.block_lt_of_cell? w _ hw210_0)).trans hw210_0)))).trans (((HB.out.cell (World.block_lt_of_cell? w _ hw210_0)).trans hw210_0)), (World.cell?_alloc_lt _ _ _ (World.block_lt_of_cell? _ _ (((HB.out.cell (World.block_lt_of_cell? w _ hw211_0)).trans hw211_0)))).trans (((HB.out.cell (World.block_lt_of_cell? w _ hw211_0)).trans hw211_0))⟩ (fun hHeld => ?_)
clear hK K
refine norm_ (a' := ?_) ?_ ?_
rotate_left
·(
show Act.put _ (some 69) _ = _
simp only [Act.put, List.setIfInBounds_toArray, List.set_cons_zero, List.set_cons_succ, i64_w, i32_w]
rfl
)
refine one_ (i := 17) (N := some 70) #[T,T,T,T,T,T,T,T,T,T,T,T,T,T,T,T,T,T,F,F] rfl rfl (one_of HT_.out (by kernel_rfl)) (by decide) (fun K hK => ?_)
refine Kd.R_append_step k67 (w0 := w) w.heap.size (by rfl) (.tmp 54) (.tmp 69) 40 67 (.agg #[(.string ⟨#[]⟩), (.int .i64 0)]) 24 rfl Try.underlying40 info67 rfl (by decide) (by omega) u206003 x206003_2 (⟨(rd_T65 l0_7 x12_2).f0, rd (rd_L5 l2 x10_1) x12_2⟩ : S67) [.string ((rd_T65 l0_7 x12_2).f0), .int .i64 (rd (rd_L5 l2 x10_1) x12_2)] (fun _ => True) (fun _ => False) rfl rfl ?aP (fun _ hk => hk.elim) ?aF ?aO ?aB ?aS ?aL ?_
(case aP => exact k67_mkM _ _ _ (⟨(rd_T65 l0_7 x12_2).f0, rd (rd_L5 l2 x10_1) x12_2⟩ : S67))
(case aB => exact (by repeat (first | (with_reducible first | exact HB.out | apply below_alloc | apply pw_below_drewN | apply below_drew1 | refine below_set ?_ GE199.out | refine below_set ?_ GE205.out) | exact HB.out)))
(case aF => exact (fun _ _ => trivial))
(case aO => exact (by (with_reducible repeat (first | apply Kd.R_alloc | apply Kd.R_drewN | apply Kd.R_drew)); exact HO_206003.out))
(case aS => exact (below_size (by repeat (first | (with_reducible first | exact HB.out | apply below_alloc | apply pw_below_drewN | apply below_drew1 | refine below_set ?_ GE199.out | refine below_set ?_ GE205.out) | exact HB.out))))
(case aL => have := LMc26.out; omega)
intro v213 w28 ho hb hg hat
rw [← Ny212.out] at ho
have n0_ := Aside0.mk (Kd.S_after (ok := (fun k_ => k_ ≠ gb205)) (by (with_reducible repeat (first | apply Kd.S_alloc | apply Kd.S_drewN | apply Kd.S_drew)); exact Kd.S_mono HO_9.out (fun _ hk => ⟨hk.2, hk.1⟩)) hg hat)
have n1_ := Aside0.mk (blk_grown (g := gb199) (o := .cells #[.string a0_0, .string a0_1, .string a0_2, .string a0_3, .string a0_4, .string a0_5, .int .i64 a0_6, .slice (some ad209) l0_7.length c0_7] 24 (0, 0)) (by (with_reducible repeat (first | refine blk_drewN ?_ _ | refine blk_drew ?_ | refine blk_alloc ?_ _)); exact BK199.out) hg (Kd.R_ne HO_206003.out BK199.out (by decide)))
have n2_ := Aside0.mk (blk_grown (g := gb205) (o := .cells #[.string a0_0, .int .i64 (wrap64 (x10_1 + 1)), .int .i64 (rd l1 x10_1), u206003] 42 (0, 0)) (by (with_reducible repeat (first | refine blk_drewN ?_ _ | refine blk_drew ?_ | refine blk_alloc ?_ _)); exact BK205.out) hg (Kd.R_ne HO_206003.out BK205.out (by decide)))
have n3_ := Aside0.mk (hb)
have n4_ := Aside0.mk (ho)
clear HO_9
clear BK199
clear BK205
clear HB
clear HO_206003
have HO_9 := n0_
have BK199 := n1_
have BK205 := n2_
have HB := n3_
have HO214 := n4_
clear n0_ n1_ n2_ n3_ n4_
clear ho hb hg hat
obtain ⟨Ao29, co29, eo29⟩ := Kd.R_slice HO214.out
(first | subst eo29 | (injection eo29 with f1_ f2_ f3_; have f4_ := f1_.symm; have f5_ := f3_.symm; clear f1_ f2_ f3_; subst f4_; subst f5_))
refine hK.out _ _ ⟨(blk_cell BK205.out 0).trans rfl, (blk_cell BK205.out 1).trans rfl, (blk_cell BK205.out 2).trans rfl, (blk_cell BK205.out 3).trans rfl, (blk_cell BK199.out 0).trans rfl, (blk_cell BK199.out 1).trans rfl, (blk_cell BK199.out 2).trans rfl, (blk_cell BK199.out 3).trans rfl, (blk_cell BK199.out 4).trans rfl, (blk_cell BK199.out 5).trans rfl, (blk_cell BK199.out 6).trans rfl, (blk_cell BK199.out 7).trans rfl, ((HB.out.cell (World.block_lt_of_cell? w _ hw209_0)).trans hw209_0), ((HB.out.cell (World.block_lt_of_cell? w _ hw209_1)).trans hw209_1), ((HB.out.cell (World.block_lt_of_cell? w _ hw209_2)).trans hw209_2), ((HB.out.cell (World.block_lt_of_cell? w _ hw210_0)).trans hw210_0), ((HB.out.cell (World.block_lt_of_cell? w _ hw211_0)).trans hw211_0)⟩ (fun hHeld => ?_)
clear hK K
refine norm_ (a' := ?_) ?_ ?_
rotate_left
·(
show Act.put _ (some 70) _ = _
simp only [Act.put, List.setIfInBounds_toArray, List.set_cons_zero, List.set_cons_succ, i64_w, i32_w]
rfl
)
refine pure_ (i := 18) (N := some 71) (v := ?_) (a' := ?_) #[T,T,T,T,T,T,T,T,T,T,T,T,T,T,T,T,T,T,T,F] rfl rfl (any_of HT_.out (by kernel_rfl)) (fun _ _ _ h => h) (Or.inl ⟨by rfl, ?_⟩) ?_ ?_
rotate_left
·(
intro w'
go_simp
with_reducible rfl
)
rotate_left
·(
simp only [Act.put, List.setIfInBounds_toArray, List.set_cons_zero, List.set_cons_succ, i64_w, i32_w]
rfl
)
refine last_ (i := 19) (N := none) #[T,T,T,T,T,T,T,T,T,T,T,T,T,T,T,T,T,T,T,T] rfl rfl (one_of HT_.out (by kernel_rfl)) (by decide) (fun K hK => ?_)
have hs30 : w28.cell? ⟨gb205, 3, none⟩ = some (u206003) := (blk_cell BK205.out 3).trans rfl
have hfs30 := blk_frozen BK205.out 3
have hns30_0 := NB199_205.out
have hms30_0 := NB205_199.out
refine skip_ (w1 := ?_) (by rfl) rfl ?_ ?_
rotate_left
·(
go_simp
rfl
)
refine hK.out _ _ ?_
clear hK K
refine done_ (done_of HT_.out (by kernel_rfl)) ?_
try go_wp2
go_roundg k2
case measure => have := HK1.out; have := HK2.out; omega
case rel => exact ⟨(wrap64 (x12_2 + 1)), (y212), (.slice Ao29 y212.length co29), (by first | rfl | (simp; done) | (simp [*]; done)), H', ⟨by have := HK1.out; have := HK2.out; omega⟩, ⟨by (with_reducible repeat (first | apply Kd.S_alloc | apply Kd.S_drewN | apply Kd.S_drew)); exact Kd.S_mono (Kd.S_far (p := ⟨gb205, 3, none⟩) (Kd.S_mono HO_9.out (fun k_ hk => (⟨hk, hk.1⟩ : _ ∧ k_ ≠ gb205))) (fun _ hk => hk.2) (.slice Ao29 y212.length co29)) (fun _ hk => ⟨hk.1.2, hk.1.1⟩)⟩, ⟨by (with_reducible repeat (first | apply Kd.R_alloc | apply Kd.R_drewN | apply Kd.R_drew)); exact Kd.R_mono (Kd.R_far (p := ⟨gb205, 3, none⟩) (Kd.R_types HO214.out BK205.out (by decide)) (fun _ hk => hk.2) (.slice Ao29 y212.length co29)) (fun _ hk => trivial)⟩, ⟨by (with_reducible repeat (first | refine blk_drewN ?_ _ | refine blk_drew ?_ | refine blk_alloc ?_ _)); refine blk_far ?_ NB199_205.out _; (with_reducible repeat (first | refine blk_drewN ?_ _ | refine blk_drew ?_ | refine blk_alloc ?_ _)); exact BK199.out⟩, ⟨by (with_reducible repeat (first | refine blk_drewN ?_ _ | refine blk_drew ?_ | refine blk_alloc ?_ _)); refine blk_put (cs := #[.string a0_0, .int .i64 (wrap64 (x10_1 + 1)), .int .i64 (rd l1 x10_1), u206003]) ?_ 3 _ rfl; (with_reducible repeat (first | refine blk_drewN ?_ _ | refine blk_drew ?_ | refine blk_alloc ?_ _)); exact BK205.out⟩, ⟨by repeat (first | (with_reducible first | exact HB.out | apply below_alloc | apply pw_below_drewN | apply below_drew1 | refine below_set ?_ GE199.out | refine below_set ?_ GE205.out) | exact HB.out)⟩⟩
)
·(
rw [if_neg c26] at H
exact absurd H (by simp)
)
)
·(
rw [if_neg c25] at H
exact absurd H (by simp)
)
)
·(
rw [if_neg c24] at H
have c24b0 : decide (0 < (rd (rd_L5 l2 x10_1) x12_2)) = false := decide_eq_false c24
clear c24
have H' := Aside0.mk H
clear H
have p206 : 0 ≤ (x10_1 : Int) := of_decide_eq_true (by first | (with_reducible assumption) | assumption)
have q206 : x10_1 < (l2.length : Int) := of_decide_eq_true (by first | (with_reducible assumption) | assumption)
obtain ⟨ad206, A206_0, c206_0, e206, hx206_0, hl206_0, hi206_0⟩ := at_L5 HR2.out x10_1 p206 q206
cases e206
replace hx206_0 := (HB.out.cell (World.block_lt_of_cell? w _ hx206_0)).trans hx206_0
have HR206_0 := Aside0.mk hi206_0
have HC206_0 := Aside0.mk hl206_0
clear hi206_0 hl206_0
replace p206 := eq_true p206
replace q206 := eq_true q206
have p207 : 0 ≤ (x10_1 : Int) := of_decide_eq_true (by first | (with_reducible assumption) | assumption)
have q207 : x10_1 < (l2.length : Int) := of_decide_eq_true (by first | (with_reducible assumption) | assumption)
obtain ⟨ad207, A207_0, c207_0, e207, hx207_0, hl207_0, hi207_0⟩ := at_L5 HR2.out x10_1 p207 q207
obtain rfl : ad206 = ad207 := (by injection e207)
replace hx207_0 := (HB.out.cell (World.block_lt_of_cell? w _ hx207_0)).trans hx207_0
have HR207_0 := Aside0.mk hi207_0
have HC207_0 := Aside0.mk hl207_0
clear hi207_0 hl207_0
replace p207 := eq_true p207
replace q207 := eq_true q207
have ea_ := Option.some.inj (hx206_0.symm.trans hx207_0)
injection ea_ with ea_ en_ ec_
subst ea_
subst ec_
clear en_
have p208 : 0 ≤ (x12_2 : Int) := of_decide_eq_true (by first | (with_reducible assumption) | assumption)
have q208 : x12_2 < ((rd_L5 l2 x10_1).length : Int) := of_decide_eq_true (by first | (with_reducible assumption) | assumption)
obtain ⟨ad208, e208, hx208_0⟩ := Kd.at_int HR207_0.out x12_2 p208 q208
cases e208
replace hx208_0 := (HB.out.cell (World.block_lt_of_cell? w _ hx208_0)).trans hx208_0
replace p208 := eq_true p208
replace q208 := eq_true q208
go_wp2
go_roundg k2
case measure => have := HK1.out; have := HK2.out; omega
case rel => exact ⟨(wrap64 (x12_2 + 1)), (x206003_2), (u206003), (by first | rfl | (simp; done) | (simp [*]; done)), H', ⟨by have := HK1.out; have := HK2.out; omega⟩, ⟨by (with_reducible repeat (first | apply Kd.S_alloc | apply Kd.S_drewN | apply Kd.S_drew)); exact HO_9.out⟩, ⟨by (with_reducible repeat (first | apply Kd.R_alloc | apply Kd.R_drewN | apply Kd.R_drew)); exact HO_206003.out⟩, ⟨by (with_reducible repeat (first | refine blk_drewN ?_ _ | refine blk_drew ?_ | refine blk_alloc ?_ _)); exact BK199.out⟩, ⟨by (with_reducible repeat (first | refine blk_drewN ?_ _ | refine blk_drew ?_ | refine blk_alloc ?_ _)); exact BK205.out⟩, ⟨by repeat (first | (with_reducible first | exact HB.out | apply below_alloc | apply pw_below_drewN | apply below_drew1 | refine below_set ?_ GE199.out | refine below_set ?_ GE205.out) | exact HB.out)⟩⟩
)
)
·(
rw [if_neg c23] at H
exact absurd H (by simp)
)
)
·(
rw [if_neg c22] at H
have c22b0 : decide (x12_2 < ((rd_L5 l2 x10_1).length : Int)) = false := decide_eq_false c22
clear c22
by_cases c31 : x9_1.length < 2513169434916
·(
rw [if_pos c31] at H
have LMc31 := Aside0.mk c31
clear c31
obtain ⟨y215, hy215⟩ : ∃ y_ : List (S42), y_ = (x9_1 ++ [(⟨a0_0, (wrap64 (x10_1 + 1)), (rd l1 x10_1), x206003_2⟩ : S42)]) := ⟨_, rfl⟩
replace H : (sr19_Cut.l0 k2 l1 l2 y215 (wrap64 (x10_1 + 1)) a0_0 a0_1 a0_2 a0_3 a0_4 a0_5 a0_6 l0_7) = some (r1, r2) := by first | (rw [hy215]; with_reducible exact H) | (have H2_ := (Option.bind_some _ _).symm.trans H; rw [hy215]; with_reducible exact H2_) | (have H2_ := (Option.bind_some _ _).symm.trans H; with_reducible exact H2_) | with_reducible exact H | (rw [hy215]; exact H) | exact H
have Ny215 := Aside0.mk hy215
clear hy215
have H' := Aside0.mk H
clear H
have p206 : 0 ≤ (x10_1 : Int) := of_decide_eq_true (by first | (with_reducible assumption) | assumption)
have q206 : x10_1 < (l2.length : Int) := of_decide_eq_true (by first | (with_reducible assumption) | assumption)
obtain ⟨ad206, A206_0, c206_0, e206, hx206_0, hl206_0, hi206_0⟩ := at_L5 HR2.out x10_1 p206 q206
cases e206
replace hx206_0 := (HB.out.cell (World.block_lt_of_cell? w _ hx206_0)).trans hx206_0
have HR206_0 := Aside0.mk hi206_0
have HC206_0 := Aside0.mk hl206_0
clear hi206_0 hl206_0
replace p206 := eq_true p206
replace q206 := eq_true q206
have hnb32 := NB205_199.out
have hnc32 := NB199_205.out
have hcz33_0 : wr.cell? ⟨gb205, 0, none⟩ = some (.string a0_0) := (blk_cell BK205.out 0).trans rfl
have hcz33_1 : wr.cell? ⟨gb205, 1, none⟩ = some (.int .i64 (wrap64 (x10_1 + 1))) := (blk_cell BK205.out 1).trans rfl
have hcz33_2 : wr.cell? ⟨gb205, 2, none⟩ = some (.int .i64 (rd l1 x10_1)) := (blk_cell BK205.out 2).trans rfl
have hcz33_3 : wr.cell? ⟨gb205, 3, none⟩ = some (u206003) := (blk_cell BK205.out 3).trans rfl
have hfz33_0 := blk_frozen BK205.out 0
have hfz33_1 := blk_frozen BK205.out 1
have hfz33_2 := blk_frozen BK205.out 2
have hfz33_3 := blk_frozen BK205.out 3
obtain ⟨Ao35, co35, eo35⟩ := Kd.R_slice HO_206003.out
subst eo35
go_wp2_with (first | ((with_reducible refine gate_builtin (b := .append) (xs := #[.tmp 72, .tmp 74]) rfl ?_); at_builtin; refine Kd.S_append k42 (w0 := w) w.heap.size rfl (.tmp 72) (.tmp 74) 34 42 (.agg #[(.string ⟨#[]⟩), (.int .i64 0), (.int .i64 0), (.slice none 0 0)]) 56 rfl Try.underlying34 info42 rfl (by decide) (by omega) u9 x9_1 (⟨a0_0, (wrap64 (x10_1 + 1)), (rd l1 x10_1), x206003_2⟩ : S42) [.string a0_0, .int .i64 (wrap64 (x10_1 + 1)), .int .i64 (rd l1 x10_1), .slice Ao35 x206003_2.length co35] (fun k_ => k_ ≠ gb205) (fun k_ => some k_ = (.slice Ao35 x206003_2.length co35 : Value).ownBlock) rfl rfl ?aP (fun k_ hk_ => ((Kd.R_mono (ok' := fun k_ => ((fun k_ => k_ ≠ gb205)) k_ ∧ some k_ ≠ (u9 : Value).ownBlock) (Kd.R_types (Kd.R_apart' (HO_206003.out) (Kd.S_typed HO_9.out) (by decide)) BK205.out (by decide)) (fun k_ hk => ⟨hk.2, hk.1.2⟩))).1 k_ hk_.symm) ?aF ?aO ?aB ?aS ?aL ?_; (case aP => exact k42_mkM _ _ _ (⟨a0_0, (wrap64 (x10_1 + 1)), (rd l1 x10_1), x206003_2⟩ : S42) (Kd.R_mono (Kd.R_tight rfl (Kd.R_mono (ok' := fun k_ => ((fun k_ => k_ ≠ gb205)) k_ ∧ some k_ ≠ (u9 : Value).ownBlock) (Kd.R_types (Kd.R_apart' (HO_206003.out) (Kd.S_typed HO_9.out) (by decide)) BK205.out (by decide)) (fun k_ hk => ⟨hk.2, hk.1.2⟩))) (fun _ h_ => h_))); (case aB => exact (by repeat (first | (with_reducible first | exact HB.out | apply below_alloc | apply pw_below_drewN | apply below_drew1 | refine below_set ?_ GE199.out | refine below_set ?_ GE205.out) | exact HB.out))); (case aF => exact (fun k_ hk => Kd.freshB (g := gb205) (o := .cells #[.string a0_0, .int .i64 (wrap64 (x10_1 + 1)), .int .i64 (rd l1 x10_1), .slice Ao35 x206003_2.length co35] 42 (0, 0)) (by (with_reducible repeat (first | refine blk_drewN ?_ _ | refine blk_drew ?_ | refine blk_alloc ?_ _)); exact BK205.out) k_ hk)); (case aO => exact (by (with_reducible repeat (first | apply Kd.S_alloc | apply Kd.S_drewN | apply Kd.S_drew)); exact Kd.S_mono HO_9.out (fun k_ hk => ⟨hk.2, fun e_ => hk.1 e_⟩))); (case aS => exact (below_size (by repeat (first | (with_reducible first | exact HB.out | apply below_alloc | apply pw_below_drewN | apply below_drew1 | refine below_set ?_ GE199.out | refine below_set ?_ GE205.out) | exact HB.out)))); (case aL => have := LMc31.out; omega); intro v216 w34 ho hb hg hat; rw [← Ny215.out] at ho; have n0_ := Aside0.mk (blk_grown (g := gb199) (o := .cells #[.string a0_0, .string a0_1, .string a0_2, .string a0_3, .string a0_4, .string a0_5, .int .i64 a0_6, .slice A0_7 l0_7.length c0_7] 24 (0, 0)) (by (with_reducible repeat (first | refine blk_drewN ?_ _ | refine blk_drew ?_ | refine blk_alloc ?_ _)); exact BK199.out) hg (Kd.S_ne HO_9.out BK199.out (by decide))); have n1_ := Aside0.mk (blk_grown (g := gb205) (o := .cells #[.string a0_0, .int .i64 (wrap64 (x10_1 + 1)), .int .i64 (rd l1 x10_1), .slice Ao35 x206003_2.length co35] 42 (0, 0)) (by (with_reducible repeat (first | refine blk_drewN ?_ _ | refine blk_drew ?_ | refine blk_alloc ?_ _)); exact BK205.out) hg (Kd.S_away HO_9.out (fun _ hk => hk.2))); have n2_ := Aside0.mk (hb); have n3_ := Aside0.mk (ho); clear BK199; clear BK205; clear HB; clear HO_9; clear HO_206003; have BK199 := n0_; have BK205 := n1_; have HB := n2_; have HO217 := n3_; clear n0_ n1_ n2_ n3_; clear ho hb hg hat))
go_roundg k2
case measure => have := HK1.out; have := HK2.out; omega
case rel => exact ⟨(y215), (wrap64 (x10_1 + 1)), (by first | rfl | (simp; done) | (simp [*]; done)), H', ⟨by have := HK1.out; have := HK2.out; omega⟩, ⟨by (with_reducible repeat (first | apply Kd.S_alloc | apply Kd.S_drewN | apply Kd.S_drew)); exact Kd.S_mono HO217.out (fun _ hk => trivial)⟩, ⟨by (with_reducible repeat (first | refine blk_drewN ?_ _ | refine blk_drew ?_ | refine blk_alloc ?_ _)); exact BK199.out⟩, ⟨by repeat (first | (with_reducible first | exact HB.out | apply below_alloc | apply pw_below_drewN | apply below_drew1 | refine below_set ?_ GE199.out | refine below_set ?_ GE205.out) | exact HB.out)⟩⟩
)
·(
rw [if_neg c31] at H
exact absurd H (by simp)
)
)
)
·(
rw [if_neg c21] at H
exact absurd H (by simp)
)
)
·(
rw [if_neg c20] at H
exact absurd H (by simp)
)
)
)
)
·(
rw [if_neg c13] at H
exact absurd H (by simp)
)
)
·(
rw [if_neg c12] at H
exact absurd H (by simp)
)
)
·(
rw [if_neg c11] at H
have c11b0 : decide (x10_1 < (l2.length : Int)) = false := decide_eq_false c11
clear c11
simp only [Option.some.injEq, Prod.mk.injEq] at H
obtain ⟨rfl, rfl⟩ := H
go_wp2
go_ret2
exact ⟨_, by first | rfl | (simp [errW_none, errW_some] <;> rfl) | (simp [*, errW_none, errW_some] <;> rfl), by (with_reducible repeat (first | apply Kd.S_alloc | apply Kd.S_drewN | apply Kd.S_drew)); exact HO_9.out, by repeat (first | (with_reducible first | exact HB.out | apply below_alloc | apply pw_below_drewN | apply below_drew1 | refine below_set ?_ GE199.out) | exact HB.out)⟩
)
)
)
)
 ·(
rw [if_neg c5] at H
have c5b0 : (t200 == 0) = false := beq_eq_false_iff_ne.mpr c5
have c5b1 : (t200 != 0) = true := bne_iff_ne.mpr c5
simp only [Option.some.injEq, Prod.mk.injEq] at H
obtain ⟨rfl, rfl⟩ := H
go_enter Try.func20, Try.ntmps20
go_wp2_with (first | ((with_reducible refine gate_dst (N := 3) rfl ?_); refine box_event ?hg (N := 3) ?hd (cs := #[.string a0_0, .string a0_1, .string a0_2, .string a0_3, .string a0_4, .string a0_5, .int .i64 a0_6, .slice A0_7 l0_7.length c0_7]) (t := 24) ?hr ?_; (case hd => rfl); (case hg => rfl); (case hr => first | (go_simp; done) | (go_simp; rfl)); intro gb199 hg w36 hbox hb; have n0_ := Aside0.mk (below_step (by repeat (first | (with_reducible first | exact HB.out | apply below_alloc | apply pw_below_drewN | apply below_drew1) | exact HB.out)) hb); have n1_ := Aside0.mk (hbox); have n2_ := Aside0.mk ((by rw [hg]; exact (below_size (by repeat (first | (with_reducible first | exact HB.out | apply below_alloc | apply pw_below_drewN | apply below_drew1) | exact HB.out))) : w.heap.size ≤ gb199)); have n3_ := Aside0.mk ((by rw [hg]; exact (below_size (by repeat (first | (with_reducible first | exact HB.out | apply below_alloc | apply pw_below_drewN | apply below_drew1) | exact HB.out))) : w.heap.size ≤ gb199)); clear HB; have HB := n0_; have BK199 := n1_; have GW199 := n2_; have GE199 := n3_; clear n0_ n1_ n2_ n3_; clear hb hbox hg; have hcz37_0 : w36.cell? ⟨gb199, 0, none⟩ = some (.string a0_0) := (blk_cell BK199.out 0).trans rfl; have hcz37_1 : w36.cell? ⟨gb199, 1, none⟩ = some (.string a0_1) := (blk_cell BK199.out 1).trans rfl; have hcz37_2 : w36.cell? ⟨gb199, 2, none⟩ = some (.string a0_2) := (blk_cell BK199.out 2).trans rfl; have hcz37_3 : w36.cell? ⟨gb199, 3, none⟩ = some (.string a0_3) := (blk_cell BK199.out 3).trans rfl; have hcz37_4 : w36.cell? ⟨gb199, 4, none⟩ = some (.string a0_4) := (blk_cell BK199.out 4).trans rfl; have hcz37_5 : w36.cell? ⟨gb199, 5, none⟩ = some (.string a0_5) := (blk_cell BK199.out 5).trans rfl; have hcz37_6 : w36.cell? ⟨gb199, 6, none⟩ = some (.int .i64 a0_6) := (blk_cell BK199.out 6).trans rfl; have hcz37_7 : w36.cell? ⟨gb199, 7, none⟩ = some (.slice A0_7 l0_7.length c0_7) := (blk_cell BK199.out 7).trans rfl; have hfz37_0 := blk_frozen BK199.out 0; have hfz37_1 := blk_frozen BK199.out 1; have hfz37_2 := blk_frozen BK199.out 2; have hfz37_3 := blk_frozen BK199.out 3; have hfz37_4 := blk_frozen BK199.out 4; have hfz37_5 := blk_frozen BK199.out 5; have hfz37_6 := blk_frozen BK199.out 6; have hfz37_7 := blk_frozen BK199.out 7) | ((with_reducible refine gate_callee (f := 59) rfl ?_); refine goesL_ (some 16) rfl rfl Try.func59 (by kernel_rfl) rfl #[.agg #[.string a0_0, .string a0_1, .string a0_2, .string a0_3, .string a0_4, .string a0_5, .int .i64 a0_6, .slice A0_7 l0_7.length c0_7], .slice A1 l1.length c1, .slice A2 l2.length c2] rfl (by (try simp only [List.map_toArray, List.map_cons, List.map_nil]); first | done | rfl | (simp only [List.length_drop, List.length_take]; rfl)) ?_; (with_reducible refine (sr19_Wrong.calls k a0_0 a0_1 a0_2 a0_3 a0_4 a0_5 a0_6 _ _ l0_7 _ _ l1 _ _ l2 t200 _ ?side1 ?side2 ?side3 ?side4 ?side5 ?side6 A4.out).mono ?_); (case side1 => repeat (first | exact (Kd.C_below HR0_7.out HB.out) | (with_reducible refine Kd.C_alloc ?_ _) | (with_reducible refine Kd.C_drewN ?_ _) | (with_reducible refine Kd.C_drew ?_))); (case side2 => exact HC0_7.out); (case side3 => repeat (first | exact (Kd.C_below HR1.out HB.out) | (with_reducible refine Kd.C_alloc ?_ _) | (with_reducible refine Kd.C_drewN ?_ _) | (with_reducible refine Kd.C_drew ?_))); (case side4 => exact HC1.out); (case side5 => repeat (first | exact (Kd.C_below HR2.out HB.out) | (with_reducible refine Kd.C_alloc ?_ _) | (with_reducible refine Kd.C_drewN ?_ _) | (with_reducible refine Kd.C_drew ?_))); (case side6 => exact HC2.out); rintro e w38 ⟨rfl, hb⟩; refine ⟨_, rfl, ?_⟩; have n0_ := Aside0.mk (blk_below (g := gb199) (o := .cells #[.string a0_0, .string a0_1, .string a0_2, .string a0_3, .string a0_4, .string a0_5, .int .i64 a0_6, .slice A0_7 l0_7.length c0_7] 24 (0, 0)) (by (with_reducible repeat (first | refine blk_drewN ?_ _ | refine blk_drew ?_ | refine blk_alloc ?_ _)); exact BK199.out) hb); have n1_ := Aside0.mk (below_step (by repeat (first | (with_reducible first | exact HB.out | apply below_alloc | apply pw_below_drewN | apply below_drew1 | refine below_set ?_ GE199.out) | exact HB.out)) hb); clear BK199; clear HB; have BK199 := n0_; have HB := n1_; clear n0_ n1_; (try clear hb); (try clear hb2); (try clear hk); (try clear hi)))
go_ret2
exact ⟨_, by first | rfl | (simp [errW_none, errW_some] <;> rfl) | (simp [*, errW_none, errW_some] <;> rfl), by first | exact Kd.S_nil _ _ _ _ _ | exact Kd.N_nil _ _ _ _ _ | exact Kd.V_nil _ _ _ _ _ | exact Kd.Q_nil _ _ _ _ _ | exact Kd.R_nil _ _ _ _ _, by repeat (first | (with_reducible first | exact HB.out | apply below_alloc | apply pw_below_drewN | apply below_drew1 | refine below_set ?_ GE199.out) | exact HB.out)⟩
)

end Go.Proofs.Ytlhaaccdiienbaa.X
