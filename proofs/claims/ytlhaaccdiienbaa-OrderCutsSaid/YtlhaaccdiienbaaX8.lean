-- Written for this claim by a program of this session (wip/tools/xprint.py) out of the translation.
import Derived.Test.YtlhaaccdiienbaaX0
import Derived.Test.YtlhaaccdiienbaaX7
namespace Go.Proofs.Ytlhaaccdiienbaa.X
open Go.RowKit Go.Proofs.YtlhaaccdiienbaaW.PrintWords Go.Proofs.YtlhaaccdiienbaaW.PrintLast Go.Proofs.YtlhaaccdiienbaaW.PrintMore
attribute [local go_sem] max2_int min2_int max_two min_two max_three min_three max_four min_four   -- for this text's walks alone
set_option linter.unusedVariables false
set_option linter.unusedSimpArgs false

mutual
def sr19_May.l0 : Nat → List ByteArray → Int → ByteArray → ByteArray → ByteArray → ByteArray → ByteArray → ByteArray → Int → List (S65) → Option (Bool)
 | 0, _, _, _, _, _, _, _, _, _, _ => none
 | k + 1, x3, x4, x143000, x143001, x143002, x143003, x143004, x143005, x143006, x143007 => if x4 < (x3.length : Int) then (if 0 ≤ x4 then ((sr03_Name.f k (rdOf ByteArray.empty x3 x4)).bind fun t147 => (if t147 = true then (sr19_May.l0 k x3 (wrap64 (x4 + 1)) x143000 x143001 x143002 x143003 x143004 x143005 x143006 x143007) else (some false))) else (none)) else (if x143001.toList = x143002.toList then (sr19_May.j1 k true x143000 x143001 x143002 x143003 x143004 x143005 x143006 x143007) else ((sr01_Currency.f k x143003).bind fun t148 => (if t148 = true then (if x143006 < 0 then (sr19_May.j1 k true x143000 x143001 x143002 x143003 x143004 x143005 x143006 x143007) else (if x143006 > 7 then (sr19_May.j1 k true x143000 x143001 x143002 x143003 x143004 x143005 x143006 x143007) else (if (x143007.length : Int) < 1 then (sr19_May.j1 k true x143000 x143001 x143002 x143003 x143004 x143005 x143006 x143007) else (sr19_May.j1 k (decide ((x143007.length : Int) > 64)) x143000 x143001 x143002 x143003 x143004 x143005 x143006 x143007)))) else (sr19_May.j1 k true x143000 x143001 x143002 x143003 x143004 x143005 x143006 x143007))))
def sr19_May.j1 : Nat → Bool → ByteArray → ByteArray → ByteArray → ByteArray → ByteArray → ByteArray → Int → List (S65) → Option (Bool)
 | 0, _, _, _, _, _, _, _, _, _ => none
 | k + 1, x62, x143000, x143001, x143002, x143003, x143004, x143005, x143006, x143007 => if x62 = true then (some false) else (sr19_May.l1 k 0 x143000 x143001 x143002 x143003 x143004 x143005 x143006 x143007)
def sr19_May.l1 : Nat → Int → ByteArray → ByteArray → ByteArray → ByteArray → ByteArray → ByteArray → Int → List (S65) → Option (Bool)
 | 0, _, _, _, _, _, _, _, _, _ => none
 | k + 1, x5, x143000, x143001, x143002, x143003, x143004, x143005, x143006, x143007 => if x5 < (x143007.length : Int) then (if 0 ≤ x5 then ((sr03_Name.f k ((rd_T65 x143007 x5).f0)).bind fun t151 => (if t151 = true then (if x5 ≤ (x143007.length : Int) then ((sr19_Find.f k (x143007.take (x5 : Int).toNat) ((rd_T65 x143007 x5).f0)).bind fun t156 => (if t156 ≥ 0 then (some false) else (if ((rd_T65 x143007 x5).f1) < 1 then (some false) else (if ((rd_T65 x143007 x5).f1) > 1048576 then (some false) else (if ((rd_T65 x143007 x5).f2) < 0 then (some false) else (if ((rd_T65 x143007 x5).f2) > 1073741824 then (some false) else (sr19_May.l1 k (wrap64 (x5 + 1)) x143000 x143001 x143002 x143003 x143004 x143005 x143006 x143007))))))) else (none)) else (some false))) else (none)) else (some true)
end
def sr19_May.f (k : Nat) (a0_0 : ByteArray) (a0_1 : ByteArray) (a0_2 : ByteArray) (a0_3 : ByteArray) (a0_4 : ByteArray) (a0_5 : ByteArray) (a0_6 : Int) (l0_7 : List (S65)) : Option (Bool) := sr19_May.l0 k (([a0_0, a0_1, a0_2, a0_4, a0_5] : List ByteArray)) 0 a0_0 a0_1 a0_2 a0_3 a0_4 a0_5 a0_6 l0_7
theorem sr19_May.mono_l : ∀ k, (∀ y0 y1 y2 y3 y4 y5 y6 y7 y8 y9, LeO (sr19_May.l0 k y0 y1 y2 y3 y4 y5 y6 y7 y8 y9) (sr19_May.l0 (k + 1) y0 y1 y2 y3 y4 y5 y6 y7 y8 y9)) ∧ (∀ y0 y1 y2 y3 y4 y5 y6 y7 y8, LeO (sr19_May.j1 k y0 y1 y2 y3 y4 y5 y6 y7 y8) (sr19_May.j1 (k + 1) y0 y1 y2 y3 y4 y5 y6 y7 y8)) ∧ (∀ y0 y1 y2 y3 y4 y5 y6 y7 y8, LeO (sr19_May.l1 k y0 y1 y2 y3 y4 y5 y6 y7 y8) (sr19_May.l1 (k + 1) y0 y1 y2 y3 y4 y5 y6 y7 y8))
 | 0 => ⟨fun _ _ _ _ _ _ _ _ _ _ r h => by simp [sr19_May.l0] at h, fun _ _ _ _ _ _ _ _ _ r h => by simp [sr19_May.j1] at h, fun _ _ _ _ _ _ _ _ _ r h => by simp [sr19_May.l1] at h⟩
 | k + 1 => by
  obtain ⟨ih0, ih1, ih2⟩ := sr19_May.mono_l k
  refine ⟨?_, ?_, ?_⟩
  ·intro y0 y1 y2 y3 y4 y5 y6 y7 y8 y9
   unfold sr19_May.l0
   repeat' first
   | (with_reducible exact ih0 _ _ _ _ _ _ _ _ _ _)
   | (with_reducible exact ih1 _ _ _ _ _ _ _ _ _)
   | (with_reducible exact ih2 _ _ _ _ _ _ _ _ _)
   | (with_reducible exact sr01_Currency.mono _ _)
   | (with_reducible exact sr03_Name.mono _ _)
   | (with_reducible exact sr19_Find.mono _ _ _)
   | (with_reducible exact LeO.refl _)
   | (with_reducible exact LeO.none _)
   | (with_reducible refine LeO.ite ?_ ?_)
   | (with_reducible refine LeO.bind ?_ (fun _ => ?_))
   | exact ih0 _ _ _ _ _ _ _ _ _ _
   | exact ih1 _ _ _ _ _ _ _ _ _
   | exact ih2 _ _ _ _ _ _ _ _ _
   | exact sr01_Currency.mono _ _
   | exact sr03_Name.mono _ _
   | exact sr19_Find.mono _ _ _
   | exact LeO.none _
   | refine LeO.ite ?_ ?_
   | refine LeO.bind ?_ (fun _ => ?_)
  ·intro y0 y1 y2 y3 y4 y5 y6 y7 y8
   unfold sr19_May.j1
   repeat' first
   | (with_reducible exact ih0 _ _ _ _ _ _ _ _ _ _)
   | (with_reducible exact ih1 _ _ _ _ _ _ _ _ _)
   | (with_reducible exact ih2 _ _ _ _ _ _ _ _ _)
   | (with_reducible exact sr01_Currency.mono _ _)
   | (with_reducible exact sr03_Name.mono _ _)
   | (with_reducible exact sr19_Find.mono _ _ _)
   | (with_reducible exact LeO.refl _)
   | (with_reducible exact LeO.none _)
   | (with_reducible refine LeO.ite ?_ ?_)
   | (with_reducible refine LeO.bind ?_ (fun _ => ?_))
   | exact ih0 _ _ _ _ _ _ _ _ _ _
   | exact ih1 _ _ _ _ _ _ _ _ _
   | exact ih2 _ _ _ _ _ _ _ _ _
   | exact sr01_Currency.mono _ _
   | exact sr03_Name.mono _ _
   | exact sr19_Find.mono _ _ _
   | exact LeO.none _
   | refine LeO.ite ?_ ?_
   | refine LeO.bind ?_ (fun _ => ?_)
  ·intro y0 y1 y2 y3 y4 y5 y6 y7 y8
   unfold sr19_May.l1
   repeat' first
   | (with_reducible exact ih0 _ _ _ _ _ _ _ _ _ _)
   | (with_reducible exact ih1 _ _ _ _ _ _ _ _ _)
   | (with_reducible exact ih2 _ _ _ _ _ _ _ _ _)
   | (with_reducible exact sr01_Currency.mono _ _)
   | (with_reducible exact sr03_Name.mono _ _)
   | (with_reducible exact sr19_Find.mono _ _ _)
   | (with_reducible exact LeO.refl _)
   | (with_reducible exact LeO.none _)
   | (with_reducible refine LeO.ite ?_ ?_)
   | (with_reducible refine LeO.bind ?_ (fun _ => ?_))
   | exact ih0 _ _ _ _ _ _ _ _ _ _
   | exact ih1 _ _ _ _ _ _ _ _ _
   | exact ih2 _ _ _ _ _ _ _ _ _
   | exact sr01_Currency.mono _ _
   | exact sr03_Name.mono _ _
   | exact sr19_Find.mono _ _ _
   | exact LeO.none _
   | refine LeO.ite ?_ ?_
   | refine LeO.bind ?_ (fun _ => ?_)
theorem sr19_May.mono : ∀ a0 a1 a2 a3 a4 a5 a6 a7 k, LeO (sr19_May.f k a0 a1 a2 a3 a4 a5 a6 a7) (sr19_May.f (k + 1) a0 a1 a2 a3 a4 a5 a6 a7) := by
 intro a0 a1 a2 a3 a4 a5 a6 a7 k
 obtain ⟨ih0, ih1, ih2⟩ := sr19_May.mono_l k
 unfold sr19_May.f
 repeat' first
   | (with_reducible exact ih0 _ _ _ _ _ _ _ _ _ _)
   | (with_reducible exact ih1 _ _ _ _ _ _ _ _ _)
   | (with_reducible exact ih2 _ _ _ _ _ _ _ _ _)
   | (with_reducible exact sr01_Currency.mono _ _)
   | (with_reducible exact sr03_Name.mono _ _)
   | (with_reducible exact sr19_Find.mono _ _ _)
   | (with_reducible exact LeO.refl _)
   | (with_reducible exact LeO.none _)
   | (with_reducible refine LeO.ite ?_ ?_)
   | (with_reducible refine LeO.bind ?_ (fun _ => ?_))
   | exact ih0 _ _ _ _ _ _ _ _ _ _
   | exact ih1 _ _ _ _ _ _ _ _ _
   | exact ih2 _ _ _ _ _ _ _ _ _
   | exact sr01_Currency.mono _ _
   | exact sr03_Name.mono _ _
   | exact sr19_Find.mono _ _ _
   | exact LeO.none _
   | refine LeO.ite ?_ ?_
   | refine LeO.bind ?_ (fun _ => ?_)
def sr19_May.T13 : Bool × List (List Nat × List Nat) := (true, [([], []), ([0], [0]), ([1], [1]), ([2], [2]), ([3, 2], [3]), ([4], [4]), ([5, 4], [4, 5]), ([4], [4]), ([6, 7, 4], [4, 6, 7]), ([4], [4]), ([9, 4], [4, 9]), ([8, 10, 4, 4], [4, 8, 10]), ([11, 4], [4, 11]), ([4, 12], [4, 12]), ([13, 11], [13]), ([14], [14]), ([15, 14], [14, 15]), ([16, 14], [14, 16]), ([14, 17], [14, 17]), ([18, 14], [18]), ([19], [19]), ([20, 19], [19, 20]), ([21, 19], [19, 21]), ([19, 22], [19, 22]), ([23, 19], [23]), ([24], [24]), ([25, 24], [24, 25]), ([26, 24], [24, 26]), ([24, 27], [24, 27]), ([28, 24], [28]), ([29], [29]), ([30, 29], [29, 30]), ([31, 29], [29, 31]), ([29, 32], [29, 32])])
def sr19_May.B13 : List Nat := [0, 1, 3, 7, 15, 31, 63, 31, 255, 31, 543, 2047, 4095, 8191, 16383, 32767, 65535, 131071, 262143, 524287, 1048575, 2097151, 4194303, 8388607, 16777215, 33554431, 67108863, 134217727, 268435455, 536870911, 1073741823, 2147483647, 4294967295, 8589934591]
theorem sr19_May.tab13 : rtab .any (opsOf Try.f16 13) = sr19_May.T13 := by kernel_rfl
theorem sr19_May.bits13 : waitsOk sr19_May.T13.2 sr19_May.B13 = true := by kernel_rfl
set_option maxHeartbeats 8000000 in
set_option maxRecDepth 100000 in
theorem sr19_May.calls (k : Nat) (a0_0 : ByteArray) (a0_1 : ByteArray) (a0_2 : ByteArray) (a0_3 : ByteArray) (a0_4 : ByteArray) (a0_5 : ByteArray) (a0_6 : Int) (A0_7 : Option Addr) (c0_7 : Nat) (l0_7 : List (S65)) (r : Bool) (w : World) (hr0_7 : Kd.C k65 w A0_7 l0_7.length l0_7) (hc0_7 : l0_7.length ≤ c0_7) (h : sr19_May.f k a0_0 a0_1 a0_2 a0_3 a0_4 a0_5 a0_6 l0_7 = some r) :
  Calls Try.prog 16 #[.agg #[.string a0_0, .string a0_1, .string a0_2, .string a0_3, .string a0_4, .string a0_5, .int .i64 a0_6, .slice A0_7 l0_7.length c0_7]] w fun e w' => e = .returned (.bool r) ∧ Below w.heap.size w w' := by
 have hu24 := Try.underlying24
 have hu65 := Try.underlying65
 have HR0_7 := Aside0.mk hr0_7
 have HC0_7 := Aside0.mk hc0_7
 clear hr0_7 hc0_7
 have HB := Aside0.mk (Below.refl w.heap.size w)
 have H : (sr19_May.l0 k (([a0_0, a0_1, a0_2, a0_4, a0_5] : List ByteArray)) 0 a0_0 a0_1 a0_2 a0_3 a0_4 a0_5 a0_6 l0_7) = some r := h
 clear h
 obtain ⟨y143, hy143⟩ : ∃ y_ : List ByteArray, y_ = (([a0_0, a0_1, a0_2, a0_4, a0_5] : List ByteArray)) := ⟨_, rfl⟩
 replace H : (sr19_May.l0 k y143 0 a0_0 a0_1 a0_2 a0_3 a0_4 a0_5 a0_6 l0_7) = some r := by first | (rw [hy143]; with_reducible exact H) | (have H2_ := (Option.bind_some _ _).symm.trans H; rw [hy143]; with_reducible exact H2_) | (have H2_ := (Option.bind_some _ _).symm.trans H; with_reducible exact H2_) | with_reducible exact H | (rw [hy143]; exact H) | exact H
 have Ny143 := Aside0.mk hy143
 clear hy143
 have H' := Aside0.mk H
 clear H
 go_enter Try.func16, Try.ntmps16
 go_wp2_with (first | ((with_reducible refine gate_dst (N := 1) rfl ?_); (try (refine gate_guard (by rfl) ?_; dsimp only)); refine box_event ?hg (N := 1) ?hd (cs := #[.string a0_0, .string a0_1, .string a0_2, .string a0_3, .string a0_4, .string a0_5, .int .i64 a0_6, .slice A0_7 l0_7.length c0_7]) (t := 24) ?hr ?_; (case hd => rfl); (case hg => rfl); (case hr => first | (go_simp; done) | (go_simp; rfl)); intro gb142 hg w2 hbox hb; have n0_ := Aside0.mk (below_step (by repeat (first | (with_reducible first | exact HB.out | apply below_alloc | apply pw_below_drewN | apply below_drew1) | exact HB.out)) hb); have n1_ := Aside0.mk (hbox); have n2_ := Aside0.mk ((by rw [hg]; exact (below_size (by repeat (first | (with_reducible first | exact HB.out | apply below_alloc | apply pw_below_drewN | apply below_drew1) | exact HB.out))) : w.heap.size ≤ gb142)); have n3_ := Aside0.mk ((by rw [hg]; exact (below_size (by repeat (first | (with_reducible first | exact HB.out | apply below_alloc | apply pw_below_drewN | apply below_drew1) | exact HB.out))) : w.heap.size ≤ gb142)); clear HB; have HB := n0_; have BK142 := n1_; have GW142 := n2_; have GE142 := n3_; clear n0_ n1_ n2_ n3_; clear hb hbox hg; have hcz3_0 : w2.cell? ⟨gb142, 0, none⟩ = some (.string a0_0) := (blk_cell BK142.out 0).trans rfl; have hcz3_1 : w2.cell? ⟨gb142, 1, none⟩ = some (.string a0_1) := (blk_cell BK142.out 1).trans rfl; have hcz3_2 : w2.cell? ⟨gb142, 2, none⟩ = some (.string a0_2) := (blk_cell BK142.out 2).trans rfl; have hcz3_3 : w2.cell? ⟨gb142, 3, none⟩ = some (.string a0_3) := (blk_cell BK142.out 3).trans rfl; have hcz3_4 : w2.cell? ⟨gb142, 4, none⟩ = some (.string a0_4) := (blk_cell BK142.out 4).trans rfl; have hcz3_5 : w2.cell? ⟨gb142, 5, none⟩ = some (.string a0_5) := (blk_cell BK142.out 5).trans rfl; have hcz3_6 : w2.cell? ⟨gb142, 6, none⟩ = some (.int .i64 a0_6) := (blk_cell BK142.out 6).trans rfl; have hcz3_7 : w2.cell? ⟨gb142, 7, none⟩ = some (.slice A0_7 l0_7.length c0_7) := (blk_cell BK142.out 7).trans rfl; have hfz3_0 := blk_frozen BK142.out 0; have hfz3_1 := blk_frozen BK142.out 1; have hfz3_2 := blk_frozen BK142.out 2; have hfz3_3 := blk_frozen BK142.out 3; have hfz3_4 := blk_frozen BK142.out 4; have hfz3_5 := blk_frozen BK142.out 5; have hfz3_6 := blk_frozen BK142.out 6; have hfz3_7 := blk_frozen BK142.out 7) | ((with_reducible refine gate_dst (N := 17) rfl ?_); (try (refine gate_guard (by rfl) ?_; dsimp only)); refine Kd.R_lit Kd.string _ 9 ?hg (N := 17) ?hd (xs := ([a0_0, a0_1, a0_2, a0_4, a0_5] : List ByteArray)) (inner := [.string a0_0, .string a0_1, .string a0_2, .string a0_4, .string a0_5]) (ok := fun _ => True) (okp := fun _ => True) ?hr ?hp (fun _ hk => hk) trivial (Below.refl _ _) (Nat.le_refl _) (by simp) ?_; (case hd => rfl); (case hg => rfl); (case hr => first | (go_simp; done) | (go_simp; rfl)); (case hp => exact (Reps.one (show Kd.M Kd.string _ _ _ a0_0 [.string a0_0] from rfl) (Reps.one (show Kd.M Kd.string _ _ _ a0_1 [.string a0_1] from rfl) (Reps.one (show Kd.M Kd.string _ _ _ a0_2 [.string a0_2] from rfl) (Reps.one (show Kd.M Kd.string _ _ _ a0_4 [.string a0_4] from rfl) (Reps.one (show Kd.M Kd.string _ _ _ a0_5 [.string a0_5] from rfl) (Reps.none _ _))))))); intro v144 w4 ho5 hb hg_ hnew_; clear hg_ hnew_; (first | rw [← Ny143.out] at ho5 | (simp only [Int.reduceToNat] at ho5; rw [← Ny143.out] at ho5)); have n0_ := Aside0.mk (Kd.R_lower ho5 (below_size (by repeat (first | (with_reducible first | exact HB.out | apply below_alloc | apply pw_below_drewN | apply below_drew1 | refine below_set ?_ GE142.out) | exact HB.out)))); have n1_ := Aside0.mk (blk_below (g := gb142) (o := .cells #[.string a0_0, .string a0_1, .string a0_2, .string a0_3, .string a0_4, .string a0_5, .int .i64 a0_6, .slice A0_7 l0_7.length c0_7] 24 (0, 0)) (by (with_reducible repeat (first | refine blk_drewN ?_ _ | refine blk_drew ?_ | refine blk_alloc ?_ _)); exact BK142.out) hb); have n2_ := Aside0.mk (below_step (by repeat (first | (with_reducible first | exact HB.out | apply below_alloc | apply pw_below_drewN | apply below_drew1 | refine below_set ?_ GE142.out) | exact HB.out)) hb); clear BK142; clear HB; have HO145 := n0_; have BK142 := n1_; have HB := n2_; clear n0_ n1_ n2_; clear hb ho5))
 go_loopg [4] k (fun kq v4 w' => ∃ (x4_1 : Int), v4 = .int .i64 x4_1 ∧ Aside0 (sr19_May.l0 kq y143 x4_1 a0_0 a0_1 a0_2 a0_3 a0_4 a0_5 a0_6 l0_7 = some r) ∧ Aside0 (kq ≤ k) ∧ Aside0 (Kd.R Kd.string 9 w' w.heap.size (fun _ => True) v144 y143) ∧ Aside0 (w'.heap[gb142]? = some (.cells #[.string a0_0, .string a0_1, .string a0_2, .string a0_3, .string a0_4, .string a0_5, .int .i64 a0_6, (.slice A0_7 l0_7.length c0_7)] 24 (0, 0))) ∧ Aside0 (Below w.heap.size w w'))
 case atStart => exact ⟨(0), (by first | rfl | (simp; done) | (simp [*]; done)), H', ⟨Nat.le_refl _⟩, ⟨by (with_reducible repeat (first | apply Kd.R_alloc | apply Kd.R_drewN | apply Kd.R_drew)); exact HO145.out⟩, ⟨by (with_reducible repeat (first | refine blk_drewN ?_ _ | refine blk_drew ?_ | refine blk_alloc ?_ _)); exact BK142.out⟩, ⟨by repeat (first | (with_reducible first | exact HB.out | apply below_alloc | apply pw_below_drewN | apply below_drew1 | refine below_set ?_ GE142.out) | exact HB.out)⟩⟩
 case round => (
clear H'
try clear c1
try clear p2
try clear hcz3_0
try clear hcz3_1
try clear hcz3_2
try clear hcz3_3
try clear hcz3_4
try clear hcz3_5
try clear hcz3_6
try clear hcz3_7
try clear hfz3_0
try clear hfz3_1
try clear hfz3_2
try clear hfz3_3
try clear hfz3_4
try clear hfz3_5
try clear hfz3_6
try clear hfz3_7
obtain ⟨x4_1, rfl, HA, HK1, HO_3, BK142, HB⟩ := hrel
cases gk with
| zero => exact absurd HA.out (by simp [sr19_May.l0])
| succ k1 => (
have H := HA.out
clear HA
simp only [sr19_May.l0] at H
by_cases c6 : x4_1 < (y143.length : Int)
·(
rw [if_pos c6] at H
have c6b0 : decide (x4_1 < (y143.length : Int)) = true := decide_eq_true c6
clear c6
by_cases c7 : 0 ≤ x4_1
·(
rw [if_pos c7] at H
have c7b0 : decide (0 ≤ x4_1) = true := decide_eq_true c7
clear c7
replace H := Option.bind_eq_some_iff.mp H
obtain ⟨t147, A80, H⟩ := H
replace H : (if t147 = true then (sr19_May.l0 k1 y143 (wrap64 (x4_1 + 1)) a0_0 a0_1 a0_2 a0_3 a0_4 a0_5 a0_6 l0_7) else (some false)) = some r := H
have A8 := Aside0.mk A80
clear A80
by_cases c9 : t147 = true
·(
subst c9
have H1 : (sr19_May.l0 k1 y143 (wrap64 (x4_1 + 1)) a0_0 a0_1 a0_2 a0_3 a0_4 a0_5 a0_6 l0_7) = some r := by rw [if_pos rfl] at H; exact H
clear H
have H := H1
clear H1
have H' := Aside0.mk H
clear H
obtain ⟨Ao10, co10, eo10⟩ := Kd.R_slice HO_3.out
subst eo10
have p146 : 0 ≤ (x4_1 : Int) := of_decide_eq_true (by first | (with_reducible assumption) | assumption)
have q146 : x4_1 < (y143.length : Int) := of_decide_eq_true (by first | (with_reducible assumption) | assumption)
obtain ⟨ad146, e146, hx146_0⟩ := Kd.at_string (Kd.R_reads' HO_3.out).2.2 x4_1 p146 q146
cases e146
replace p146 := eq_true p146
replace q146 := eq_true q146
go_wp2_with (first | ((with_reducible refine gate_callee (f := 39) rfl ?_); refine goesL_ (some 28) rfl rfl Try.func39 (by kernel_rfl) rfl #[.string (rdOf ByteArray.empty y143 x4_1)] rfl (by (try simp only [List.map_toArray, List.map_cons, List.map_nil]); first | done | rfl | (simp only [List.length_drop, List.length_take]; rfl)) ?_; (with_reducible refine (sr03_Name.calls k1 (rdOf ByteArray.empty y143 x4_1) true _ A8.out).mono ?_); rintro e w' ⟨rfl, ⟨nd, rfl⟩⟩; refine ⟨_, rfl, ?_⟩))
go_roundg k1
case measure => have := HK1.out; omega
case rel => exact ⟨(wrap64 (x4_1 + 1)), (by first | rfl | (simp; done) | (simp [*]; done)), H', ⟨by have := HK1.out; omega⟩, ⟨by (with_reducible repeat (first | apply Kd.R_alloc | apply Kd.R_drewN | apply Kd.R_drew)); exact HO_3.out⟩, ⟨by (with_reducible repeat (first | refine blk_drewN ?_ _ | refine blk_drew ?_ | refine blk_alloc ?_ _)); exact BK142.out⟩, ⟨by repeat (first | (with_reducible first | exact HB.out | apply below_alloc | apply pw_below_drewN | apply below_drew1 | refine below_set ?_ GE142.out) | exact HB.out)⟩⟩
)
·(
replace c9 := Bool.eq_false_iff.mpr c9
subst c9
have H1 : (some false) = some r := by rw [if_neg (show ¬ (false = true) by decide)] at H; exact H
clear H
have H := H1
clear H1
obtain rfl := Option.some.inj H
obtain ⟨Ao11, co11, eo11⟩ := Kd.R_slice HO_3.out
subst eo11
have p146 : 0 ≤ (x4_1 : Int) := of_decide_eq_true (by first | (with_reducible assumption) | assumption)
have q146 : x4_1 < (y143.length : Int) := of_decide_eq_true (by first | (with_reducible assumption) | assumption)
obtain ⟨ad146, e146, hx146_0⟩ := Kd.at_string (Kd.R_reads' HO_3.out).2.2 x4_1 p146 q146
cases e146
replace p146 := eq_true p146
replace q146 := eq_true q146
go_wp2_with (first | ((with_reducible refine gate_callee (f := 39) rfl ?_); refine goesL_ (some 28) rfl rfl Try.func39 (by kernel_rfl) rfl #[.string (rdOf ByteArray.empty y143 x4_1)] rfl (by (try simp only [List.map_toArray, List.map_cons, List.map_nil]); first | done | rfl | (simp only [List.length_drop, List.length_take]; rfl)) ?_; (with_reducible refine (sr03_Name.calls k1 (rdOf ByteArray.empty y143 x4_1) false _ A8.out).mono ?_); rintro e w' ⟨rfl, ⟨nd, rfl⟩⟩; refine ⟨_, rfl, ?_⟩))
go_ret
exact ⟨by first | rfl | (simp [errW_none, errW_some] <;> rfl) | (simp [*, errW_none, errW_some] <;> rfl), by repeat (first | (with_reducible first | exact HB.out | apply below_alloc | apply pw_below_drewN | apply below_drew1 | refine below_set ?_ GE142.out) | exact HB.out)⟩
)
)
·(
rw [if_neg c7] at H
exact absurd H (by simp)
)
)
·(
rw [if_neg c6] at H
have c6b0 : decide (x4_1 < (y143.length : Int)) = false := decide_eq_false c6
clear c6
have HC12 := Aside0.mk H
clear H
obtain ⟨Ao13, co13, eo13⟩ := Kd.R_slice HO_3.out
subst eo13
go_upto_region 7 with (fail)
go_cut [62] (fun v62 wc => ∃ (kq : Nat) (x62_11 : Bool), v62 = .bool x62_11 ∧ Aside0 (sr19_May.j1 kq x62_11 a0_0 a0_1 a0_2 a0_3 a0_4 a0_5 a0_6 l0_7 = some r) ∧ Aside0 (kq ≤ k1) ∧ Aside0 (wc.heap[gb142]? = some (.cells #[.string a0_0, .string a0_1, .string a0_2, .string a0_3, .string a0_4, .string a0_5, .int .i64 a0_6, (.slice A0_7 l0_7.length c0_7)] 24 (0, 0))) ∧ Aside0 (Below w.heap.size w wc))
case first => (
have H := HC12.out
clear HC12
by_cases c14 : a0_1.toList = a0_2.toList
·(
rw [if_pos c14] at H
have c14b0 : (a0_1.toList == a0_2.toList) = true := beq_iff_eq.mpr c14
have c14b1 : (a0_1.toList != a0_2.toList) = false := bne_eq_false_iff_eq.mpr c14
clear c14
(first | rw [c14b0] | (simp only [i64_w, i32_w]; rw [c14b0]) | skip)
have H' := Aside0.mk H
clear H
have hcz15_0 : wr.cell? ⟨gb142, 0, none⟩ = some (.string a0_0) := (blk_cell BK142.out 0).trans rfl
have hcz15_1 : wr.cell? ⟨gb142, 1, none⟩ = some (.string a0_1) := (blk_cell BK142.out 1).trans rfl
have hcz15_2 : wr.cell? ⟨gb142, 2, none⟩ = some (.string a0_2) := (blk_cell BK142.out 2).trans rfl
have hcz15_3 : wr.cell? ⟨gb142, 3, none⟩ = some (.string a0_3) := (blk_cell BK142.out 3).trans rfl
have hcz15_4 : wr.cell? ⟨gb142, 4, none⟩ = some (.string a0_4) := (blk_cell BK142.out 4).trans rfl
have hcz15_5 : wr.cell? ⟨gb142, 5, none⟩ = some (.string a0_5) := (blk_cell BK142.out 5).trans rfl
have hcz15_6 : wr.cell? ⟨gb142, 6, none⟩ = some (.int .i64 a0_6) := (blk_cell BK142.out 6).trans rfl
have hcz15_7 : wr.cell? ⟨gb142, 7, none⟩ = some (.slice A0_7 l0_7.length c0_7) := (blk_cell BK142.out 7).trans rfl
have hfz15_0 := blk_frozen BK142.out 0
have hfz15_1 := blk_frozen BK142.out 1
have hfz15_2 := blk_frozen BK142.out 2
have hfz15_3 := blk_frozen BK142.out 3
have hfz15_4 := blk_frozen BK142.out 4
have hfz15_5 := blk_frozen BK142.out 5
have hfz15_6 := blk_frozen BK142.out 6
have hfz15_7 := blk_frozen BK142.out 7
go_wp2
go_meet
case rel => exact ⟨_, (true), (by first | rfl | (simp; done) | (simp [*]; done)), H', ⟨by have := HK1.out; first | omega | exact Nat.le_refl _⟩, ⟨by (with_reducible repeat (first | refine blk_drewN ?_ _ | refine blk_drew ?_ | refine blk_alloc ?_ _)); exact BK142.out⟩, ⟨by repeat (first | (with_reducible first | exact HB.out | apply below_alloc | apply pw_below_drewN | apply below_drew1 | refine below_set ?_ GE142.out) | exact HB.out)⟩⟩
)
·(
rw [if_neg c14] at H
have c14b0 : (a0_1.toList == a0_2.toList) = false := beq_eq_false_iff_ne.mpr c14
have c14b1 : (a0_1.toList != a0_2.toList) = true := bne_iff_ne.mpr c14
(first | rw [c14b0] | (simp only [i64_w, i32_w]; rw [c14b0]) | skip)
replace H := Option.bind_eq_some_iff.mp H
obtain ⟨t148, A160, H⟩ := H
replace H : (if t148 = true then (if a0_6 < 0 then (sr19_May.j1 k1 true a0_0 a0_1 a0_2 a0_3 a0_4 a0_5 a0_6 l0_7) else (if a0_6 > 7 then (sr19_May.j1 k1 true a0_0 a0_1 a0_2 a0_3 a0_4 a0_5 a0_6 l0_7) else (if (l0_7.length : Int) < 1 then (sr19_May.j1 k1 true a0_0 a0_1 a0_2 a0_3 a0_4 a0_5 a0_6 l0_7) else (sr19_May.j1 k1 (decide ((l0_7.length : Int) > 64)) a0_0 a0_1 a0_2 a0_3 a0_4 a0_5 a0_6 l0_7)))) else (sr19_May.j1 k1 true a0_0 a0_1 a0_2 a0_3 a0_4 a0_5 a0_6 l0_7)) = some r := H
have A16 := Aside0.mk A160
clear A160
by_cases c17 : t148 = true
·(
subst c17
have H1 : (if a0_6 < 0 then (sr19_May.j1 k1 true a0_0 a0_1 a0_2 a0_3 a0_4 a0_5 a0_6 l0_7) else (if a0_6 > 7 then (sr19_May.j1 k1 true a0_0 a0_1 a0_2 a0_3 a0_4 a0_5 a0_6 l0_7) else (if (l0_7.length : Int) < 1 then (sr19_May.j1 k1 true a0_0 a0_1 a0_2 a0_3 a0_4 a0_5 a0_6 l0_7) else (sr19_May.j1 k1 (decide ((l0_7.length : Int) > 64)) a0_0 a0_1 a0_2 a0_3 a0_4 a0_5 a0_6 l0_7)))) = some r := by rw [if_pos rfl] at H; exact H
clear H
have H := H1
clear H1
by_cases c18 : a0_6 < 0
·(
rw [if_pos c18] at H
have c18b0 : decide (a0_6 < 0) = true := decide_eq_true c18
clear c18
have H' := Aside0.mk H
clear H
have hcz19_0 : wr.cell? ⟨gb142, 0, none⟩ = some (.string a0_0) := (blk_cell BK142.out 0).trans rfl
have hcz19_1 : wr.cell? ⟨gb142, 1, none⟩ = some (.string a0_1) := (blk_cell BK142.out 1).trans rfl
have hcz19_2 : wr.cell? ⟨gb142, 2, none⟩ = some (.string a0_2) := (blk_cell BK142.out 2).trans rfl
have hcz19_3 : wr.cell? ⟨gb142, 3, none⟩ = some (.string a0_3) := (blk_cell BK142.out 3).trans rfl
have hcz19_4 : wr.cell? ⟨gb142, 4, none⟩ = some (.string a0_4) := (blk_cell BK142.out 4).trans rfl
have hcz19_5 : wr.cell? ⟨gb142, 5, none⟩ = some (.string a0_5) := (blk_cell BK142.out 5).trans rfl
have hcz19_6 : wr.cell? ⟨gb142, 6, none⟩ = some (.int .i64 a0_6) := (blk_cell BK142.out 6).trans rfl
have hcz19_7 : wr.cell? ⟨gb142, 7, none⟩ = some (.slice A0_7 l0_7.length c0_7) := (blk_cell BK142.out 7).trans rfl
have hfz19_0 := blk_frozen BK142.out 0
have hfz19_1 := blk_frozen BK142.out 1
have hfz19_2 := blk_frozen BK142.out 2
have hfz19_3 := blk_frozen BK142.out 3
have hfz19_4 := blk_frozen BK142.out 4
have hfz19_5 := blk_frozen BK142.out 5
have hfz19_6 := blk_frozen BK142.out 6
have hfz19_7 := blk_frozen BK142.out 7
go_wp2_with (first | (go_at_call 40; (with_reducible refine (sr01_Currency.calls k1 a0_3 true _ A16.out).mono ?_); rintro e w' ⟨rfl, ⟨nd, rfl⟩⟩))
go_meet
case rel => exact ⟨_, (true), (by first | rfl | (simp; done) | (simp [*]; done)), H', ⟨by have := HK1.out; first | omega | exact Nat.le_refl _⟩, ⟨by (with_reducible repeat (first | refine blk_drewN ?_ _ | refine blk_drew ?_ | refine blk_alloc ?_ _)); exact BK142.out⟩, ⟨by repeat (first | (with_reducible first | exact HB.out | apply below_alloc | apply pw_below_drewN | apply below_drew1 | refine below_set ?_ GE142.out) | exact HB.out)⟩⟩
)
·(
rw [if_neg c18] at H
have c18b0 : decide (a0_6 < 0) = false := decide_eq_false c18
clear c18
by_cases c20 : a0_6 > 7
·(
rw [if_pos c20] at H
have c20b0 : decide (7 < a0_6) = true := decide_eq_true c20
clear c20
have H' := Aside0.mk H
clear H
have hcz21_0 : wr.cell? ⟨gb142, 0, none⟩ = some (.string a0_0) := (blk_cell BK142.out 0).trans rfl
have hcz21_1 : wr.cell? ⟨gb142, 1, none⟩ = some (.string a0_1) := (blk_cell BK142.out 1).trans rfl
have hcz21_2 : wr.cell? ⟨gb142, 2, none⟩ = some (.string a0_2) := (blk_cell BK142.out 2).trans rfl
have hcz21_3 : wr.cell? ⟨gb142, 3, none⟩ = some (.string a0_3) := (blk_cell BK142.out 3).trans rfl
have hcz21_4 : wr.cell? ⟨gb142, 4, none⟩ = some (.string a0_4) := (blk_cell BK142.out 4).trans rfl
have hcz21_5 : wr.cell? ⟨gb142, 5, none⟩ = some (.string a0_5) := (blk_cell BK142.out 5).trans rfl
have hcz21_6 : wr.cell? ⟨gb142, 6, none⟩ = some (.int .i64 a0_6) := (blk_cell BK142.out 6).trans rfl
have hcz21_7 : wr.cell? ⟨gb142, 7, none⟩ = some (.slice A0_7 l0_7.length c0_7) := (blk_cell BK142.out 7).trans rfl
have hfz21_0 := blk_frozen BK142.out 0
have hfz21_1 := blk_frozen BK142.out 1
have hfz21_2 := blk_frozen BK142.out 2
have hfz21_3 := blk_frozen BK142.out 3
have hfz21_4 := blk_frozen BK142.out 4
have hfz21_5 := blk_frozen BK142.out 5
have hfz21_6 := blk_frozen BK142.out 6
have hfz21_7 := blk_frozen BK142.out 7
go_wp2_with (first | (go_at_call 40; (with_reducible refine (sr01_Currency.calls k1 a0_3 true _ A16.out).mono ?_); rintro e w' ⟨rfl, ⟨nd, rfl⟩⟩))
go_meet
case rel => exact ⟨_, (true), (by first | rfl | (simp; done) | (simp [*]; done)), H', ⟨by have := HK1.out; first | omega | exact Nat.le_refl _⟩, ⟨by (with_reducible repeat (first | refine blk_drewN ?_ _ | refine blk_drew ?_ | refine blk_alloc ?_ _)); exact BK142.out⟩, ⟨by repeat (first | (with_reducible first | exact HB.out | apply below_alloc | apply pw_below_drewN | apply below_drew1 | refine below_set ?_ GE142.out) | exact HB.out)⟩⟩
)
·(
rw [if_neg c20] at H
have c20b0 : decide (7 < a0_6) = false := decide_eq_false c20
clear c20
by_cases c22 : (l0_7.length : Int) < 1
·(
rw [if_pos c22] at H
have c22b0 : decide ((l0_7.length : Int) < 1) = true := decide_eq_true c22
have c22b1 : decide (l0_7.length < 1) = true := decide_eq_true (by omega)
clear c22
have H' := Aside0.mk H
clear H
have hcz23_0 : wr.cell? ⟨gb142, 0, none⟩ = some (.string a0_0) := (blk_cell BK142.out 0).trans rfl
have hcz23_1 : wr.cell? ⟨gb142, 1, none⟩ = some (.string a0_1) := (blk_cell BK142.out 1).trans rfl
have hcz23_2 : wr.cell? ⟨gb142, 2, none⟩ = some (.string a0_2) := (blk_cell BK142.out 2).trans rfl
have hcz23_3 : wr.cell? ⟨gb142, 3, none⟩ = some (.string a0_3) := (blk_cell BK142.out 3).trans rfl
have hcz23_4 : wr.cell? ⟨gb142, 4, none⟩ = some (.string a0_4) := (blk_cell BK142.out 4).trans rfl
have hcz23_5 : wr.cell? ⟨gb142, 5, none⟩ = some (.string a0_5) := (blk_cell BK142.out 5).trans rfl
have hcz23_6 : wr.cell? ⟨gb142, 6, none⟩ = some (.int .i64 a0_6) := (blk_cell BK142.out 6).trans rfl
have hcz23_7 : wr.cell? ⟨gb142, 7, none⟩ = some (.slice A0_7 l0_7.length c0_7) := (blk_cell BK142.out 7).trans rfl
have hfz23_0 := blk_frozen BK142.out 0
have hfz23_1 := blk_frozen BK142.out 1
have hfz23_2 := blk_frozen BK142.out 2
have hfz23_3 := blk_frozen BK142.out 3
have hfz23_4 := blk_frozen BK142.out 4
have hfz23_5 := blk_frozen BK142.out 5
have hfz23_6 := blk_frozen BK142.out 6
have hfz23_7 := blk_frozen BK142.out 7
go_wp2_with (first | (go_at_call 40; (with_reducible refine (sr01_Currency.calls k1 a0_3 true _ A16.out).mono ?_); rintro e w' ⟨rfl, ⟨nd, rfl⟩⟩))
go_meet
case rel => exact ⟨_, (true), (by first | rfl | (simp; done) | (simp [*]; done)), H', ⟨by have := HK1.out; first | omega | exact Nat.le_refl _⟩, ⟨by (with_reducible repeat (first | refine blk_drewN ?_ _ | refine blk_drew ?_ | refine blk_alloc ?_ _)); exact BK142.out⟩, ⟨by repeat (first | (with_reducible first | exact HB.out | apply below_alloc | apply pw_below_drewN | apply below_drew1 | refine below_set ?_ GE142.out) | exact HB.out)⟩⟩
)
·(
rw [if_neg c22] at H
have c22b0 : decide ((l0_7.length : Int) < 1) = false := decide_eq_false c22
have c22b1 : decide (l0_7.length < 1) = false := decide_eq_false (by omega)
clear c22
have H' := Aside0.mk H
clear H
have hcz24_0 : wr.cell? ⟨gb142, 0, none⟩ = some (.string a0_0) := (blk_cell BK142.out 0).trans rfl
have hcz24_1 : wr.cell? ⟨gb142, 1, none⟩ = some (.string a0_1) := (blk_cell BK142.out 1).trans rfl
have hcz24_2 : wr.cell? ⟨gb142, 2, none⟩ = some (.string a0_2) := (blk_cell BK142.out 2).trans rfl
have hcz24_3 : wr.cell? ⟨gb142, 3, none⟩ = some (.string a0_3) := (blk_cell BK142.out 3).trans rfl
have hcz24_4 : wr.cell? ⟨gb142, 4, none⟩ = some (.string a0_4) := (blk_cell BK142.out 4).trans rfl
have hcz24_5 : wr.cell? ⟨gb142, 5, none⟩ = some (.string a0_5) := (blk_cell BK142.out 5).trans rfl
have hcz24_6 : wr.cell? ⟨gb142, 6, none⟩ = some (.int .i64 a0_6) := (blk_cell BK142.out 6).trans rfl
have hcz24_7 : wr.cell? ⟨gb142, 7, none⟩ = some (.slice A0_7 l0_7.length c0_7) := (blk_cell BK142.out 7).trans rfl
have hfz24_0 := blk_frozen BK142.out 0
have hfz24_1 := blk_frozen BK142.out 1
have hfz24_2 := blk_frozen BK142.out 2
have hfz24_3 := blk_frozen BK142.out 3
have hfz24_4 := blk_frozen BK142.out 4
have hfz24_5 := blk_frozen BK142.out 5
have hfz24_6 := blk_frozen BK142.out 6
have hfz24_7 := blk_frozen BK142.out 7
go_wp2_with (first | (go_at_call 40; (with_reducible refine (sr01_Currency.calls k1 a0_3 true _ A16.out).mono ?_); rintro e w' ⟨rfl, ⟨nd, rfl⟩⟩))
go_meet
case rel => exact ⟨_, (decide ((l0_7.length : Int) > 64)), (by first | rfl | (simp; done) | (simp [*]; done)), H', ⟨by have := HK1.out; first | omega | exact Nat.le_refl _⟩, ⟨by (with_reducible repeat (first | refine blk_drewN ?_ _ | refine blk_drew ?_ | refine blk_alloc ?_ _)); exact BK142.out⟩, ⟨by repeat (first | (with_reducible first | exact HB.out | apply below_alloc | apply pw_below_drewN | apply below_drew1 | refine below_set ?_ GE142.out) | exact HB.out)⟩⟩
)
)
)
)
·(
replace c17 := Bool.eq_false_iff.mpr c17
subst c17
have H1 : (sr19_May.j1 k1 true a0_0 a0_1 a0_2 a0_3 a0_4 a0_5 a0_6 l0_7) = some r := by rw [if_neg (show ¬ (false = true) by decide)] at H; exact H
clear H
have H := H1
clear H1
have H' := Aside0.mk H
clear H
have hcz25_0 : wr.cell? ⟨gb142, 0, none⟩ = some (.string a0_0) := (blk_cell BK142.out 0).trans rfl
have hcz25_1 : wr.cell? ⟨gb142, 1, none⟩ = some (.string a0_1) := (blk_cell BK142.out 1).trans rfl
have hcz25_2 : wr.cell? ⟨gb142, 2, none⟩ = some (.string a0_2) := (blk_cell BK142.out 2).trans rfl
have hcz25_3 : wr.cell? ⟨gb142, 3, none⟩ = some (.string a0_3) := (blk_cell BK142.out 3).trans rfl
have hcz25_4 : wr.cell? ⟨gb142, 4, none⟩ = some (.string a0_4) := (blk_cell BK142.out 4).trans rfl
have hcz25_5 : wr.cell? ⟨gb142, 5, none⟩ = some (.string a0_5) := (blk_cell BK142.out 5).trans rfl
have hcz25_6 : wr.cell? ⟨gb142, 6, none⟩ = some (.int .i64 a0_6) := (blk_cell BK142.out 6).trans rfl
have hcz25_7 : wr.cell? ⟨gb142, 7, none⟩ = some (.slice A0_7 l0_7.length c0_7) := (blk_cell BK142.out 7).trans rfl
have hfz25_0 := blk_frozen BK142.out 0
have hfz25_1 := blk_frozen BK142.out 1
have hfz25_2 := blk_frozen BK142.out 2
have hfz25_3 := blk_frozen BK142.out 3
have hfz25_4 := blk_frozen BK142.out 4
have hfz25_5 := blk_frozen BK142.out 5
have hfz25_6 := blk_frozen BK142.out 6
have hfz25_7 := blk_frozen BK142.out 7
go_wp2_with (first | (go_at_call 40; (with_reducible refine (sr01_Currency.calls k1 a0_3 false _ A16.out).mono ?_); rintro e w' ⟨rfl, ⟨nd, rfl⟩⟩))
go_meet
case rel => exact ⟨_, (true), (by first | rfl | (simp; done) | (simp [*]; done)), H', ⟨by have := HK1.out; first | omega | exact Nat.le_refl _⟩, ⟨by (with_reducible repeat (first | refine blk_drewN ?_ _ | refine blk_drew ?_ | refine blk_alloc ?_ _)); exact BK142.out⟩, ⟨by repeat (first | (with_reducible first | exact HB.out | apply below_alloc | apply pw_below_drewN | apply below_drew1 | refine below_set ?_ GE142.out) | exact HB.out)⟩⟩
)
)
)
case rest => (
clear HC12
try clear c1
try clear p1
try clear q1
try clear hx1
try clear c2
try clear p2
try clear c3
try clear c6
try clear c6b0
try clear p6
try clear c7
try clear c7b0
try clear c9
try clear c14
try clear c14b0
try clear c14b1
try clear p14
try clear q14
try clear hx14
try clear c16
try clear c17
try clear c18
try clear c18b0
try clear c20
try clear c20b0
try clear c22
try clear c22b0
try clear c22b1
try clear hcz15_0
try clear hcz15_1
try clear hcz15_2
try clear hcz15_3
try clear hcz15_4
try clear hcz15_5
try clear hcz15_6
try clear hcz15_7
try clear hcz19_0
try clear hcz19_1
try clear hcz19_2
try clear hcz19_3
try clear hcz19_4
try clear hcz19_5
try clear hcz19_6
try clear hcz19_7
try clear hcz21_0
try clear hcz21_1
try clear hcz21_2
try clear hcz21_3
try clear hcz21_4
try clear hcz21_5
try clear hcz21_6
try clear hcz21_7
try clear hcz23_0
try clear hcz23_1
try clear hcz23_2
try clear hcz23_3
try clear hcz23_4
try clear hcz23_5
try clear hcz23_6
try clear hcz23_7
try clear hcz24_0
try clear hcz24_1
try clear hcz24_2
try clear hcz24_3
try clear hcz24_4
try clear hcz24_5
try clear hcz24_6
try clear hcz24_7
try clear hcz25_0
try clear hcz25_1
try clear hcz25_2
try clear hcz25_3
try clear hcz25_4
try clear hcz25_5
try clear hcz25_6
try clear hcz25_7
try clear hcz3_0
try clear hcz3_1
try clear hcz3_2
try clear hcz3_3
try clear hcz3_4
try clear hcz3_5
try clear hcz3_6
try clear hcz3_7
try clear hfz15_0
try clear hfz15_1
try clear hfz15_2
try clear hfz15_3
try clear hfz15_4
try clear hfz15_5
try clear hfz15_6
try clear hfz15_7
try clear hfz19_0
try clear hfz19_1
try clear hfz19_2
try clear hfz19_3
try clear hfz19_4
try clear hfz19_5
try clear hfz19_6
try clear hfz19_7
try clear hfz21_0
try clear hfz21_1
try clear hfz21_2
try clear hfz21_3
try clear hfz21_4
try clear hfz21_5
try clear hfz21_6
try clear hfz21_7
try clear hfz23_0
try clear hfz23_1
try clear hfz23_2
try clear hfz23_3
try clear hfz23_4
try clear hfz23_5
try clear hfz23_6
try clear hfz23_7
try clear hfz24_0
try clear hfz24_1
try clear hfz24_2
try clear hfz24_3
try clear hfz24_4
try clear hfz24_5
try clear hfz24_6
try clear hfz24_7
try clear hfz25_0
try clear hfz25_1
try clear hfz25_2
try clear hfz25_3
try clear hfz25_4
try clear hfz25_5
try clear hfz25_6
try clear hfz25_7
try clear hfz3_0
try clear hfz3_1
try clear hfz3_2
try clear hfz3_3
try clear hfz3_4
try clear hfz3_5
try clear hfz3_6
try clear hfz3_7
try clear hx146_0
try clear p146
try clear p2
try clear q146
obtain ⟨kq, x62_11, rfl, HA, HJ11, BK142, HB⟩ := hcut
cases kq with
| zero => exact absurd HA.out (by simp [sr19_May.j1])
| succ kj11 => (
have H := HA.out
clear HA
simp only [sr19_May.j1] at H
by_cases c26 : x62_11 = true
·(
subst c26
have H1 : (some false) = some r := by rw [if_pos rfl] at H; exact H
clear H
have H := H1
clear H1
obtain rfl := Option.some.inj H
go_wp2
go_ret
exact ⟨by first | rfl | (simp [errW_none, errW_some] <;> rfl) | (simp [*, errW_none, errW_some] <;> rfl), by repeat (first | (with_reducible first | exact HB.out | apply below_alloc | apply pw_below_drewN | apply below_drew1 | refine below_set ?_ GE142.out) | exact HB.out)⟩
)
·(
replace c26 := Bool.eq_false_iff.mpr c26
subst c26
have H1 : (sr19_May.l1 kj11 0 a0_0 a0_1 a0_2 a0_3 a0_4 a0_5 a0_6 l0_7) = some r := by rw [if_neg (show ¬ (false = true) by decide)] at H; exact H
clear H
have H := H1
clear H1
have H' := Aside0.mk H
clear H
go_wp2
go_loopg [5] kj11 (fun kq v5 w' => ∃ (x5_3 : Int), v5 = .int .i64 x5_3 ∧ Aside0 (sr19_May.l1 kq x5_3 a0_0 a0_1 a0_2 a0_3 a0_4 a0_5 a0_6 l0_7 = some r) ∧ Aside0 (kq ≤ kj11) ∧ Aside0 (w'.heap[gb142]? = some (.cells #[.string a0_0, .string a0_1, .string a0_2, .string a0_3, .string a0_4, .string a0_5, .int .i64 a0_6, (.slice A0_7 l0_7.length c0_7)] 24 (0, 0))) ∧ Aside0 (Below w.heap.size w w'))
case atStart => exact ⟨(0), (by first | rfl | (simp; done) | (simp [*]; done)), H', ⟨Nat.le_refl _⟩, ⟨by (with_reducible repeat (first | refine blk_drewN ?_ _ | refine blk_drew ?_ | refine blk_alloc ?_ _)); exact BK142.out⟩, ⟨by repeat (first | (with_reducible first | exact HB.out | apply below_alloc | apply pw_below_drewN | apply below_drew1 | refine below_set ?_ GE142.out) | exact HB.out)⟩⟩
case round => (
clear H'
try clear c1
try clear p1
try clear q1
try clear hx1
try clear c2
try clear p2
try clear c3
try clear c6
try clear c6b0
try clear p6
try clear c7
try clear c7b0
try clear c9
try clear c14
try clear c14b0
try clear c14b1
try clear p14
try clear q14
try clear hx14
try clear c16
try clear c17
try clear c18
try clear c18b0
try clear c20
try clear c20b0
try clear c22
try clear c22b0
try clear c22b1
try clear c26
try clear hcz15_0
try clear hcz15_1
try clear hcz15_2
try clear hcz15_3
try clear hcz15_4
try clear hcz15_5
try clear hcz15_6
try clear hcz15_7
try clear hcz19_0
try clear hcz19_1
try clear hcz19_2
try clear hcz19_3
try clear hcz19_4
try clear hcz19_5
try clear hcz19_6
try clear hcz19_7
try clear hcz21_0
try clear hcz21_1
try clear hcz21_2
try clear hcz21_3
try clear hcz21_4
try clear hcz21_5
try clear hcz21_6
try clear hcz21_7
try clear hcz23_0
try clear hcz23_1
try clear hcz23_2
try clear hcz23_3
try clear hcz23_4
try clear hcz23_5
try clear hcz23_6
try clear hcz23_7
try clear hcz24_0
try clear hcz24_1
try clear hcz24_2
try clear hcz24_3
try clear hcz24_4
try clear hcz24_5
try clear hcz24_6
try clear hcz24_7
try clear hcz25_0
try clear hcz25_1
try clear hcz25_2
try clear hcz25_3
try clear hcz25_4
try clear hcz25_5
try clear hcz25_6
try clear hcz25_7
try clear hcz3_0
try clear hcz3_1
try clear hcz3_2
try clear hcz3_3
try clear hcz3_4
try clear hcz3_5
try clear hcz3_6
try clear hcz3_7
try clear hfz15_0
try clear hfz15_1
try clear hfz15_2
try clear hfz15_3
try clear hfz15_4
try clear hfz15_5
try clear hfz15_6
try clear hfz15_7
try clear hfz19_0
try clear hfz19_1
try clear hfz19_2
try clear hfz19_3
try clear hfz19_4
try clear hfz19_5
try clear hfz19_6
try clear hfz19_7
try clear hfz21_0
try clear hfz21_1
try clear hfz21_2
try clear hfz21_3
try clear hfz21_4
try clear hfz21_5
try clear hfz21_6
try clear hfz21_7
try clear hfz23_0
try clear hfz23_1
try clear hfz23_2
try clear hfz23_3
try clear hfz23_4
try clear hfz23_5
try clear hfz23_6
try clear hfz23_7
try clear hfz24_0
try clear hfz24_1
try clear hfz24_2
try clear hfz24_3
try clear hfz24_4
try clear hfz24_5
try clear hfz24_6
try clear hfz24_7
try clear hfz25_0
try clear hfz25_1
try clear hfz25_2
try clear hfz25_3
try clear hfz25_4
try clear hfz25_5
try clear hfz25_6
try clear hfz25_7
try clear hfz3_0
try clear hfz3_1
try clear hfz3_2
try clear hfz3_3
try clear hfz3_4
try clear hfz3_5
try clear hfz3_6
try clear hfz3_7
try clear hx146_0
try clear p1
try clear p14
try clear p146
try clear p2
try clear p6
try clear q1
try clear q14
try clear q146
obtain ⟨x5_3, rfl, HA, HK3, BK142, HB⟩ := hrel
cases gk with
| zero => exact absurd HA.out (by simp [sr19_May.l1])
| succ k3 => (
have H := HA.out
clear HA
simp only [sr19_May.l1] at H
by_cases c27 : x5_3 < (l0_7.length : Int)
·(
rw [if_pos c27] at H
have c27b0 : decide (x5_3 < (l0_7.length : Int)) = true := decide_eq_true c27
clear c27
by_cases c28 : 0 ≤ x5_3
·(
rw [if_pos c28] at H
have c28b0 : decide (0 ≤ x5_3) = true := decide_eq_true c28
clear c28
replace H := Option.bind_eq_some_iff.mp H
obtain ⟨t151, A290, H⟩ := H
replace H : (if t151 = true then (if x5_3 ≤ (l0_7.length : Int) then ((sr19_Find.f k3 (l0_7.take (x5_3 : Int).toNat) ((rd_T65 l0_7 x5_3).f0)).bind fun t156 => (if t156 ≥ 0 then (some false) else (if ((rd_T65 l0_7 x5_3).f1) < 1 then (some false) else (if ((rd_T65 l0_7 x5_3).f1) > 1048576 then (some false) else (if ((rd_T65 l0_7 x5_3).f2) < 0 then (some false) else (if ((rd_T65 l0_7 x5_3).f2) > 1073741824 then (some false) else (sr19_May.l1 k3 (wrap64 (x5_3 + 1)) a0_0 a0_1 a0_2 a0_3 a0_4 a0_5 a0_6 l0_7))))))) else (none)) else (some false)) = some r := H
have A29 := Aside0.mk A290
clear A290
by_cases c30 : t151 = true
·(
subst c30
have H1 : (if x5_3 ≤ (l0_7.length : Int) then ((sr19_Find.f k3 (l0_7.take (x5_3 : Int).toNat) ((rd_T65 l0_7 x5_3).f0)).bind fun t156 => (if t156 ≥ 0 then (some false) else (if ((rd_T65 l0_7 x5_3).f1) < 1 then (some false) else (if ((rd_T65 l0_7 x5_3).f1) > 1048576 then (some false) else (if ((rd_T65 l0_7 x5_3).f2) < 0 then (some false) else (if ((rd_T65 l0_7 x5_3).f2) > 1073741824 then (some false) else (sr19_May.l1 k3 (wrap64 (x5_3 + 1)) a0_0 a0_1 a0_2 a0_3 a0_4 a0_5 a0_6 l0_7))))))) else (none)) = some r := by rw [if_pos rfl] at H; exact H
clear H
have H := H1
clear H1
have c31b0 := eq_true (of_decide_eq_true (by first | (with_reducible assumption) | assumption) : 0 ≤ x5_3)
by_cases c32 : x5_3 ≤ (l0_7.length : Int)
·(
rw [if_pos c32] at H
have c32b0 := eq_true c32
have c32b1 : decide (x5_3 ≤ (l0_7.length : Int)) = true := decide_eq_true c32
clear c32
obtain ⟨y152, hy152⟩ : ∃ y_ : List (S65), y_ = (l0_7.take (x5_3 : Int).toNat) := ⟨_, rfl⟩
replace H : ((sr19_Find.f k3 y152 ((rd_T65 l0_7 x5_3).f0)).bind fun t156 => (if t156 ≥ 0 then (some false) else (if ((rd_T65 l0_7 x5_3).f1) < 1 then (some false) else (if ((rd_T65 l0_7 x5_3).f1) > 1048576 then (some false) else (if ((rd_T65 l0_7 x5_3).f2) < 0 then (some false) else (if ((rd_T65 l0_7 x5_3).f2) > 1073741824 then (some false) else (sr19_May.l1 k3 (wrap64 (x5_3 + 1)) a0_0 a0_1 a0_2 a0_3 a0_4 a0_5 a0_6 l0_7))))))) = some r := by first | (rw [hy152]; with_reducible exact H) | (have H2_ := (Option.bind_some _ _).symm.trans H; rw [hy152]; with_reducible exact H2_) | (have H2_ := (Option.bind_some _ _).symm.trans H; with_reducible exact H2_) | with_reducible exact H | (rw [hy152]; exact H) | exact H
have Ny152 := Aside0.mk hy152
clear hy152
replace H := Option.bind_eq_some_iff.mp H
obtain ⟨t156, A330, H⟩ := H
replace H : (if t156 ≥ 0 then (some false) else (if ((rd_T65 l0_7 x5_3).f1) < 1 then (some false) else (if ((rd_T65 l0_7 x5_3).f1) > 1048576 then (some false) else (if ((rd_T65 l0_7 x5_3).f2) < 0 then (some false) else (if ((rd_T65 l0_7 x5_3).f2) > 1073741824 then (some false) else (sr19_May.l1 k3 (wrap64 (x5_3 + 1)) a0_0 a0_1 a0_2 a0_3 a0_4 a0_5 a0_6 l0_7)))))) = some r := H
have A33 := Aside0.mk A330
clear A330
by_cases c34 : t156 ≥ 0
·(
rw [if_pos c34] at H
have c34b0 : decide (0 ≤ t156) = true := decide_eq_true c34
clear c34
obtain rfl := Option.some.inj H
have hcz35_0 : wr.cell? ⟨gb142, 0, none⟩ = some (.string a0_0) := (blk_cell BK142.out 0).trans rfl
have hcz35_1 : wr.cell? ⟨gb142, 1, none⟩ = some (.string a0_1) := (blk_cell BK142.out 1).trans rfl
have hcz35_2 : wr.cell? ⟨gb142, 2, none⟩ = some (.string a0_2) := (blk_cell BK142.out 2).trans rfl
have hcz35_3 : wr.cell? ⟨gb142, 3, none⟩ = some (.string a0_3) := (blk_cell BK142.out 3).trans rfl
have hcz35_4 : wr.cell? ⟨gb142, 4, none⟩ = some (.string a0_4) := (blk_cell BK142.out 4).trans rfl
have hcz35_5 : wr.cell? ⟨gb142, 5, none⟩ = some (.string a0_5) := (blk_cell BK142.out 5).trans rfl
have hcz35_6 : wr.cell? ⟨gb142, 6, none⟩ = some (.int .i64 a0_6) := (blk_cell BK142.out 6).trans rfl
have hcz35_7 : wr.cell? ⟨gb142, 7, none⟩ = some (.slice A0_7 l0_7.length c0_7) := (blk_cell BK142.out 7).trans rfl
have hfz35_0 := blk_frozen BK142.out 0
have hfz35_1 := blk_frozen BK142.out 1
have hfz35_2 := blk_frozen BK142.out 2
have hfz35_3 := blk_frozen BK142.out 3
have hfz35_4 := blk_frozen BK142.out 4
have hfz35_5 := blk_frozen BK142.out 5
have hfz35_6 := blk_frozen BK142.out 6
have hfz35_7 := blk_frozen BK142.out 7
have p149 : 0 ≤ (x5_3 : Int) := of_decide_eq_true (by first | (with_reducible assumption) | assumption)
have q149 : x5_3 < (l0_7.length : Int) := of_decide_eq_true (by first | (with_reducible assumption) | assumption)
obtain ⟨ad149, e149, hx149_0, hx149_1, hx149_2⟩ := at_T65 HR0_7.out x5_3 p149 q149
cases e149
replace hx149_0 := (HB.out.cell (World.block_lt_of_cell? w _ hx149_0)).trans hx149_0
replace hx149_1 := (HB.out.cell (World.block_lt_of_cell? w _ hx149_1)).trans hx149_1
replace hx149_2 := (HB.out.cell (World.block_lt_of_cell? w _ hx149_2)).trans hx149_2
replace p149 := eq_true p149
replace q149 := eq_true q149
try go_wp2_with (first | ((with_reducible refine gate_dst (N := 6) rfl ?_); (try (refine gate_guard (by rfl) ?_; dsimp only)); refine box_event ?hg (N := 6) ?hd (cs := #[.string (⟨#[]⟩ : ByteArray), .int .i64 0, .int .i64 0]) (t := 65) ?hr ?_; (case hd => rfl); (case hg => rfl); (case hr => first | (go_simp; done) | (go_simp; rfl)); intro gb150 hg w36 hbox hb; have n0_ := Aside0.mk (blk_below (g := gb142) (o := .cells #[.string a0_0, .string a0_1, .string a0_2, .string a0_3, .string a0_4, .string a0_5, .int .i64 a0_6, .slice (some ad149) l0_7.length c0_7] 24 (0, 0)) (by (with_reducible repeat (first | refine blk_drewN ?_ _ | refine blk_drew ?_ | refine blk_alloc ?_ _)); exact BK142.out) hb); have n1_ := Aside0.mk (below_step (by repeat (first | (with_reducible first | exact HB.out | apply below_alloc | apply pw_below_drewN | apply below_drew1 | refine below_set ?_ GE142.out) | exact HB.out)) hb); have n2_ := Aside0.mk (hbox); have n3_ := Aside0.mk ((by rw [hg]; exact (below_size (by repeat (first | (with_reducible first | exact HB.out | apply below_alloc | apply pw_below_drewN | apply below_drew1 | refine below_set ?_ GE142.out) | exact HB.out))) : w.heap.size ≤ gb150)); have n4_ := Aside0.mk ((by rw [hg]; exact (below_size (by repeat (first | (with_reducible first | exact HB.out | apply below_alloc | apply pw_below_drewN | apply below_drew1 | refine below_set ?_ GE142.out) | exact HB.out))) : w.heap.size ≤ gb150)); have n5_ := Aside0.mk ((by rw [hg]; exact Nat.ne_of_lt (blk_lt (g := gb142) (o := .cells #[.string a0_0, .string a0_1, .string a0_2, .string a0_3, .string a0_4, .string a0_5, .int .i64 a0_6, .slice (some ad149) l0_7.length c0_7] 24 (0, 0)) (by (with_reducible repeat (first | refine blk_drewN ?_ _ | refine blk_drew ?_ | refine blk_alloc ?_ _)); exact BK142.out)) : gb142 ≠ gb150)); have n6_ := Aside0.mk ((by rw [hg]; exact Nat.ne_of_gt (blk_lt (g := gb142) (o := .cells #[.string a0_0, .string a0_1, .string a0_2, .string a0_3, .string a0_4, .string a0_5, .int .i64 a0_6, .slice (some ad149) l0_7.length c0_7] 24 (0, 0)) (by (with_reducible repeat (first | refine blk_drewN ?_ _ | refine blk_drew ?_ | refine blk_alloc ?_ _)); exact BK142.out)) : gb150 ≠ gb142)); clear BK142; clear HB; have BK142 := n0_; have HB := n1_; have BK150 := n2_; have GW150 := n3_; have GE150 := n4_; have NB142_150 := n5_; have NB150_142 := n6_; clear n0_ n1_ n2_ n3_ n4_ n5_ n6_; clear hb hbox hg; have hnb37 := NB150_142.out; have hnc37 := NB142_150.out; have hcz38_0 : w36.cell? ⟨gb150, 0, none⟩ = some (.string (⟨#[]⟩ : ByteArray)) := (blk_cell BK150.out 0).trans rfl; have hcz38_1 : w36.cell? ⟨gb150, 1, none⟩ = some (.int .i64 0) := (blk_cell BK150.out 1).trans rfl; have hcz38_2 : w36.cell? ⟨gb150, 2, none⟩ = some (.int .i64 0) := (blk_cell BK150.out 2).trans rfl; have hfz38_0 := blk_frozen BK150.out 0; have hfz38_1 := blk_frozen BK150.out 1; have hfz38_2 := blk_frozen BK150.out 2))
have n0_ : Aside0 ((((w36.setCell ⟨gb150, 0, none⟩ (.string ((rd_T65 l0_7 x5_3).f0))).setCell ⟨gb150, 1, none⟩ (.int .i64 ((rd_T65 l0_7 x5_3).f1))).setCell ⟨gb150, 2, none⟩ (.int .i64 ((rd_T65 l0_7 x5_3).f2))).heap[gb142]? = some (.cells #[.string a0_0, .string a0_1, .string a0_2, .string a0_3, .string a0_4, .string a0_5, .int .i64 a0_6, .slice (some ad149) l0_7.length c0_7] 24 (0, 0))) := ⟨by (with_reducible repeat (first | refine blk_drewN ?_ _ | refine blk_drew ?_ | refine blk_alloc ?_ _)); refine blk_far ?_ NB142_150.out _; (with_reducible repeat (first | refine blk_drewN ?_ _ | refine blk_drew ?_ | refine blk_alloc ?_ _)); refine blk_far ?_ NB142_150.out _; (with_reducible repeat (first | refine blk_drewN ?_ _ | refine blk_drew ?_ | refine blk_alloc ?_ _)); refine blk_far ?_ NB142_150.out _; (with_reducible repeat (first | refine blk_drewN ?_ _ | refine blk_drew ?_ | refine blk_alloc ?_ _)); exact BK142.out⟩
have n1_ : Aside0 ((((w36.setCell ⟨gb150, 0, none⟩ (.string ((rd_T65 l0_7 x5_3).f0))).setCell ⟨gb150, 1, none⟩ (.int .i64 ((rd_T65 l0_7 x5_3).f1))).setCell ⟨gb150, 2, none⟩ (.int .i64 ((rd_T65 l0_7 x5_3).f2))).heap[gb150]? = some (.cells #[.string ((rd_T65 l0_7 x5_3).f0), .int .i64 ((rd_T65 l0_7 x5_3).f1), .int .i64 ((rd_T65 l0_7 x5_3).f2)] 65 (0, 0))) := ⟨by (with_reducible repeat (first | refine blk_drewN ?_ _ | refine blk_drew ?_ | refine blk_alloc ?_ _)); refine blk_put (cs := #[.string ((rd_T65 l0_7 x5_3).f0), .int .i64 ((rd_T65 l0_7 x5_3).f1), .int .i64 0]) ?_ 2 _ rfl; (with_reducible repeat (first | refine blk_drewN ?_ _ | refine blk_drew ?_ | refine blk_alloc ?_ _)); refine blk_put (cs := #[.string ((rd_T65 l0_7 x5_3).f0), .int .i64 0, .int .i64 0]) ?_ 1 _ rfl; (with_reducible repeat (first | refine blk_drewN ?_ _ | refine blk_drew ?_ | refine blk_alloc ?_ _)); refine blk_put (cs := #[.string (⟨#[]⟩ : ByteArray), .int .i64 0, .int .i64 0]) ?_ 0 _ rfl; (with_reducible repeat (first | refine blk_drewN ?_ _ | refine blk_drew ?_ | refine blk_alloc ?_ _)); exact BK150.out⟩
have n2_ : Aside0 (Below w.heap.size w (((w36.setCell ⟨gb150, 0, none⟩ (.string ((rd_T65 l0_7 x5_3).f0))).setCell ⟨gb150, 1, none⟩ (.int .i64 ((rd_T65 l0_7 x5_3).f1))).setCell ⟨gb150, 2, none⟩ (.int .i64 ((rd_T65 l0_7 x5_3).f2)))) := ⟨by repeat (first | (with_reducible first | exact HB.out | apply below_alloc | apply pw_below_drewN | apply below_drew1 | refine below_set ?_ GE142.out | refine below_set ?_ GE150.out) | exact HB.out)⟩
(try clear BK142)
(try clear BK150)
(try clear HB)
generalize (((w36.setCell ⟨gb150, 0, none⟩ (.string ((rd_T65 l0_7 x5_3).f0))).setCell ⟨gb150, 1, none⟩ (.int .i64 ((rd_T65 l0_7 x5_3).f1))).setCell ⟨gb150, 2, none⟩ (.int .i64 ((rd_T65 l0_7 x5_3).f2))) = w39 at n0_ n1_ n2_ ⊢
have BK142 := n0_
have BK150 := n1_
have HB := n2_
clear n0_ n1_ n2_
have n0_ := Aside0.mk (blk_drew BK142.out)
have n1_ := Aside0.mk (blk_drew BK150.out)
have n2_ := Aside0.mk (below_drew1 HB.out)
clear BK142
clear BK150
clear HB
have BK142 := n0_
have BK150 := n1_
have HB := n2_
clear n0_ n1_ n2_
refine start_ (n := 34) (S := fun w' => w'.cell? ⟨gb150, 0, none⟩ = some (.string ((rd_T65 l0_7 x5_3).f0)) ∧ w'.cell? ⟨gb150, 1, none⟩ = some (.int .i64 ((rd_T65 l0_7 x5_3).f1)) ∧ w'.cell? ⟨gb150, 2, none⟩ = some (.int .i64 ((rd_T65 l0_7 x5_3).f2)) ∧ w'.cell? ⟨gb142, 0, none⟩ = some (.string a0_0) ∧ w'.cell? ⟨gb142, 1, none⟩ = some (.string a0_1) ∧ w'.cell? ⟨gb142, 2, none⟩ = some (.string a0_2) ∧ w'.cell? ⟨gb142, 3, none⟩ = some (.string a0_3) ∧ w'.cell? ⟨gb142, 4, none⟩ = some (.string a0_4) ∧ w'.cell? ⟨gb142, 5, none⟩ = some (.string a0_5) ∧ w'.cell? ⟨gb142, 6, none⟩ = some (.int .i64 a0_6) ∧ w'.cell? ⟨gb142, 7, none⟩ = some (.slice (some ad149) l0_7.length c0_7)) (ds := []) #[F,F,F,F,F,F,F,F,F,F,F,F,F,F,F,F,F,F,F,F,F,F,F,F,F,F,F,F,F,F,F,F,F,F] (by kernel_rfl) rfl rfl ⟨(blk_cell BK150.out 0).trans rfl, (blk_cell BK150.out 1).trans rfl, (blk_cell BK150.out 2).trans rfl, (blk_cell BK142.out 0).trans rfl, (blk_cell BK142.out 1).trans rfl, (blk_cell BK142.out 2).trans rfl, (blk_cell BK142.out 3).trans rfl, (blk_cell BK142.out 4).trans rfl, (blk_cell BK142.out 5).trans rfl, (blk_cell BK142.out 6).trans rfl, (blk_cell BK142.out 7).trans rfl⟩ (fun hHeld => ?_); refine with_tabW sr19_May.tab13 sr19_May.bits13 (fun HT_ HW_ => ?_)
generalize w39.drew = w40 at BK142 BK150 HB hHeld ⊢
refine pure_ (i := 0) (N := some 75) (v := ?_) (a' := ?_) #[T,F,F,F,F,F,F,F,F,F,F,F,F,F,F,F,F,F,F,F,F,F,F,F,F,F,F,F,F,F,F,F,F,F] rfl rfl (any_of HT_.out (by kernel_rfl)) (fun _ _ _ h => h) (Or.inl ⟨by rfl, ?_⟩) ?_ ?_
rotate_left
·(
intro w'
go_simp
with_reducible rfl
)
rotate_left
·(
simp only [Act.put, List.setIfInBounds_toArray, List.set_cons_zero, List.set_cons_succ, i64_w, i32_w]
rfl
)
refine take_ (i := 1) (N := some 76) (v := ?_) (a' := ?_) #[T,T,F,F,F,F,F,F,F,F,F,F,F,F,F,F,F,F,F,F,F,F,F,F,F,F,F,F,F,F,F,F,F,F] rfl rfl (take_ofW HT_.out HW_.out (by kernel_rfl)) (fun _ _ _ h => h) (Or.inl ⟨by rfl, ?_⟩) hHeld ?_ ?_
rotate_left
·(
rintro w' ⟨s0, s1, s2, s3, s4, s5, s6, s7, s8, s9, s10⟩
go_simp
with_reducible rfl
)
rotate_left
·(
simp only [Act.put, List.setIfInBounds_toArray, List.set_cons_zero, List.set_cons_succ, i64_w, i32_w]
rfl
)
refine one_ (i := 2) (N := some 77) #[T,T,T,F,F,F,F,F,F,F,F,F,F,F,F,F,F,F,F,F,F,F,F,F,F,F,F,F,F,F,F,F,F,F] rfl rfl (one_of HT_.out (by kernel_rfl)) (by decide) (fun K hK => ?_)
refine goes_ Try.func39 (by kernel_rfl) rfl #[.string ((rd_T65 l0_7 x5_3).f0)] (by rfl) rfl rfl (by (try simp only [List.map_toArray, List.map_cons, List.map_nil]); first | done | rfl | (simp only [List.length_drop, List.length_take]; rfl)) ?_
with_reducible refine (sr03_Name.calls k3 ((rd_T65 l0_7 x5_3).f0) true _ A29.out).mono ?_
rintro e w' ⟨rfl, ⟨nd, rfl⟩⟩
refine ⟨_, rfl, ?_⟩
have q41 : (x5_3 : Int) ≤ ((l0_7.length : Int) : Int) := of_decide_eq_true (by first | (with_reducible assumption) | assumption)
obtain ⟨i041, hi041, _, hsz41, _⟩ := info_parts info65
have hroom41 : l0_7.length ≤ c0_7 := HC0_7.out
have hC41 : Kd.C k65 _ (some ad149) l0_7.length l0_7 := HR0_7.out
have hcut41 := cut_to (P := Try.prog) 22 65 .i64 Try.underlying22 hi041 (some ad149) l0_7.length c0_7 x5_3 (of_decide_eq_true (by first | (with_reducible assumption) | assumption)) q41 hroom41
have hr41 := Kd.C_take (m := (x5_3 : Int).toNat) hC41 (by omega)
have hy41 : y152.length = (x5_3 : Int).toNat := (by rw [Ny152.out, List.length_take]; omega)
rw [← Ny152.out] at hr41
rw [← hy41] at hcut41
have HR155 := Aside0.mk hr41
have HC155 := Aside0.mk (show y152.length ≤ c0_7 from by omega)
clear hr41 hC41 hroom41 hi041 hsz41
have KY41 := Aside0.mk hy41
clear hy41
replace q41 := eq_true q41
refine hK.out _ _ ⟨(blk_cell BK150.out 0).trans rfl, (blk_cell BK150.out 1).trans rfl, (blk_cell BK150.out 2).trans rfl, (blk_cell BK142.out 0).trans rfl, (blk_cell BK142.out 1).trans rfl, (blk_cell BK142.out 2).trans rfl, (blk_cell BK142.out 3).trans rfl, (blk_cell BK142.out 4).trans rfl, (blk_cell BK142.out 5).trans rfl, (blk_cell BK142.out 6).trans rfl, (blk_cell BK142.out 7).trans rfl⟩ (fun hHeld => ?_)
clear hK K
refine norm_ (a' := ?_) ?_ ?_
rotate_left
·(
show Act.put _ (some 77) _ = _
simp only [Act.put, List.setIfInBounds_toArray, List.set_cons_zero, List.set_cons_succ, i64_w, i32_w]
rfl
)
refine pure_ (i := 3) (N := some 78) (v := ?_) (a' := ?_) #[T,T,T,T,F,F,F,F,F,F,F,F,F,F,F,F,F,F,F,F,F,F,F,F,F,F,F,F,F,F,F,F,F,F] rfl rfl (any_of HT_.out (by kernel_rfl)) (fun _ _ _ h => h) (Or.inl ⟨by rfl, ?_⟩) ?_ ?_
rotate_left
·(
intro w'
go_simp
with_reducible rfl
)
rotate_left
·(
simp only [Act.put, List.setIfInBounds_toArray, List.set_cons_zero, List.set_cons_succ, i64_w, i32_w]
rfl
)
refine pure_ (i := 4) (N := some 79) (v := ?_) (a' := ?_) #[T,T,T,T,T,F,F,F,F,F,F,F,F,F,F,F,F,F,F,F,F,F,F,F,F,F,F,F,F,F,F,F,F,F] rfl rfl (any_of HT_.out (by kernel_rfl)) (fun _ _ _ h => h) (Or.inl ⟨by rfl, ?_⟩) ?_ ?_
rotate_left
·(
intro w'
go_simp
with_reducible rfl
)
rotate_left
·(
simp only [Act.put, List.setIfInBounds_toArray, List.set_cons_zero, List.set_cons_succ, i64_w, i32_w]
rfl
)
refine pure_ (i := 5) (N := some 80) (v := ?_) (a' := ?_) #[T,T,T,T,T,T,F,F,F,F,F,F,F,F,F,F,F,F,F,F,F,F,F,F,F,F,F,F,F,F,F,F,F,F] rfl rfl (any_of HT_.out (by kernel_rfl)) (fun _ _ _ h => h) (Or.inl ⟨by rfl, ?_⟩) ?_ ?_
rotate_left
·(
intro w'
go_simp
with_reducible rfl
)
rotate_left
·(
simp only [Act.put, List.setIfInBounds_toArray, List.set_cons_zero, List.set_cons_succ, i64_w, i32_w]
rfl
)
refine pure_ (i := 7) (N := some 82) (v := ?_) (a' := ?_) #[T,T,T,T,T,T,F,T,F,F,F,F,F,F,F,F,F,F,F,F,F,F,F,F,F,F,F,F,F,F,F,F,F,F] rfl rfl (any_of HT_.out (by kernel_rfl)) (fun _ _ _ h => h) (Or.inl ⟨by rfl, ?_⟩) ?_ ?_
rotate_left
·(
intro w'
go_simp
with_reducible rfl
)
rotate_left
·(
simp only [Act.put, List.setIfInBounds_toArray, List.set_cons_zero, List.set_cons_succ, i64_w, i32_w]
rfl
)
refine pure_ (i := 9) (N := some 84) (v := ?_) (a' := ?_) #[T,T,T,T,T,T,F,T,F,T,F,F,F,F,F,F,F,F,F,F,F,F,F,F,F,F,F,F,F,F,F,F,F,F] rfl rfl (any_of HT_.out (by kernel_rfl)) (fun _ _ _ h => h) (Or.inl ⟨by rfl, ?_⟩) ?_ ?_
rotate_left
·(
intro w'
go_simp
with_reducible rfl
)
rotate_left
·(
simp only [Act.put, List.setIfInBounds_toArray, List.set_cons_zero, List.set_cons_succ, i64_w, i32_w]
rfl
)
refine take_ (i := 6) (N := some 81) (v := ?_) (a' := ?_) #[T,T,T,T,T,T,T,T,F,T,F,F,F,F,F,F,F,F,F,F,F,F,F,F,F,F,F,F,F,F,F,F,F,F] rfl rfl (take_ofW HT_.out HW_.out (by kernel_rfl)) (fun _ _ _ h => h) (Or.inl ⟨by rfl, ?_⟩) hHeld ?_ ?_
rotate_left
·(
rintro w' ⟨s0, s1, s2, s3, s4, s5, s6, s7, s8, s9, s10⟩
go_simp
with_reducible rfl
)
rotate_left
·(
simp only [Act.put, List.setIfInBounds_toArray, List.set_cons_zero, List.set_cons_succ, i64_w, i32_w]
rfl
)
refine pure_ (i := 8) (N := some 83) (v := ?_) (a' := ?_) #[T,T,T,T,T,T,T,T,T,T,F,F,F,F,F,F,F,F,F,F,F,F,F,F,F,F,F,F,F,F,F,F,F,F] rfl rfl (any_of HT_.out (by kernel_rfl)) (fun _ _ _ h => h) (Or.inl ⟨by rfl, ?_⟩) ?_ ?_
rotate_left
·(
intro w'
go_simp
with_reducible rfl
)
rotate_left
·(
simp only [Act.put, List.setIfInBounds_toArray, List.set_cons_zero, List.set_cons_succ, i64_w, i32_w]
rfl
)
refine take_ (i := 10) (N := some 85) (v := ?_) (a' := ?_) #[T,T,T,T,T,T,T,T,T,T,T,F,F,F,F,F,F,F,F,F,F,F,F,F,F,F,F,F,F,F,F,F,F,F] rfl rfl (take_ofW HT_.out HW_.out (by kernel_rfl)) (fun _ _ _ h => h) (Or.inl ⟨by rfl, ?_⟩) hHeld ?_ ?_
rotate_left
·(
rintro w' ⟨s0, s1, s2, s3, s4, s5, s6, s7, s8, s9, s10⟩
go_simp
with_reducible rfl
)
rotate_left
·(
simp only [Act.put, List.setIfInBounds_toArray, List.set_cons_zero, List.set_cons_succ, i64_w, i32_w]
rfl
)
refine one_ (i := 11) (N := some 86) #[T,T,T,T,T,T,T,T,T,T,T,T,F,F,F,F,F,F,F,F,F,F,F,F,F,F,F,F,F,F,F,F,F,F] rfl rfl (one_of HT_.out (by kernel_rfl)) (by decide) (fun K hK => ?_)
refine goes_ Try.func41 (by kernel_rfl) rfl #[.slice (some ad149) y152.length c0_7, .string ((rd_T65 l0_7 x5_3).f0)] (by rfl) rfl rfl (by (try simp only [List.map_toArray, List.map_cons, List.map_nil]); first | done | rfl | (simp only [List.length_drop, List.length_take]; rfl)) ?_
with_reducible refine (sr19_Find.calls k3 _ _ y152 ((rd_T65 l0_7 x5_3).f0) t156 _ ?side1 ?side2 A33.out).mono ?_
(case side1 => repeat (first | exact (Kd.C_below HR155.out (by repeat (first | (with_reducible first | exact HB.out | apply below_alloc | apply pw_below_drewN | apply below_drew1 | refine below_set ?_ GE142.out | refine below_set ?_ GE150.out) | exact HB.out))) | (with_reducible refine Kd.C_alloc ?_ _) | (with_reducible refine Kd.C_drewN ?_ _) | (with_reducible refine Kd.C_drew ?_)))
(case side2 => exact HC155.out)
rintro e w' ⟨rfl, ⟨nd, rfl⟩⟩
refine ⟨_, rfl, ?_⟩
refine hK.out _ _ ⟨(blk_cell BK150.out 0).trans rfl, (blk_cell BK150.out 1).trans rfl, (blk_cell BK150.out 2).trans rfl, (blk_cell BK142.out 0).trans rfl, (blk_cell BK142.out 1).trans rfl, (blk_cell BK142.out 2).trans rfl, (blk_cell BK142.out 3).trans rfl, (blk_cell BK142.out 4).trans rfl, (blk_cell BK142.out 5).trans rfl, (blk_cell BK142.out 6).trans rfl, (blk_cell BK142.out 7).trans rfl⟩ (fun hHeld => ?_)
clear hK K
refine norm_ (a' := ?_) ?_ ?_
rotate_left
·(
show Act.put _ (some 86) _ = _
simp only [Act.put, List.setIfInBounds_toArray, List.set_cons_zero, List.set_cons_succ, i64_w, i32_w]
rfl
)
refine pure_ (i := 12) (N := some 87) (v := ?_) (a' := ?_) #[T,T,T,T,T,T,T,T,T,T,T,T,T,F,F,F,F,F,F,F,F,F,F,F,F,F,F,F,F,F,F,F,F,F] rfl rfl (any_of HT_.out (by kernel_rfl)) (fun _ _ _ h => h) (Or.inl ⟨by rfl, ?_⟩) ?_ ?_
rotate_left
·(
intro w'
go_simp
with_reducible rfl
)
rotate_left
·(
simp only [Act.put, List.setIfInBounds_toArray, List.set_cons_zero, List.set_cons_succ, i64_w, i32_w]
rfl
)
refine pure_ (i := 13) (N := some 88) (v := ?_) (a' := ?_) #[T,T,T,T,T,T,T,T,T,T,T,T,T,T,F,F,F,F,F,F,F,F,F,F,F,F,F,F,F,F,F,F,F,F] rfl rfl (any_of HT_.out (by kernel_rfl)) (fun _ _ _ h => h) (Or.inl ⟨by rfl, ?_⟩) ?_ ?_
rotate_left
·(
intro w'
go_simp
with_reducible rfl
)
rotate_left
·(
simp only [Act.put, List.setIfInBounds_toArray, List.set_cons_zero, List.set_cons_succ, i64_w, i32_w]
rfl
)
refine pure_ (i := 14) (N := some 89) (v := ?_) (a' := ?_) #[T,T,T,T,T,T,T,T,T,T,T,T,T,T,T,F,F,F,F,F,F,F,F,F,F,F,F,F,F,F,F,F,F,F] rfl rfl (any_of HT_.out (by kernel_rfl)) (fun _ _ _ h => h) (Or.inl ⟨by rfl, ?_⟩) ?_ ?_
rotate_left
·(
intro w'
go_simp
with_reducible rfl
)
rotate_left
·(
simp only [Act.put, List.setIfInBounds_toArray, List.set_cons_zero, List.set_cons_succ, i64_w, i32_w]
rfl
)
refine pure_ (i := 15) (N := some 90) (v := undef) (a' := ?_) #[T,T,T,T,T,T,T,T,T,T,T,T,T,T,T,T,F,F,F,F,F,F,F,F,F,F,F,F,F,F,F,F,F,F] rfl rfl (any_of HT_.out (by kernel_rfl)) (fun _ _ _ h => h) (Or.inr ⟨by rfl, rfl⟩) ?_ ?_
rotate_left
·(
simp only [Act.put, List.setIfInBounds_toArray, List.set_cons_zero, List.set_cons_succ, i64_w, i32_w]
rfl
)
refine pure_ (i := 16) (N := some 91) (v := undef) (a' := ?_) #[T,T,T,T,T,T,T,T,T,T,T,T,T,T,T,T,T,F,F,F,F,F,F,F,F,F,F,F,F,F,F,F,F,F] rfl rfl (any_of HT_.out (by kernel_rfl)) (fun _ _ _ h => h) (Or.inr ⟨by rfl, rfl⟩) ?_ ?_
rotate_left
·(
simp only [Act.put, List.setIfInBounds_toArray, List.set_cons_zero, List.set_cons_succ, i64_w, i32_w]
rfl
)
refine pure_ (i := 17) (N := some 92) (v := undef) (a' := ?_) #[T,T,T,T,T,T,T,T,T,T,T,T,T,T,T,T,T,T,F,F,F,F,F,F,F,F,F,F,F,F,F,F,F,F] rfl rfl (any_of HT_.out (by kernel_rfl)) (fun _ _ _ h => h) (Or.inr ⟨by rfl, rfl⟩) ?_ ?_
rotate_left
·(
simp only [Act.put, List.setIfInBounds_toArray, List.set_cons_zero, List.set_cons_succ, i64_w, i32_w]
rfl
)
refine pure_ (i := 18) (N := some 93) (v := ?_) (a' := ?_) #[T,T,T,T,T,T,T,T,T,T,T,T,T,T,T,T,T,T,T,F,F,F,F,F,F,F,F,F,F,F,F,F,F,F] rfl rfl (any_of HT_.out (by kernel_rfl)) (fun _ _ _ h => h) (Or.inl ⟨by rfl, ?_⟩) ?_ ?_
rotate_left
·(
intro w'
go_simp
with_reducible rfl
)
rotate_left
·(
simp only [Act.put, List.setIfInBounds_toArray, List.set_cons_zero, List.set_cons_succ, i64_w, i32_w]
rfl
)
refine pure_ (i := 19) (N := some 94) (v := ?_) (a' := ?_) #[T,T,T,T,T,T,T,T,T,T,T,T,T,T,T,T,T,T,T,T,F,F,F,F,F,F,F,F,F,F,F,F,F,F] rfl rfl (any_of HT_.out (by kernel_rfl)) (fun _ _ _ h => h) (Or.inl ⟨by rfl, ?_⟩) ?_ ?_
rotate_left
·(
intro w'
go_simp
with_reducible rfl
)
rotate_left
·(
simp only [Act.put, List.setIfInBounds_toArray, List.set_cons_zero, List.set_cons_succ, i64_w, i32_w]
rfl
)
refine pure_ (i := 20) (N := some 95) (v := undef) (a' := ?_) #[T,T,T,T,T,T,T,T,T,T,T,T,T,T,T,T,T,T,T,T,T,F,F,F,F,F,F,F,F,F,F,F,F,F] rfl rfl (any_of HT_.out (by kernel_rfl)) (fun _ _ _ h => h) (Or.inr ⟨by rfl, rfl⟩) ?_ ?_
rotate_left
·(
simp only [Act.put, List.setIfInBounds_toArray, List.set_cons_zero, List.set_cons_succ, i64_w, i32_w]
rfl
)
refine pure_ (i := 21) (N := some 96) (v := undef) (a' := ?_) #[T,T,T,T,T,T,T,T,T,T,T,T,T,T,T,T,T,T,T,T,T,T,F,F,F,F,F,F,F,F,F,F,F,F] rfl rfl (any_of HT_.out (by kernel_rfl)) (fun _ _ _ h => h) (Or.inr ⟨by rfl, rfl⟩) ?_ ?_
rotate_left
·(
simp only [Act.put, List.setIfInBounds_toArray, List.set_cons_zero, List.set_cons_succ, i64_w, i32_w]
rfl
)
refine pure_ (i := 22) (N := some 97) (v := undef) (a' := ?_) #[T,T,T,T,T,T,T,T,T,T,T,T,T,T,T,T,T,T,T,T,T,T,T,F,F,F,F,F,F,F,F,F,F,F] rfl rfl (any_of HT_.out (by kernel_rfl)) (fun _ _ _ h => h) (Or.inr ⟨by rfl, rfl⟩) ?_ ?_
rotate_left
·(
simp only [Act.put, List.setIfInBounds_toArray, List.set_cons_zero, List.set_cons_succ, i64_w, i32_w]
rfl
)
refine pure_ (i := 23) (N := some 98) (v := ?_) (a' := ?_) #[T,T,T,T,T,T,T,T,T,T,T,T,T,T,T,T,T,T,T,T,T,T,T,T,F,F,F,F,F,F,F,F,F,F] rfl rfl (any_of HT_.out (by kernel_rfl)) (fun _ _ _ h => h) (Or.inl ⟨by rfl, ?_⟩) ?_ ?_
rotate_left
·(
intro w'
go_simp
with_reducible rfl
)
rotate_left
·(
simp only [Act.put, List.setIfInBounds_toArray, List.set_cons_zero, List.set_cons_succ, i64_w, i32_w]
rfl
)
refine pure_ (i := 24) (N := some 99) (v := ?_) (a' := ?_) #[T,T,T,T,T,T,T,T,T,T,T,T,T,T,T,T,T,T,T,T,T,T,T,T,T,F,F,F,F,F,F,F,F,F] rfl rfl (any_of HT_.out (by kernel_rfl)) (fun _ _ _ h => h) (Or.inl ⟨by rfl, ?_⟩) ?_ ?_
rotate_left
·(
intro w'
go_simp
with_reducible rfl
)
rotate_left
·(
simp only [Act.put, List.setIfInBounds_toArray, List.set_cons_zero, List.set_cons_succ, i64_w, i32_w]
rfl
)
refine pure_ (i := 25) (N := some 100) (v := undef) (a' := ?_) #[T,T,T,T,T,T,T,T,T,T,T,T,T,T,T,T,T,T,T,T,T,T,T,T,T,T,F,F,F,F,F,F,F,F] rfl rfl (any_of HT_.out (by kernel_rfl)) (fun _ _ _ h => h) (Or.inr ⟨by rfl, rfl⟩) ?_ ?_
rotate_left
·(
simp only [Act.put, List.setIfInBounds_toArray, List.set_cons_zero, List.set_cons_succ, i64_w, i32_w]
rfl
)
refine pure_ (i := 26) (N := some 101) (v := undef) (a' := ?_) #[T,T,T,T,T,T,T,T,T,T,T,T,T,T,T,T,T,T,T,T,T,T,T,T,T,T,T,F,F,F,F,F,F,F] rfl rfl (any_of HT_.out (by kernel_rfl)) (fun _ _ _ h => h) (Or.inr ⟨by rfl, rfl⟩) ?_ ?_
rotate_left
·(
simp only [Act.put, List.setIfInBounds_toArray, List.set_cons_zero, List.set_cons_succ, i64_w, i32_w]
rfl
)
refine pure_ (i := 27) (N := some 102) (v := undef) (a' := ?_) #[T,T,T,T,T,T,T,T,T,T,T,T,T,T,T,T,T,T,T,T,T,T,T,T,T,T,T,T,F,F,F,F,F,F] rfl rfl (any_of HT_.out (by kernel_rfl)) (fun _ _ _ h => h) (Or.inr ⟨by rfl, rfl⟩) ?_ ?_
rotate_left
·(
simp only [Act.put, List.setIfInBounds_toArray, List.set_cons_zero, List.set_cons_succ, i64_w, i32_w]
rfl
)
refine pure_ (i := 28) (N := some 103) (v := ?_) (a' := ?_) #[T,T,T,T,T,T,T,T,T,T,T,T,T,T,T,T,T,T,T,T,T,T,T,T,T,T,T,T,T,F,F,F,F,F] rfl rfl (any_of HT_.out (by kernel_rfl)) (fun _ _ _ h => h) (Or.inl ⟨by rfl, ?_⟩) ?_ ?_
rotate_left
·(
intro w'
go_simp
with_reducible rfl
)
rotate_left
·(
simp only [Act.put, List.setIfInBounds_toArray, List.set_cons_zero, List.set_cons_succ, i64_w, i32_w]
rfl
)
refine pure_ (i := 29) (N := some 104) (v := ?_) (a' := ?_) #[T,T,T,T,T,T,T,T,T,T,T,T,T,T,T,T,T,T,T,T,T,T,T,T,T,T,T,T,T,T,F,F,F,F] rfl rfl (any_of HT_.out (by kernel_rfl)) (fun _ _ _ h => h) (Or.inl ⟨by rfl, ?_⟩) ?_ ?_
rotate_left
·(
intro w'
go_simp
with_reducible rfl
)
rotate_left
·(
simp only [Act.put, List.setIfInBounds_toArray, List.set_cons_zero, List.set_cons_succ, i64_w, i32_w]
rfl
)
refine pure_ (i := 30) (N := some 105) (v := undef) (a' := ?_) #[T,T,T,T,T,T,T,T,T,T,T,T,T,T,T,T,T,T,T,T,T,T,T,T,T,T,T,T,T,T,T,F,F,F] rfl rfl (any_of HT_.out (by kernel_rfl)) (fun _ _ _ h => h) (Or.inr ⟨by rfl, rfl⟩) ?_ ?_
rotate_left
·(
simp only [Act.put, List.setIfInBounds_toArray, List.set_cons_zero, List.set_cons_succ, i64_w, i32_w]
rfl
)
refine pure_ (i := 31) (N := some 106) (v := undef) (a' := ?_) #[T,T,T,T,T,T,T,T,T,T,T,T,T,T,T,T,T,T,T,T,T,T,T,T,T,T,T,T,T,T,T,T,F,F] rfl rfl (any_of HT_.out (by kernel_rfl)) (fun _ _ _ h => h) (Or.inr ⟨by rfl, rfl⟩) ?_ ?_
rotate_left
·(
simp only [Act.put, List.setIfInBounds_toArray, List.set_cons_zero, List.set_cons_succ, i64_w, i32_w]
rfl
)
refine pure_ (i := 32) (N := some 107) (v := undef) (a' := ?_) #[T,T,T,T,T,T,T,T,T,T,T,T,T,T,T,T,T,T,T,T,T,T,T,T,T,T,T,T,T,T,T,T,T,F] rfl rfl (any_of HT_.out (by kernel_rfl)) (fun _ _ _ h => h) (Or.inr ⟨by rfl, rfl⟩) ?_ ?_
rotate_left
·(
simp only [Act.put, List.setIfInBounds_toArray, List.set_cons_zero, List.set_cons_succ, i64_w, i32_w]
rfl
)
refine pure_ (i := 33) (N := some 108) (v := ?_) (a' := ?_) #[T,T,T,T,T,T,T,T,T,T,T,T,T,T,T,T,T,T,T,T,T,T,T,T,T,T,T,T,T,T,T,T,T,T] rfl rfl (any_of HT_.out (by kernel_rfl)) (fun _ _ _ h => h) (Or.inl ⟨by rfl, ?_⟩) ?_ ?_
rotate_left
·(
intro w'
go_simp
with_reducible rfl
)
rotate_left
·(
simp only [Act.put, List.setIfInBounds_toArray, List.set_cons_zero, List.set_cons_succ, i64_w, i32_w]
rfl
)
refine done_ (done_of HT_.out (by kernel_rfl)) ?_
try go_wp2
go_ret
exact ⟨by first | rfl | (simp [errW_none, errW_some] <;> rfl) | (simp [*, errW_none, errW_some] <;> rfl), by repeat (first | (with_reducible first | exact HB.out | apply below_alloc | apply pw_below_drewN | apply below_drew1 | refine below_set ?_ GE142.out | refine below_set ?_ GE150.out) | exact HB.out)⟩
)
·(
rw [if_neg c34] at H
have c34b0 : decide (0 ≤ t156) = false := decide_eq_false c34
clear c34
by_cases c42 : ((rd_T65 l0_7 x5_3).f1) < 1
·(
rw [if_pos c42] at H
have c42b0 : decide (((rd_T65 l0_7 x5_3).f1) < 1) = true := decide_eq_true c42
clear c42
obtain rfl := Option.some.inj H
have hcz43_0 : wr.cell? ⟨gb142, 0, none⟩ = some (.string a0_0) := (blk_cell BK142.out 0).trans rfl
have hcz43_1 : wr.cell? ⟨gb142, 1, none⟩ = some (.string a0_1) := (blk_cell BK142.out 1).trans rfl
have hcz43_2 : wr.cell? ⟨gb142, 2, none⟩ = some (.string a0_2) := (blk_cell BK142.out 2).trans rfl
have hcz43_3 : wr.cell? ⟨gb142, 3, none⟩ = some (.string a0_3) := (blk_cell BK142.out 3).trans rfl
have hcz43_4 : wr.cell? ⟨gb142, 4, none⟩ = some (.string a0_4) := (blk_cell BK142.out 4).trans rfl
have hcz43_5 : wr.cell? ⟨gb142, 5, none⟩ = some (.string a0_5) := (blk_cell BK142.out 5).trans rfl
have hcz43_6 : wr.cell? ⟨gb142, 6, none⟩ = some (.int .i64 a0_6) := (blk_cell BK142.out 6).trans rfl
have hcz43_7 : wr.cell? ⟨gb142, 7, none⟩ = some (.slice A0_7 l0_7.length c0_7) := (blk_cell BK142.out 7).trans rfl
have hfz43_0 := blk_frozen BK142.out 0
have hfz43_1 := blk_frozen BK142.out 1
have hfz43_2 := blk_frozen BK142.out 2
have hfz43_3 := blk_frozen BK142.out 3
have hfz43_4 := blk_frozen BK142.out 4
have hfz43_5 := blk_frozen BK142.out 5
have hfz43_6 := blk_frozen BK142.out 6
have hfz43_7 := blk_frozen BK142.out 7
have p149 : 0 ≤ (x5_3 : Int) := of_decide_eq_true (by first | (with_reducible assumption) | assumption)
have q149 : x5_3 < (l0_7.length : Int) := of_decide_eq_true (by first | (with_reducible assumption) | assumption)
obtain ⟨ad149, e149, hx149_0, hx149_1, hx149_2⟩ := at_T65 HR0_7.out x5_3 p149 q149
cases e149
replace hx149_0 := (HB.out.cell (World.block_lt_of_cell? w _ hx149_0)).trans hx149_0
replace hx149_1 := (HB.out.cell (World.block_lt_of_cell? w _ hx149_1)).trans hx149_1
replace hx149_2 := (HB.out.cell (World.block_lt_of_cell? w _ hx149_2)).trans hx149_2
replace p149 := eq_true p149
replace q149 := eq_true q149
try go_wp2_with (first | ((with_reducible refine gate_dst (N := 6) rfl ?_); (try (refine gate_guard (by rfl) ?_; dsimp only)); refine box_event ?hg (N := 6) ?hd (cs := #[.string (⟨#[]⟩ : ByteArray), .int .i64 0, .int .i64 0]) (t := 65) ?hr ?_; (case hd => rfl); (case hg => rfl); (case hr => first | (go_simp; done) | (go_simp; rfl)); intro gb150 hg w44 hbox hb; have n0_ := Aside0.mk (blk_below (g := gb142) (o := .cells #[.string a0_0, .string a0_1, .string a0_2, .string a0_3, .string a0_4, .string a0_5, .int .i64 a0_6, .slice (some ad149) l0_7.length c0_7] 24 (0, 0)) (by (with_reducible repeat (first | refine blk_drewN ?_ _ | refine blk_drew ?_ | refine blk_alloc ?_ _)); exact BK142.out) hb); have n1_ := Aside0.mk (below_step (by repeat (first | (with_reducible first | exact HB.out | apply below_alloc | apply pw_below_drewN | apply below_drew1 | refine below_set ?_ GE142.out) | exact HB.out)) hb); have n2_ := Aside0.mk (hbox); have n3_ := Aside0.mk ((by rw [hg]; exact (below_size (by repeat (first | (with_reducible first | exact HB.out | apply below_alloc | apply pw_below_drewN | apply below_drew1 | refine below_set ?_ GE142.out) | exact HB.out))) : w.heap.size ≤ gb150)); have n4_ := Aside0.mk ((by rw [hg]; exact (below_size (by repeat (first | (with_reducible first | exact HB.out | apply below_alloc | apply pw_below_drewN | apply below_drew1 | refine below_set ?_ GE142.out) | exact HB.out))) : w.heap.size ≤ gb150)); have n5_ := Aside0.mk ((by rw [hg]; exact Nat.ne_of_lt (blk_lt (g := gb142) (o := .cells #[.string a0_0, .string a0_1, .string a0_2, .string a0_3, .string a0_4, .string a0_5, .int .i64 a0_6, .slice (some ad149) l0_7.length c0_7] 24 (0, 0)) (by (with_reducible repeat (first | refine blk_drewN ?_ _ | refine blk_drew ?_ | refine blk_alloc ?_ _)); exact BK142.out)) : gb142 ≠ gb150)); have n6_ := Aside0.mk ((by rw [hg]; exact Nat.ne_of_gt (blk_lt (g := gb142) (o := .cells #[.string a0_0, .string a0_1, .string a0_2, .string a0_3, .string a0_4, .string a0_5, .int .i64 a0_6, .slice (some ad149) l0_7.length c0_7] 24 (0, 0)) (by (with_reducible repeat (first | refine blk_drewN ?_ _ | refine blk_drew ?_ | refine blk_alloc ?_ _)); exact BK142.out)) : gb150 ≠ gb142)); clear BK142; clear HB; have BK142 := n0_; have HB := n1_; have BK150 := n2_; have GW150 := n3_; have GE150 := n4_; have NB142_150 := n5_; have NB150_142 := n6_; clear n0_ n1_ n2_ n3_ n4_ n5_ n6_; clear hb hbox hg; have hnb45 := NB150_142.out; have hnc45 := NB142_150.out; have hcz46_0 : w44.cell? ⟨gb150, 0, none⟩ = some (.string (⟨#[]⟩ : ByteArray)) := (blk_cell BK150.out 0).trans rfl; have hcz46_1 : w44.cell? ⟨gb150, 1, none⟩ = some (.int .i64 0) := (blk_cell BK150.out 1).trans rfl; have hcz46_2 : w44.cell? ⟨gb150, 2, none⟩ = some (.int .i64 0) := (blk_cell BK150.out 2).trans rfl; have hfz46_0 := blk_frozen BK150.out 0; have hfz46_1 := blk_frozen BK150.out 1; have hfz46_2 := blk_frozen BK150.out 2))
have n0_ : Aside0 ((((w44.setCell ⟨gb150, 0, none⟩ (.string ((rd_T65 l0_7 x5_3).f0))).setCell ⟨gb150, 1, none⟩ (.int .i64 ((rd_T65 l0_7 x5_3).f1))).setCell ⟨gb150, 2, none⟩ (.int .i64 ((rd_T65 l0_7 x5_3).f2))).heap[gb142]? = some (.cells #[.string a0_0, .string a0_1, .string a0_2, .string a0_3, .string a0_4, .string a0_5, .int .i64 a0_6, .slice (some ad149) l0_7.length c0_7] 24 (0, 0))) := ⟨by (with_reducible repeat (first | refine blk_drewN ?_ _ | refine blk_drew ?_ | refine blk_alloc ?_ _)); refine blk_far ?_ NB142_150.out _; (with_reducible repeat (first | refine blk_drewN ?_ _ | refine blk_drew ?_ | refine blk_alloc ?_ _)); refine blk_far ?_ NB142_150.out _; (with_reducible repeat (first | refine blk_drewN ?_ _ | refine blk_drew ?_ | refine blk_alloc ?_ _)); refine blk_far ?_ NB142_150.out _; (with_reducible repeat (first | refine blk_drewN ?_ _ | refine blk_drew ?_ | refine blk_alloc ?_ _)); exact BK142.out⟩
have n1_ : Aside0 ((((w44.setCell ⟨gb150, 0, none⟩ (.string ((rd_T65 l0_7 x5_3).f0))).setCell ⟨gb150, 1, none⟩ (.int .i64 ((rd_T65 l0_7 x5_3).f1))).setCell ⟨gb150, 2, none⟩ (.int .i64 ((rd_T65 l0_7 x5_3).f2))).heap[gb150]? = some (.cells #[.string ((rd_T65 l0_7 x5_3).f0), .int .i64 ((rd_T65 l0_7 x5_3).f1), .int .i64 ((rd_T65 l0_7 x5_3).f2)] 65 (0, 0))) := ⟨by (with_reducible repeat (first | refine blk_drewN ?_ _ | refine blk_drew ?_ | refine blk_alloc ?_ _)); refine blk_put (cs := #[.string ((rd_T65 l0_7 x5_3).f0), .int .i64 ((rd_T65 l0_7 x5_3).f1), .int .i64 0]) ?_ 2 _ rfl; (with_reducible repeat (first | refine blk_drewN ?_ _ | refine blk_drew ?_ | refine blk_alloc ?_ _)); refine blk_put (cs := #[.string ((rd_T65 l0_7 x5_3).f0), .int .i64 0, .int .i64 0]) ?_ 1 _ rfl; (with_reducible repeat (first | refine blk_drewN ?_ _ | refine blk_drew ?_ | refine blk_alloc ?_ _)); refine blk_put (cs := #[.string (⟨#[]⟩ : ByteArray), .int .i64 0, .int .i64 0]) ?_ 0 _ rfl; (with_reducible repeat (first | refine blk_drewN ?_ _ | refine blk_drew ?_ | refine blk_alloc ?_ _)); exact BK150.out⟩
have n2_ : Aside0 (Below w.heap.size w (((w44.setCell ⟨gb150, 0, none⟩ (.string ((rd_T65 l0_7 x5_3).f0))).setCell ⟨gb150, 1, none⟩ (.int .i64 ((rd_T65 l0_7 x5_3).f1))).setCell ⟨gb150, 2, none⟩ (.int .i64 ((rd_T65 l0_7 x5_3).f2)))) := ⟨by repeat (first | (with_reducible first | exact HB.out | apply below_alloc | apply pw_below_drewN | apply below_drew1 | refine below_set ?_ GE142.out | refine below_set ?_ GE150.out) | exact HB.out)⟩
(try clear BK142)
(try clear BK150)
(try clear HB)
generalize (((w44.setCell ⟨gb150, 0, none⟩ (.string ((rd_T65 l0_7 x5_3).f0))).setCell ⟨gb150, 1, none⟩ (.int .i64 ((rd_T65 l0_7 x5_3).f1))).setCell ⟨gb150, 2, none⟩ (.int .i64 ((rd_T65 l0_7 x5_3).f2))) = w47 at n0_ n1_ n2_ ⊢
have BK142 := n0_
have BK150 := n1_
have HB := n2_
clear n0_ n1_ n2_
have n0_ := Aside0.mk (blk_drew BK142.out)
have n1_ := Aside0.mk (blk_drew BK150.out)
have n2_ := Aside0.mk (below_drew1 HB.out)
clear BK142
clear BK150
clear HB
have BK142 := n0_
have BK150 := n1_
have HB := n2_
clear n0_ n1_ n2_
refine start_ (n := 34) (S := fun w' => w'.cell? ⟨gb150, 0, none⟩ = some (.string ((rd_T65 l0_7 x5_3).f0)) ∧ w'.cell? ⟨gb150, 1, none⟩ = some (.int .i64 ((rd_T65 l0_7 x5_3).f1)) ∧ w'.cell? ⟨gb150, 2, none⟩ = some (.int .i64 ((rd_T65 l0_7 x5_3).f2)) ∧ w'.cell? ⟨gb142, 0, none⟩ = some (.string a0_0) ∧ w'.cell? ⟨gb142, 1, none⟩ = some (.string a0_1) ∧ w'.cell? ⟨gb142, 2, none⟩ = some (.string a0_2) ∧ w'.cell? ⟨gb142, 3, none⟩ = some (.string a0_3) ∧ w'.cell? ⟨gb142, 4, none⟩ = some (.string a0_4) ∧ w'.cell? ⟨gb142, 5, none⟩ = some (.string a0_5) ∧ w'.cell? ⟨gb142, 6, none⟩ = some (.int .i64 a0_6) ∧ w'.cell? ⟨gb142, 7, none⟩ = some (.slice (some ad149) l0_7.length c0_7)) (ds := []) #[F,F,F,F,F,F,F,F,F,F,F,F,F,F,F,F,F,F,F,F,F,F,F,F,F,F,F,F,F,F,F,F,F,F] (by kernel_rfl) rfl rfl ⟨(blk_cell BK150.out 0).trans rfl, (blk_cell BK150.out 1).trans rfl, (blk_cell BK150.out 2).trans rfl, (blk_cell BK142.out 0).trans rfl, (blk_cell BK142.out 1).trans rfl, (blk_cell BK142.out 2).trans rfl, (blk_cell BK142.out 3).trans rfl, (blk_cell BK142.out 4).trans rfl, (blk_cell BK142.out 5).trans rfl, (blk_cell BK142.out 6).trans rfl, (blk_cell BK142.out 7).trans rfl⟩ (fun hHeld => ?_); refine with_tabW sr19_May.tab13 sr19_May.bits13 (fun HT_ HW_ => ?_)
generalize w47.drew = w48 at BK142 BK150 HB hHeld ⊢
refine pure_ (i := 0) (N := some 75) (v := ?_) (a' := ?_) #[T,F,F,F,F,F,F,F,F,F,F,F,F,F,F,F,F,F,F,F,F,F,F,F,F,F,F,F,F,F,F,F,F,F] rfl rfl (any_of HT_.out (by kernel_rfl)) (fun _ _ _ h => h) (Or.inl ⟨by rfl, ?_⟩) ?_ ?_
rotate_left
·(
intro w'
go_simp
with_reducible rfl
)
rotate_left
·(
simp only [Act.put, List.setIfInBounds_toArray, List.set_cons_zero, List.set_cons_succ, i64_w, i32_w]
rfl
)
refine take_ (i := 1) (N := some 76) (v := ?_) (a' := ?_) #[T,T,F,F,F,F,F,F,F,F,F,F,F,F,F,F,F,F,F,F,F,F,F,F,F,F,F,F,F,F,F,F,F,F] rfl rfl (take_ofW HT_.out HW_.out (by kernel_rfl)) (fun _ _ _ h => h) (Or.inl ⟨by rfl, ?_⟩) hHeld ?_ ?_
rotate_left
·(
rintro w' ⟨s0, s1, s2, s3, s4, s5, s6, s7, s8, s9, s10⟩
go_simp
with_reducible rfl
)
rotate_left
·(
simp only [Act.put, List.setIfInBounds_toArray, List.set_cons_zero, List.set_cons_succ, i64_w, i32_w]
rfl
)
refine one_ (i := 2) (N := some 77) #[T,T,T,F,F,F,F,F,F,F,F,F,F,F,F,F,F,F,F,F,F,F,F,F,F,F,F,F,F,F,F,F,F,F] rfl rfl (one_of HT_.out (by kernel_rfl)) (by decide) (fun K hK => ?_)
refine goes_ Try.func39 (by kernel_rfl) rfl #[.string ((rd_T65 l0_7 x5_3).f0)] (by rfl) rfl rfl (by (try simp only [List.map_toArray, List.map_cons, List.map_nil]); first | done | rfl | (simp only [List.length_drop, List.length_take]; rfl)) ?_
with_reducible refine (sr03_Name.calls k3 ((rd_T65 l0_7 x5_3).f0) true _ A29.out).mono ?_
rintro e w' ⟨rfl, ⟨nd, rfl⟩⟩
refine ⟨_, rfl, ?_⟩
have q49 : (x5_3 : Int) ≤ ((l0_7.length : Int) : Int) := of_decide_eq_true (by first | (with_reducible assumption) | assumption)
obtain ⟨i049, hi049, _, hsz49, _⟩ := info_parts info65
have hroom49 : l0_7.length ≤ c0_7 := HC0_7.out
have hC49 : Kd.C k65 _ (some ad149) l0_7.length l0_7 := HR0_7.out
have hcut49 := cut_to (P := Try.prog) 22 65 .i64 Try.underlying22 hi049 (some ad149) l0_7.length c0_7 x5_3 (of_decide_eq_true (by first | (with_reducible assumption) | assumption)) q49 hroom49
have hr49 := Kd.C_take (m := (x5_3 : Int).toNat) hC49 (by omega)
have hy49 : y152.length = (x5_3 : Int).toNat := (by rw [Ny152.out, List.length_take]; omega)
rw [← Ny152.out] at hr49
rw [← hy49] at hcut49
have HR155 := Aside0.mk hr49
have HC155 := Aside0.mk (show y152.length ≤ c0_7 from by omega)
clear hr49 hC49 hroom49 hi049 hsz49
have KY49 := Aside0.mk hy49
clear hy49
replace q49 := eq_true q49
refine hK.out _ _ ⟨(blk_cell BK150.out 0).trans rfl, (blk_cell BK150.out 1).trans rfl, (blk_cell BK150.out 2).trans rfl, (blk_cell BK142.out 0).trans rfl, (blk_cell BK142.out 1).trans rfl, (blk_cell BK142.out 2).trans rfl, (blk_cell BK142.out 3).trans rfl, (blk_cell BK142.out 4).trans rfl, (blk_cell BK142.out 5).trans rfl, (blk_cell BK142.out 6).trans rfl, (blk_cell BK142.out 7).trans rfl⟩ (fun hHeld => ?_)
clear hK K
refine norm_ (a' := ?_) ?_ ?_
rotate_left
·(
show Act.put _ (some 77) _ = _
simp only [Act.put, List.setIfInBounds_toArray, List.set_cons_zero, List.set_cons_succ, i64_w, i32_w]
rfl
)
refine pure_ (i := 3) (N := some 78) (v := ?_) (a' := ?_) #[T,T,T,T,F,F,F,F,F,F,F,F,F,F,F,F,F,F,F,F,F,F,F,F,F,F,F,F,F,F,F,F,F,F] rfl rfl (any_of HT_.out (by kernel_rfl)) (fun _ _ _ h => h) (Or.inl ⟨by rfl, ?_⟩) ?_ ?_
rotate_left
·(
intro w'
go_simp
with_reducible rfl
)
rotate_left
·(
simp only [Act.put, List.setIfInBounds_toArray, List.set_cons_zero, List.set_cons_succ, i64_w, i32_w]
rfl
)
refine pure_ (i := 4) (N := some 79) (v := ?_) (a' := ?_) #[T,T,T,T,T,F,F,F,F,F,F,F,F,F,F,F,F,F,F,F,F,F,F,F,F,F,F,F,F,F,F,F,F,F] rfl rfl (any_of HT_.out (by kernel_rfl)) (fun _ _ _ h => h) (Or.inl ⟨by rfl, ?_⟩) ?_ ?_
rotate_left
·(
intro w'
go_simp
with_reducible rfl
)
rotate_left
·(
simp only [Act.put, List.setIfInBounds_toArray, List.set_cons_zero, List.set_cons_succ, i64_w, i32_w]
rfl
)
refine pure_ (i := 5) (N := some 80) (v := ?_) (a' := ?_) #[T,T,T,T,T,T,F,F,F,F,F,F,F,F,F,F,F,F,F,F,F,F,F,F,F,F,F,F,F,F,F,F,F,F] rfl rfl (any_of HT_.out (by kernel_rfl)) (fun _ _ _ h => h) (Or.inl ⟨by rfl, ?_⟩) ?_ ?_
rotate_left
·(
intro w'
go_simp
with_reducible rfl
)
rotate_left
·(
simp only [Act.put, List.setIfInBounds_toArray, List.set_cons_zero, List.set_cons_succ, i64_w, i32_w]
rfl
)
refine pure_ (i := 7) (N := some 82) (v := ?_) (a' := ?_) #[T,T,T,T,T,T,F,T,F,F,F,F,F,F,F,F,F,F,F,F,F,F,F,F,F,F,F,F,F,F,F,F,F,F] rfl rfl (any_of HT_.out (by kernel_rfl)) (fun _ _ _ h => h) (Or.inl ⟨by rfl, ?_⟩) ?_ ?_
rotate_left
·(
intro w'
go_simp
with_reducible rfl
)
rotate_left
·(
simp only [Act.put, List.setIfInBounds_toArray, List.set_cons_zero, List.set_cons_succ, i64_w, i32_w]
rfl
)
refine pure_ (i := 9) (N := some 84) (v := ?_) (a' := ?_) #[T,T,T,T,T,T,F,T,F,T,F,F,F,F,F,F,F,F,F,F,F,F,F,F,F,F,F,F,F,F,F,F,F,F] rfl rfl (any_of HT_.out (by kernel_rfl)) (fun _ _ _ h => h) (Or.inl ⟨by rfl, ?_⟩) ?_ ?_
rotate_left
·(
intro w'
go_simp
with_reducible rfl
)
rotate_left
·(
simp only [Act.put, List.setIfInBounds_toArray, List.set_cons_zero, List.set_cons_succ, i64_w, i32_w]
rfl
)
refine take_ (i := 6) (N := some 81) (v := ?_) (a' := ?_) #[T,T,T,T,T,T,T,T,F,T,F,F,F,F,F,F,F,F,F,F,F,F,F,F,F,F,F,F,F,F,F,F,F,F] rfl rfl (take_ofW HT_.out HW_.out (by kernel_rfl)) (fun _ _ _ h => h) (Or.inl ⟨by rfl, ?_⟩) hHeld ?_ ?_
rotate_left
·(
rintro w' ⟨s0, s1, s2, s3, s4, s5, s6, s7, s8, s9, s10⟩
go_simp
with_reducible rfl
)
rotate_left
·(
simp only [Act.put, List.setIfInBounds_toArray, List.set_cons_zero, List.set_cons_succ, i64_w, i32_w]
rfl
)
refine pure_ (i := 8) (N := some 83) (v := ?_) (a' := ?_) #[T,T,T,T,T,T,T,T,T,T,F,F,F,F,F,F,F,F,F,F,F,F,F,F,F,F,F,F,F,F,F,F,F,F] rfl rfl (any_of HT_.out (by kernel_rfl)) (fun _ _ _ h => h) (Or.inl ⟨by rfl, ?_⟩) ?_ ?_
rotate_left
·(
intro w'
go_simp
with_reducible rfl
)
rotate_left
·(
simp only [Act.put, List.setIfInBounds_toArray, List.set_cons_zero, List.set_cons_succ, i64_w, i32_w]
rfl
)
refine take_ (i := 10) (N := some 85) (v := ?_) (a' := ?_) #[T,T,T,T,T,T,T,T,T,T,T,F,F,F,F,F,F,F,F,F,F,F,F,F,F,F,F,F,F,F,F,F,F,F] rfl rfl (take_ofW HT_.out HW_.out (by kernel_rfl)) (fun _ _ _ h => h) (Or.inl ⟨by rfl, ?_⟩) hHeld ?_ ?_
rotate_left
·(
rintro w' ⟨s0, s1, s2, s3, s4, s5, s6, s7, s8, s9, s10⟩
go_simp
with_reducible rfl
)
rotate_left
·(
simp only [Act.put, List.setIfInBounds_toArray, List.set_cons_zero, List.set_cons_succ, i64_w, i32_w]
rfl
)
refine one_ (i := 11) (N := some 86) #[T,T,T,T,T,T,T,T,T,T,T,T,F,F,F,F,F,F,F,F,F,F,F,F,F,F,F,F,F,F,F,F,F,F] rfl rfl (one_of HT_.out (by kernel_rfl)) (by decide) (fun K hK => ?_)
refine goes_ Try.func41 (by kernel_rfl) rfl #[.slice (some ad149) y152.length c0_7, .string ((rd_T65 l0_7 x5_3).f0)] (by rfl) rfl rfl (by (try simp only [List.map_toArray, List.map_cons, List.map_nil]); first | done | rfl | (simp only [List.length_drop, List.length_take]; rfl)) ?_
with_reducible refine (sr19_Find.calls k3 _ _ y152 ((rd_T65 l0_7 x5_3).f0) t156 _ ?side1 ?side2 A33.out).mono ?_
(case side1 => repeat (first | exact (Kd.C_below HR155.out (by repeat (first | (with_reducible first | exact HB.out | apply below_alloc | apply pw_below_drewN | apply below_drew1 | refine below_set ?_ GE142.out | refine below_set ?_ GE150.out) | exact HB.out))) | (with_reducible refine Kd.C_alloc ?_ _) | (with_reducible refine Kd.C_drewN ?_ _) | (with_reducible refine Kd.C_drew ?_)))
(case side2 => exact HC155.out)
rintro e w' ⟨rfl, ⟨nd, rfl⟩⟩
refine ⟨_, rfl, ?_⟩
refine hK.out _ _ ⟨(blk_cell BK150.out 0).trans rfl, (blk_cell BK150.out 1).trans rfl, (blk_cell BK150.out 2).trans rfl, (blk_cell BK142.out 0).trans rfl, (blk_cell BK142.out 1).trans rfl, (blk_cell BK142.out 2).trans rfl, (blk_cell BK142.out 3).trans rfl, (blk_cell BK142.out 4).trans rfl, (blk_cell BK142.out 5).trans rfl, (blk_cell BK142.out 6).trans rfl, (blk_cell BK142.out 7).trans rfl⟩ (fun hHeld => ?_)
clear hK K
refine norm_ (a' := ?_) ?_ ?_
rotate_left
·(
show Act.put _ (some 86) _ = _
simp only [Act.put, List.setIfInBounds_toArray, List.set_cons_zero, List.set_cons_succ, i64_w, i32_w]
rfl
)
refine pure_ (i := 12) (N := some 87) (v := ?_) (a' := ?_) #[T,T,T,T,T,T,T,T,T,T,T,T,T,F,F,F,F,F,F,F,F,F,F,F,F,F,F,F,F,F,F,F,F,F] rfl rfl (any_of HT_.out (by kernel_rfl)) (fun _ _ _ h => h) (Or.inl ⟨by rfl, ?_⟩) ?_ ?_
rotate_left
·(
intro w'
go_simp
with_reducible rfl
)
rotate_left
·(
simp only [Act.put, List.setIfInBounds_toArray, List.set_cons_zero, List.set_cons_succ, i64_w, i32_w]
rfl
)
refine pure_ (i := 13) (N := some 88) (v := ?_) (a' := ?_) #[T,T,T,T,T,T,T,T,T,T,T,T,T,T,F,F,F,F,F,F,F,F,F,F,F,F,F,F,F,F,F,F,F,F] rfl rfl (any_of HT_.out (by kernel_rfl)) (fun _ _ _ h => h) (Or.inl ⟨by rfl, ?_⟩) ?_ ?_
rotate_left
·(
intro w'
go_simp
with_reducible rfl
)
rotate_left
·(
simp only [Act.put, List.setIfInBounds_toArray, List.set_cons_zero, List.set_cons_succ, i64_w, i32_w]
rfl
)
refine pure_ (i := 14) (N := some 89) (v := ?_) (a' := ?_) #[T,T,T,T,T,T,T,T,T,T,T,T,T,T,T,F,F,F,F,F,F,F,F,F,F,F,F,F,F,F,F,F,F,F] rfl rfl (any_of HT_.out (by kernel_rfl)) (fun _ _ _ h => h) (Or.inl ⟨by rfl, ?_⟩) ?_ ?_
rotate_left
·(
intro w'
go_simp
with_reducible rfl
)
rotate_left
·(
simp only [Act.put, List.setIfInBounds_toArray, List.set_cons_zero, List.set_cons_succ, i64_w, i32_w]
rfl
)
refine pure_ (i := 15) (N := some 90) (v := ?_) (a' := ?_) #[T,T,T,T,T,T,T,T,T,T,T,T,T,T,T,T,F,F,F,F,F,F,F,F,F,F,F,F,F,F,F,F,F,F] rfl rfl (any_of HT_.out (by kernel_rfl)) (fun _ _ _ h => h) (Or.inl ⟨by rfl, ?_⟩) ?_ ?_
rotate_left
·(
intro w'
go_simp
with_reducible rfl
)
rotate_left
·(
simp only [Act.put, List.setIfInBounds_toArray, List.set_cons_zero, List.set_cons_succ, i64_w, i32_w]
rfl
)
refine take_ (i := 16) (N := some 91) (v := ?_) (a' := ?_) #[T,T,T,T,T,T,T,T,T,T,T,T,T,T,T,T,T,F,F,F,F,F,F,F,F,F,F,F,F,F,F,F,F,F] rfl rfl (take_ofW HT_.out HW_.out (by kernel_rfl)) (fun _ _ _ h => h) (Or.inl ⟨by rfl, ?_⟩) hHeld ?_ ?_
rotate_left
·(
rintro w' ⟨s0, s1, s2, s3, s4, s5, s6, s7, s8, s9, s10⟩
go_simp
with_reducible rfl
)
rotate_left
·(
simp only [Act.put, List.setIfInBounds_toArray, List.set_cons_zero, List.set_cons_succ, i64_w, i32_w]
rfl
)
refine pure_ (i := 17) (N := some 92) (v := ?_) (a' := ?_) #[T,T,T,T,T,T,T,T,T,T,T,T,T,T,T,T,T,T,F,F,F,F,F,F,F,F,F,F,F,F,F,F,F,F] rfl rfl (any_of HT_.out (by kernel_rfl)) (fun _ _ _ h => h) (Or.inl ⟨by rfl, ?_⟩) ?_ ?_
rotate_left
·(
intro w'
go_simp
with_reducible rfl
)
rotate_left
·(
simp only [Act.put, List.setIfInBounds_toArray, List.set_cons_zero, List.set_cons_succ, i64_w, i32_w]
rfl
)
refine pure_ (i := 18) (N := some 93) (v := ?_) (a' := ?_) #[T,T,T,T,T,T,T,T,T,T,T,T,T,T,T,T,T,T,T,F,F,F,F,F,F,F,F,F,F,F,F,F,F,F] rfl rfl (any_of HT_.out (by kernel_rfl)) (fun _ _ _ h => h) (Or.inl ⟨by rfl, ?_⟩) ?_ ?_
rotate_left
·(
intro w'
go_simp
with_reducible rfl
)
rotate_left
·(
simp only [Act.put, List.setIfInBounds_toArray, List.set_cons_zero, List.set_cons_succ, i64_w, i32_w]
rfl
)
refine pure_ (i := 19) (N := some 94) (v := ?_) (a' := ?_) #[T,T,T,T,T,T,T,T,T,T,T,T,T,T,T,T,T,T,T,T,F,F,F,F,F,F,F,F,F,F,F,F,F,F] rfl rfl (any_of HT_.out (by kernel_rfl)) (fun _ _ _ h => h) (Or.inl ⟨by rfl, ?_⟩) ?_ ?_
rotate_left
·(
intro w'
go_simp
with_reducible rfl
)
rotate_left
·(
simp only [Act.put, List.setIfInBounds_toArray, List.set_cons_zero, List.set_cons_succ, i64_w, i32_w]
rfl
)
refine pure_ (i := 20) (N := some 95) (v := undef) (a' := ?_) #[T,T,T,T,T,T,T,T,T,T,T,T,T,T,T,T,T,T,T,T,T,F,F,F,F,F,F,F,F,F,F,F,F,F] rfl rfl (any_of HT_.out (by kernel_rfl)) (fun _ _ _ h => h) (Or.inr ⟨by rfl, rfl⟩) ?_ ?_
rotate_left
·(
simp only [Act.put, List.setIfInBounds_toArray, List.set_cons_zero, List.set_cons_succ, i64_w, i32_w]
rfl
)
refine pure_ (i := 21) (N := some 96) (v := undef) (a' := ?_) #[T,T,T,T,T,T,T,T,T,T,T,T,T,T,T,T,T,T,T,T,T,T,F,F,F,F,F,F,F,F,F,F,F,F] rfl rfl (any_of HT_.out (by kernel_rfl)) (fun _ _ _ h => h) (Or.inr ⟨by rfl, rfl⟩) ?_ ?_
rotate_left
·(
simp only [Act.put, List.setIfInBounds_toArray, List.set_cons_zero, List.set_cons_succ, i64_w, i32_w]
rfl
)
refine pure_ (i := 22) (N := some 97) (v := undef) (a' := ?_) #[T,T,T,T,T,T,T,T,T,T,T,T,T,T,T,T,T,T,T,T,T,T,T,F,F,F,F,F,F,F,F,F,F,F] rfl rfl (any_of HT_.out (by kernel_rfl)) (fun _ _ _ h => h) (Or.inr ⟨by rfl, rfl⟩) ?_ ?_
rotate_left
·(
simp only [Act.put, List.setIfInBounds_toArray, List.set_cons_zero, List.set_cons_succ, i64_w, i32_w]
rfl
)
refine pure_ (i := 23) (N := some 98) (v := ?_) (a' := ?_) #[T,T,T,T,T,T,T,T,T,T,T,T,T,T,T,T,T,T,T,T,T,T,T,T,F,F,F,F,F,F,F,F,F,F] rfl rfl (any_of HT_.out (by kernel_rfl)) (fun _ _ _ h => h) (Or.inl ⟨by rfl, ?_⟩) ?_ ?_
rotate_left
·(
intro w'
go_simp
with_reducible rfl
)
rotate_left
·(
simp only [Act.put, List.setIfInBounds_toArray, List.set_cons_zero, List.set_cons_succ, i64_w, i32_w]
rfl
)
refine pure_ (i := 24) (N := some 99) (v := ?_) (a' := ?_) #[T,T,T,T,T,T,T,T,T,T,T,T,T,T,T,T,T,T,T,T,T,T,T,T,T,F,F,F,F,F,F,F,F,F] rfl rfl (any_of HT_.out (by kernel_rfl)) (fun _ _ _ h => h) (Or.inl ⟨by rfl, ?_⟩) ?_ ?_
rotate_left
·(
intro w'
go_simp
with_reducible rfl
)
rotate_left
·(
simp only [Act.put, List.setIfInBounds_toArray, List.set_cons_zero, List.set_cons_succ, i64_w, i32_w]
rfl
)
refine pure_ (i := 25) (N := some 100) (v := undef) (a' := ?_) #[T,T,T,T,T,T,T,T,T,T,T,T,T,T,T,T,T,T,T,T,T,T,T,T,T,T,F,F,F,F,F,F,F,F] rfl rfl (any_of HT_.out (by kernel_rfl)) (fun _ _ _ h => h) (Or.inr ⟨by rfl, rfl⟩) ?_ ?_
rotate_left
·(
simp only [Act.put, List.setIfInBounds_toArray, List.set_cons_zero, List.set_cons_succ, i64_w, i32_w]
rfl
)
refine pure_ (i := 26) (N := some 101) (v := undef) (a' := ?_) #[T,T,T,T,T,T,T,T,T,T,T,T,T,T,T,T,T,T,T,T,T,T,T,T,T,T,T,F,F,F,F,F,F,F] rfl rfl (any_of HT_.out (by kernel_rfl)) (fun _ _ _ h => h) (Or.inr ⟨by rfl, rfl⟩) ?_ ?_
rotate_left
·(
simp only [Act.put, List.setIfInBounds_toArray, List.set_cons_zero, List.set_cons_succ, i64_w, i32_w]
rfl
)
refine pure_ (i := 27) (N := some 102) (v := undef) (a' := ?_) #[T,T,T,T,T,T,T,T,T,T,T,T,T,T,T,T,T,T,T,T,T,T,T,T,T,T,T,T,F,F,F,F,F,F] rfl rfl (any_of HT_.out (by kernel_rfl)) (fun _ _ _ h => h) (Or.inr ⟨by rfl, rfl⟩) ?_ ?_
rotate_left
·(
simp only [Act.put, List.setIfInBounds_toArray, List.set_cons_zero, List.set_cons_succ, i64_w, i32_w]
rfl
)
refine pure_ (i := 28) (N := some 103) (v := ?_) (a' := ?_) #[T,T,T,T,T,T,T,T,T,T,T,T,T,T,T,T,T,T,T,T,T,T,T,T,T,T,T,T,T,F,F,F,F,F] rfl rfl (any_of HT_.out (by kernel_rfl)) (fun _ _ _ h => h) (Or.inl ⟨by rfl, ?_⟩) ?_ ?_
rotate_left
·(
intro w'
go_simp
with_reducible rfl
)
rotate_left
·(
simp only [Act.put, List.setIfInBounds_toArray, List.set_cons_zero, List.set_cons_succ, i64_w, i32_w]
rfl
)
refine pure_ (i := 29) (N := some 104) (v := ?_) (a' := ?_) #[T,T,T,T,T,T,T,T,T,T,T,T,T,T,T,T,T,T,T,T,T,T,T,T,T,T,T,T,T,T,F,F,F,F] rfl rfl (any_of HT_.out (by kernel_rfl)) (fun _ _ _ h => h) (Or.inl ⟨by rfl, ?_⟩) ?_ ?_
rotate_left
·(
intro w'
go_simp
with_reducible rfl
)
rotate_left
·(
simp only [Act.put, List.setIfInBounds_toArray, List.set_cons_zero, List.set_cons_succ, i64_w, i32_w]
rfl
)
refine pure_ (i := 30) (N := some 105) (v := undef) (a' := ?_) #[T,T,T,T,T,T,T,T,T,T,T,T,T,T,T,T,T,T,T,T,T,T,T,T,T,T,T,T,T,T,T,F,F,F] rfl rfl (any_of HT_.out (by kernel_rfl)) (fun _ _ _ h => h) (Or.inr ⟨by rfl, rfl⟩) ?_ ?_
rotate_left
·(
simp only [Act.put, List.setIfInBounds_toArray, List.set_cons_zero, List.set_cons_succ, i64_w, i32_w]
rfl
)
refine pure_ (i := 31) (N := some 106) (v := undef) (a' := ?_) #[T,T,T,T,T,T,T,T,T,T,T,T,T,T,T,T,T,T,T,T,T,T,T,T,T,T,T,T,T,T,T,T,F,F] rfl rfl (any_of HT_.out (by kernel_rfl)) (fun _ _ _ h => h) (Or.inr ⟨by rfl, rfl⟩) ?_ ?_
rotate_left
·(
simp only [Act.put, List.setIfInBounds_toArray, List.set_cons_zero, List.set_cons_succ, i64_w, i32_w]
rfl
)
refine pure_ (i := 32) (N := some 107) (v := undef) (a' := ?_) #[T,T,T,T,T,T,T,T,T,T,T,T,T,T,T,T,T,T,T,T,T,T,T,T,T,T,T,T,T,T,T,T,T,F] rfl rfl (any_of HT_.out (by kernel_rfl)) (fun _ _ _ h => h) (Or.inr ⟨by rfl, rfl⟩) ?_ ?_
rotate_left
·(
simp only [Act.put, List.setIfInBounds_toArray, List.set_cons_zero, List.set_cons_succ, i64_w, i32_w]
rfl
)
refine pure_ (i := 33) (N := some 108) (v := ?_) (a' := ?_) #[T,T,T,T,T,T,T,T,T,T,T,T,T,T,T,T,T,T,T,T,T,T,T,T,T,T,T,T,T,T,T,T,T,T] rfl rfl (any_of HT_.out (by kernel_rfl)) (fun _ _ _ h => h) (Or.inl ⟨by rfl, ?_⟩) ?_ ?_
rotate_left
·(
intro w'
go_simp
with_reducible rfl
)
rotate_left
·(
simp only [Act.put, List.setIfInBounds_toArray, List.set_cons_zero, List.set_cons_succ, i64_w, i32_w]
rfl
)
refine done_ (done_of HT_.out (by kernel_rfl)) ?_
try go_wp2
go_ret
exact ⟨by first | rfl | (simp [errW_none, errW_some] <;> rfl) | (simp [*, errW_none, errW_some] <;> rfl), by repeat (first | (with_reducible first | exact HB.out | apply below_alloc | apply pw_below_drewN | apply below_drew1 | refine below_set ?_ GE142.out | refine below_set ?_ GE150.out) | exact HB.out)⟩
)
·(
rw [if_neg c42] at H
have c42b0 : decide (((rd_T65 l0_7 x5_3).f1) < 1) = false := decide_eq_false c42
clear c42
by_cases c50 : ((rd_T65 l0_7 x5_3).f1) > 1048576
·(
rw [if_pos c50] at H
have c50b0 : decide (1048576 < ((rd_T65 l0_7 x5_3).f1)) = true := decide_eq_true c50
clear c50
obtain rfl := Option.some.inj H
have hcz51_0 : wr.cell? ⟨gb142, 0, none⟩ = some (.string a0_0) := (blk_cell BK142.out 0).trans rfl
have hcz51_1 : wr.cell? ⟨gb142, 1, none⟩ = some (.string a0_1) := (blk_cell BK142.out 1).trans rfl
have hcz51_2 : wr.cell? ⟨gb142, 2, none⟩ = some (.string a0_2) := (blk_cell BK142.out 2).trans rfl
have hcz51_3 : wr.cell? ⟨gb142, 3, none⟩ = some (.string a0_3) := (blk_cell BK142.out 3).trans rfl
have hcz51_4 : wr.cell? ⟨gb142, 4, none⟩ = some (.string a0_4) := (blk_cell BK142.out 4).trans rfl
have hcz51_5 : wr.cell? ⟨gb142, 5, none⟩ = some (.string a0_5) := (blk_cell BK142.out 5).trans rfl
have hcz51_6 : wr.cell? ⟨gb142, 6, none⟩ = some (.int .i64 a0_6) := (blk_cell BK142.out 6).trans rfl
have hcz51_7 : wr.cell? ⟨gb142, 7, none⟩ = some (.slice A0_7 l0_7.length c0_7) := (blk_cell BK142.out 7).trans rfl
have hfz51_0 := blk_frozen BK142.out 0
have hfz51_1 := blk_frozen BK142.out 1
have hfz51_2 := blk_frozen BK142.out 2
have hfz51_3 := blk_frozen BK142.out 3
have hfz51_4 := blk_frozen BK142.out 4
have hfz51_5 := blk_frozen BK142.out 5
have hfz51_6 := blk_frozen BK142.out 6
have hfz51_7 := blk_frozen BK142.out 7
have p149 : 0 ≤ (x5_3 : Int) := of_decide_eq_true (by first | (with_reducible assumption) | assumption)
have q149 : x5_3 < (l0_7.length : Int) := of_decide_eq_true (by first | (with_reducible assumption) | assumption)
obtain ⟨ad149, e149, hx149_0, hx149_1, hx149_2⟩ := at_T65 HR0_7.out x5_3 p149 q149
cases e149
replace hx149_0 := (HB.out.cell (World.block_lt_of_cell? w _ hx149_0)).trans hx149_0
replace hx149_1 := (HB.out.cell (World.block_lt_of_cell? w _ hx149_1)).trans hx149_1
replace hx149_2 := (HB.out.cell (World.block_lt_of_cell? w _ hx149_2)).trans hx149_2
replace p149 := eq_true p149
replace q149 := eq_true q149
try go_wp2_with (first | ((with_reducible refine gate_dst (N := 6) rfl ?_); (try (refine gate_guard (by rfl) ?_; dsimp only)); refine box_event ?hg (N := 6) ?hd (cs := #[.string (⟨#[]⟩ : ByteArray), .int .i64 0, .int .i64 0]) (t := 65) ?hr ?_; (case hd => rfl); (case hg => rfl); (case hr => first | (go_simp; done) | (go_simp; rfl)); intro gb150 hg w52 hbox hb; have n0_ := Aside0.mk (blk_below (g := gb142) (o := .cells #[.string a0_0, .string a0_1, .string a0_2, .string a0_3, .string a0_4, .string a0_5, .int .i64 a0_6, .slice (some ad149) l0_7.length c0_7] 24 (0, 0)) (by (with_reducible repeat (first | refine blk_drewN ?_ _ | refine blk_drew ?_ | refine blk_alloc ?_ _)); exact BK142.out) hb); have n1_ := Aside0.mk (below_step (by repeat (first | (with_reducible first | exact HB.out | apply below_alloc | apply pw_below_drewN | apply below_drew1 | refine below_set ?_ GE142.out) | exact HB.out)) hb); have n2_ := Aside0.mk (hbox); have n3_ := Aside0.mk ((by rw [hg]; exact (below_size (by repeat (first | (with_reducible first | exact HB.out | apply below_alloc | apply pw_below_drewN | apply below_drew1 | refine below_set ?_ GE142.out) | exact HB.out))) : w.heap.size ≤ gb150)); have n4_ := Aside0.mk ((by rw [hg]; exact (below_size (by repeat (first | (with_reducible first | exact HB.out | apply below_alloc | apply pw_below_drewN | apply below_drew1 | refine below_set ?_ GE142.out) | exact HB.out))) : w.heap.size ≤ gb150)); have n5_ := Aside0.mk ((by rw [hg]; exact Nat.ne_of_lt (blk_lt (g := gb142) (o := .cells #[.string a0_0, .string a0_1, .string a0_2, .string a0_3, .string a0_4, .string a0_5, .int .i64 a0_6, .slice (some ad149) l0_7.length c0_7] 24 (0, 0)) (by (with_reducible repeat (first | refine blk_drewN ?_ _ | refine blk_drew ?_ | refine blk_alloc ?_ _)); exact BK142.out)) : gb142 ≠ gb150)); have n6_ := Aside0.mk ((by rw [hg]; exact Nat.ne_of_gt (blk_lt (g := gb142) (o := .cells #[.string a0_0, .string a0_1, .string a0_2, .string a0_3, .string a0_4, .string a0_5, .int .i64 a0_6, .slice (some ad149) l0_7.length c0_7] 24 (0, 0)) (by (with_reducible repeat (first | refine blk_drewN ?_ _ | refine blk_drew ?_ | refine blk_alloc ?_ _)); exact BK142.out)) : gb150 ≠ gb142)); clear BK142; clear HB; have BK142 := n0_; have HB := n1_; have BK150 := n2_; have GW150 := n3_; have GE150 := n4_; have NB142_150 := n5_; have NB150_142 := n6_; clear n0_ n1_ n2_ n3_ n4_ n5_ n6_; clear hb hbox hg; have hnb53 := NB150_142.out; have hnc53 := NB142_150.out; have hcz54_0 : w52.cell? ⟨gb150, 0, none⟩ = some (.string (⟨#[]⟩ : ByteArray)) := (blk_cell BK150.out 0).trans rfl; have hcz54_1 : w52.cell? ⟨gb150, 1, none⟩ = some (.int .i64 0) := (blk_cell BK150.out 1).trans rfl; have hcz54_2 : w52.cell? ⟨gb150, 2, none⟩ = some (.int .i64 0) := (blk_cell BK150.out 2).trans rfl; have hfz54_0 := blk_frozen BK150.out 0; have hfz54_1 := blk_frozen BK150.out 1; have hfz54_2 := blk_frozen BK150.out 2))
have n0_ : Aside0 ((((w52.setCell ⟨gb150, 0, none⟩ (.string ((rd_T65 l0_7 x5_3).f0))).setCell ⟨gb150, 1, none⟩ (.int .i64 ((rd_T65 l0_7 x5_3).f1))).setCell ⟨gb150, 2, none⟩ (.int .i64 ((rd_T65 l0_7 x5_3).f2))).heap[gb142]? = some (.cells #[.string a0_0, .string a0_1, .string a0_2, .string a0_3, .string a0_4, .string a0_5, .int .i64 a0_6, .slice (some ad149) l0_7.length c0_7] 24 (0, 0))) := ⟨by (with_reducible repeat (first | refine blk_drewN ?_ _ | refine blk_drew ?_ | refine blk_alloc ?_ _)); refine blk_far ?_ NB142_150.out _; (with_reducible repeat (first | refine blk_drewN ?_ _ | refine blk_drew ?_ | refine blk_alloc ?_ _)); refine blk_far ?_ NB142_150.out _; (with_reducible repeat (first | refine blk_drewN ?_ _ | refine blk_drew ?_ | refine blk_alloc ?_ _)); refine blk_far ?_ NB142_150.out _; (with_reducible repeat (first | refine blk_drewN ?_ _ | refine blk_drew ?_ | refine blk_alloc ?_ _)); exact BK142.out⟩
have n1_ : Aside0 ((((w52.setCell ⟨gb150, 0, none⟩ (.string ((rd_T65 l0_7 x5_3).f0))).setCell ⟨gb150, 1, none⟩ (.int .i64 ((rd_T65 l0_7 x5_3).f1))).setCell ⟨gb150, 2, none⟩ (.int .i64 ((rd_T65 l0_7 x5_3).f2))).heap[gb150]? = some (.cells #[.string ((rd_T65 l0_7 x5_3).f0), .int .i64 ((rd_T65 l0_7 x5_3).f1), .int .i64 ((rd_T65 l0_7 x5_3).f2)] 65 (0, 0))) := ⟨by (with_reducible repeat (first | refine blk_drewN ?_ _ | refine blk_drew ?_ | refine blk_alloc ?_ _)); refine blk_put (cs := #[.string ((rd_T65 l0_7 x5_3).f0), .int .i64 ((rd_T65 l0_7 x5_3).f1), .int .i64 0]) ?_ 2 _ rfl; (with_reducible repeat (first | refine blk_drewN ?_ _ | refine blk_drew ?_ | refine blk_alloc ?_ _)); refine blk_put (cs := #[.string ((rd_T65 l0_7 x5_3).f0), .int .i64 0, .int .i64 0]) ?_ 1 _ rfl; (with_reducible repeat (first | refine blk_drewN ?_ _ | refine blk_drew ?_ | refine blk_alloc ?_ _)); refine blk_put (cs := #[.string (⟨#[]⟩ : ByteArray), .int .i64 0, .int .i64 0]) ?_ 0 _ rfl; (with_reducible repeat (first | refine blk_drewN ?_ _ | refine blk_drew ?_ | refine blk_alloc ?_ _)); exact BK150.out⟩
have n2_ : Aside0 (Below w.heap.size w (((w52.setCell ⟨gb150, 0, none⟩ (.string ((rd_T65 l0_7 x5_3).f0))).setCell ⟨gb150, 1, none⟩ (.int .i64 ((rd_T65 l0_7 x5_3).f1))).setCell ⟨gb150, 2, none⟩ (.int .i64 ((rd_T65 l0_7 x5_3).f2)))) := ⟨by repeat (first | (with_reducible first | exact HB.out | apply below_alloc | apply pw_below_drewN | apply below_drew1 | refine below_set ?_ GE142.out | refine below_set ?_ GE150.out) | exact HB.out)⟩
(try clear BK142)
(try clear BK150)
(try clear HB)
generalize (((w52.setCell ⟨gb150, 0, none⟩ (.string ((rd_T65 l0_7 x5_3).f0))).setCell ⟨gb150, 1, none⟩ (.int .i64 ((rd_T65 l0_7 x5_3).f1))).setCell ⟨gb150, 2, none⟩ (.int .i64 ((rd_T65 l0_7 x5_3).f2))) = w55 at n0_ n1_ n2_ ⊢
have BK142 := n0_
have BK150 := n1_
have HB := n2_
clear n0_ n1_ n2_
have n0_ := Aside0.mk (blk_drew BK142.out)
have n1_ := Aside0.mk (blk_drew BK150.out)
have n2_ := Aside0.mk (below_drew1 HB.out)
clear BK142
clear BK150
clear HB
have BK142 := n0_
have BK150 := n1_
have HB := n2_
clear n0_ n1_ n2_
refine start_ (n := 34) (S := fun w' => w'.cell? ⟨gb150, 0, none⟩ = some (.string ((rd_T65 l0_7 x5_3).f0)) ∧ w'.cell? ⟨gb150, 1, none⟩ = some (.int .i64 ((rd_T65 l0_7 x5_3).f1)) ∧ w'.cell? ⟨gb150, 2, none⟩ = some (.int .i64 ((rd_T65 l0_7 x5_3).f2)) ∧ w'.cell? ⟨gb142, 0, none⟩ = some (.string a0_0) ∧ w'.cell? ⟨gb142, 1, none⟩ = some (.string a0_1) ∧ w'.cell? ⟨gb142, 2, none⟩ = some (.string a0_2) ∧ w'.cell? ⟨gb142, 3, none⟩ = some (.string a0_3) ∧ w'.cell? ⟨gb142, 4, none⟩ = some (.string a0_4) ∧ w'.cell? ⟨gb142, 5, none⟩ = some (.string a0_5) ∧ w'.cell? ⟨gb142, 6, none⟩ = some (.int .i64 a0_6) ∧ w'.cell? ⟨gb142, 7, none⟩ = some (.slice (some ad149) l0_7.length c0_7)) (ds := []) #[F,F,F,F,F,F,F,F,F,F,F,F,F,F,F,F,F,F,F,F,F,F,F,F,F,F,F,F,F,F,F,F,F,F] (by kernel_rfl) rfl rfl ⟨(blk_cell BK150.out 0).trans rfl, (blk_cell BK150.out 1).trans rfl, (blk_cell BK150.out 2).trans rfl, (blk_cell BK142.out 0).trans rfl, (blk_cell BK142.out 1).trans rfl, (blk_cell BK142.out 2).trans rfl, (blk_cell BK142.out 3).trans rfl, (blk_cell BK142.out 4).trans rfl, (blk_cell BK142.out 5).trans rfl, (blk_cell BK142.out 6).trans rfl, (blk_cell BK142.out 7).trans rfl⟩ (fun hHeld => ?_); refine with_tabW sr19_May.tab13 sr19_May.bits13 (fun HT_ HW_ => ?_)
generalize w55.drew = w56 at BK142 BK150 HB hHeld ⊢
refine pure_ (i := 0) (N := some 75) (v := ?_) (a' := ?_) #[T,F,F,F,F,F,F,F,F,F,F,F,F,F,F,F,F,F,F,F,F,F,F,F,F,F,F,F,F,F,F,F,F,F] rfl rfl (any_of HT_.out (by kernel_rfl)) (fun _ _ _ h => h) (Or.inl ⟨by rfl, ?_⟩) ?_ ?_
rotate_left
·(
intro w'
go_simp
with_reducible rfl
)
rotate_left
·(
simp only [Act.put, List.setIfInBounds_toArray, List.set_cons_zero, List.set_cons_succ, i64_w, i32_w]
rfl
)
refine take_ (i := 1) (N := some 76) (v := ?_) (a' := ?_) #[T,T,F,F,F,F,F,F,F,F,F,F,F,F,F,F,F,F,F,F,F,F,F,F,F,F,F,F,F,F,F,F,F,F] rfl rfl (take_ofW HT_.out HW_.out (by kernel_rfl)) (fun _ _ _ h => h) (Or.inl ⟨by rfl, ?_⟩) hHeld ?_ ?_
rotate_left
·(
rintro w' ⟨s0, s1, s2, s3, s4, s5, s6, s7, s8, s9, s10⟩
go_simp
with_reducible rfl
)
rotate_left
·(
simp only [Act.put, List.setIfInBounds_toArray, List.set_cons_zero, List.set_cons_succ, i64_w, i32_w]
rfl
)
refine one_ (i := 2) (N := some 77) #[T,T,T,F,F,F,F,F,F,F,F,F,F,F,F,F,F,F,F,F,F,F,F,F,F,F,F,F,F,F,F,F,F,F] rfl rfl (one_of HT_.out (by kernel_rfl)) (by decide) (fun K hK => ?_)
refine goes_ Try.func39 (by kernel_rfl) rfl #[.string ((rd_T65 l0_7 x5_3).f0)] (by rfl) rfl rfl (by (try simp only [List.map_toArray, List.map_cons, List.map_nil]); first | done | rfl | (simp only [List.length_drop, List.length_take]; rfl)) ?_
with_reducible refine (sr03_Name.calls k3 ((rd_T65 l0_7 x5_3).f0) true _ A29.out).mono ?_
rintro e w' ⟨rfl, ⟨nd, rfl⟩⟩
refine ⟨_, rfl, ?_⟩
have q57 : (x5_3 : Int) ≤ ((l0_7.length : Int) : Int) := of_decide_eq_true (by first | (with_reducible assumption) | assumption)
obtain ⟨i057, hi057, _, hsz57, _⟩ := info_parts info65
have hroom57 : l0_7.length ≤ c0_7 := HC0_7.out
have hC57 : Kd.C k65 _ (some ad149) l0_7.length l0_7 := HR0_7.out
have hcut57 := cut_to (P := Try.prog) 22 65 .i64 Try.underlying22 hi057 (some ad149) l0_7.length c0_7 x5_3 (of_decide_eq_true (by first | (with_reducible assumption) | assumption)) q57 hroom57
have hr57 := Kd.C_take (m := (x5_3 : Int).toNat) hC57 (by omega)
have hy57 : y152.length = (x5_3 : Int).toNat := (by rw [Ny152.out, List.length_take]; omega)
rw [← Ny152.out] at hr57
rw [← hy57] at hcut57
have HR155 := Aside0.mk hr57
have HC155 := Aside0.mk (show y152.length ≤ c0_7 from by omega)
clear hr57 hC57 hroom57 hi057 hsz57
have KY57 := Aside0.mk hy57
clear hy57
replace q57 := eq_true q57
refine hK.out _ _ ⟨(blk_cell BK150.out 0).trans rfl, (blk_cell BK150.out 1).trans rfl, (blk_cell BK150.out 2).trans rfl, (blk_cell BK142.out 0).trans rfl, (blk_cell BK142.out 1).trans rfl, (blk_cell BK142.out 2).trans rfl, (blk_cell BK142.out 3).trans rfl, (blk_cell BK142.out 4).trans rfl, (blk_cell BK142.out 5).trans rfl, (blk_cell BK142.out 6).trans rfl, (blk_cell BK142.out 7).trans rfl⟩ (fun hHeld => ?_)
clear hK K
refine norm_ (a' := ?_) ?_ ?_
rotate_left
·(
show Act.put _ (some 77) _ = _
simp only [Act.put, List.setIfInBounds_toArray, List.set_cons_zero, List.set_cons_succ, i64_w, i32_w]
rfl
)
refine pure_ (i := 3) (N := some 78) (v := ?_) (a' := ?_) #[T,T,T,T,F,F,F,F,F,F,F,F,F,F,F,F,F,F,F,F,F,F,F,F,F,F,F,F,F,F,F,F,F,F] rfl rfl (any_of HT_.out (by kernel_rfl)) (fun _ _ _ h => h) (Or.inl ⟨by rfl, ?_⟩) ?_ ?_
rotate_left
·(
intro w'
go_simp
with_reducible rfl
)
rotate_left
·(
simp only [Act.put, List.setIfInBounds_toArray, List.set_cons_zero, List.set_cons_succ, i64_w, i32_w]
rfl
)
refine pure_ (i := 4) (N := some 79) (v := ?_) (a' := ?_) #[T,T,T,T,T,F,F,F,F,F,F,F,F,F,F,F,F,F,F,F,F,F,F,F,F,F,F,F,F,F,F,F,F,F] rfl rfl (any_of HT_.out (by kernel_rfl)) (fun _ _ _ h => h) (Or.inl ⟨by rfl, ?_⟩) ?_ ?_
rotate_left
·(
intro w'
go_simp
with_reducible rfl
)
rotate_left
·(
simp only [Act.put, List.setIfInBounds_toArray, List.set_cons_zero, List.set_cons_succ, i64_w, i32_w]
rfl
)
refine pure_ (i := 5) (N := some 80) (v := ?_) (a' := ?_) #[T,T,T,T,T,T,F,F,F,F,F,F,F,F,F,F,F,F,F,F,F,F,F,F,F,F,F,F,F,F,F,F,F,F] rfl rfl (any_of HT_.out (by kernel_rfl)) (fun _ _ _ h => h) (Or.inl ⟨by rfl, ?_⟩) ?_ ?_
rotate_left
·(
intro w'
go_simp
with_reducible rfl
)
rotate_left
·(
simp only [Act.put, List.setIfInBounds_toArray, List.set_cons_zero, List.set_cons_succ, i64_w, i32_w]
rfl
)
refine pure_ (i := 7) (N := some 82) (v := ?_) (a' := ?_) #[T,T,T,T,T,T,F,T,F,F,F,F,F,F,F,F,F,F,F,F,F,F,F,F,F,F,F,F,F,F,F,F,F,F] rfl rfl (any_of HT_.out (by kernel_rfl)) (fun _ _ _ h => h) (Or.inl ⟨by rfl, ?_⟩) ?_ ?_
rotate_left
·(
intro w'
go_simp
with_reducible rfl
)
rotate_left
·(
simp only [Act.put, List.setIfInBounds_toArray, List.set_cons_zero, List.set_cons_succ, i64_w, i32_w]
rfl
)
refine pure_ (i := 9) (N := some 84) (v := ?_) (a' := ?_) #[T,T,T,T,T,T,F,T,F,T,F,F,F,F,F,F,F,F,F,F,F,F,F,F,F,F,F,F,F,F,F,F,F,F] rfl rfl (any_of HT_.out (by kernel_rfl)) (fun _ _ _ h => h) (Or.inl ⟨by rfl, ?_⟩) ?_ ?_
rotate_left
·(
intro w'
go_simp
with_reducible rfl
)
rotate_left
·(
simp only [Act.put, List.setIfInBounds_toArray, List.set_cons_zero, List.set_cons_succ, i64_w, i32_w]
rfl
)
refine take_ (i := 6) (N := some 81) (v := ?_) (a' := ?_) #[T,T,T,T,T,T,T,T,F,T,F,F,F,F,F,F,F,F,F,F,F,F,F,F,F,F,F,F,F,F,F,F,F,F] rfl rfl (take_ofW HT_.out HW_.out (by kernel_rfl)) (fun _ _ _ h => h) (Or.inl ⟨by rfl, ?_⟩) hHeld ?_ ?_
rotate_left
·(
rintro w' ⟨s0, s1, s2, s3, s4, s5, s6, s7, s8, s9, s10⟩
go_simp
with_reducible rfl
)
rotate_left
·(
simp only [Act.put, List.setIfInBounds_toArray, List.set_cons_zero, List.set_cons_succ, i64_w, i32_w]
rfl
)
refine pure_ (i := 8) (N := some 83) (v := ?_) (a' := ?_) #[T,T,T,T,T,T,T,T,T,T,F,F,F,F,F,F,F,F,F,F,F,F,F,F,F,F,F,F,F,F,F,F,F,F] rfl rfl (any_of HT_.out (by kernel_rfl)) (fun _ _ _ h => h) (Or.inl ⟨by rfl, ?_⟩) ?_ ?_
rotate_left
·(
intro w'
go_simp
with_reducible rfl
)
rotate_left
·(
simp only [Act.put, List.setIfInBounds_toArray, List.set_cons_zero, List.set_cons_succ, i64_w, i32_w]
rfl
)
refine take_ (i := 10) (N := some 85) (v := ?_) (a' := ?_) #[T,T,T,T,T,T,T,T,T,T,T,F,F,F,F,F,F,F,F,F,F,F,F,F,F,F,F,F,F,F,F,F,F,F] rfl rfl (take_ofW HT_.out HW_.out (by kernel_rfl)) (fun _ _ _ h => h) (Or.inl ⟨by rfl, ?_⟩) hHeld ?_ ?_
rotate_left
·(
rintro w' ⟨s0, s1, s2, s3, s4, s5, s6, s7, s8, s9, s10⟩
go_simp
with_reducible rfl
)
rotate_left
·(
simp only [Act.put, List.setIfInBounds_toArray, List.set_cons_zero, List.set_cons_succ, i64_w, i32_w]
rfl
)
refine one_ (i := 11) (N := some 86) #[T,T,T,T,T,T,T,T,T,T,T,T,F,F,F,F,F,F,F,F,F,F,F,F,F,F,F,F,F,F,F,F,F,F] rfl rfl (one_of HT_.out (by kernel_rfl)) (by decide) (fun K hK => ?_)
refine goes_ Try.func41 (by kernel_rfl) rfl #[.slice (some ad149) y152.length c0_7, .string ((rd_T65 l0_7 x5_3).f0)] (by rfl) rfl rfl (by (try simp only [List.map_toArray, List.map_cons, List.map_nil]); first | done | rfl | (simp only [List.length_drop, List.length_take]; rfl)) ?_
with_reducible refine (sr19_Find.calls k3 _ _ y152 ((rd_T65 l0_7 x5_3).f0) t156 _ ?side1 ?side2 A33.out).mono ?_
(case side1 => repeat (first | exact (Kd.C_below HR155.out (by repeat (first | (with_reducible first | exact HB.out | apply below_alloc | apply pw_below_drewN | apply below_drew1 | refine below_set ?_ GE142.out | refine below_set ?_ GE150.out) | exact HB.out))) | (with_reducible refine Kd.C_alloc ?_ _) | (with_reducible refine Kd.C_drewN ?_ _) | (with_reducible refine Kd.C_drew ?_)))
(case side2 => exact HC155.out)
rintro e w' ⟨rfl, ⟨nd, rfl⟩⟩
refine ⟨_, rfl, ?_⟩
refine hK.out _ _ ⟨(blk_cell BK150.out 0).trans rfl, (blk_cell BK150.out 1).trans rfl, (blk_cell BK150.out 2).trans rfl, (blk_cell BK142.out 0).trans rfl, (blk_cell BK142.out 1).trans rfl, (blk_cell BK142.out 2).trans rfl, (blk_cell BK142.out 3).trans rfl, (blk_cell BK142.out 4).trans rfl, (blk_cell BK142.out 5).trans rfl, (blk_cell BK142.out 6).trans rfl, (blk_cell BK142.out 7).trans rfl⟩ (fun hHeld => ?_)
clear hK K
refine norm_ (a' := ?_) ?_ ?_
rotate_left
·(
show Act.put _ (some 86) _ = _
simp only [Act.put, List.setIfInBounds_toArray, List.set_cons_zero, List.set_cons_succ, i64_w, i32_w]
rfl
)
refine pure_ (i := 12) (N := some 87) (v := ?_) (a' := ?_) #[T,T,T,T,T,T,T,T,T,T,T,T,T,F,F,F,F,F,F,F,F,F,F,F,F,F,F,F,F,F,F,F,F,F] rfl rfl (any_of HT_.out (by kernel_rfl)) (fun _ _ _ h => h) (Or.inl ⟨by rfl, ?_⟩) ?_ ?_
rotate_left
·(
intro w'
go_simp
with_reducible rfl
)
rotate_left
·(
simp only [Act.put, List.setIfInBounds_toArray, List.set_cons_zero, List.set_cons_succ, i64_w, i32_w]
rfl
)
refine pure_ (i := 13) (N := some 88) (v := ?_) (a' := ?_) #[T,T,T,T,T,T,T,T,T,T,T,T,T,T,F,F,F,F,F,F,F,F,F,F,F,F,F,F,F,F,F,F,F,F] rfl rfl (any_of HT_.out (by kernel_rfl)) (fun _ _ _ h => h) (Or.inl ⟨by rfl, ?_⟩) ?_ ?_
rotate_left
·(
intro w'
go_simp
with_reducible rfl
)
rotate_left
·(
simp only [Act.put, List.setIfInBounds_toArray, List.set_cons_zero, List.set_cons_succ, i64_w, i32_w]
rfl
)
refine pure_ (i := 14) (N := some 89) (v := ?_) (a' := ?_) #[T,T,T,T,T,T,T,T,T,T,T,T,T,T,T,F,F,F,F,F,F,F,F,F,F,F,F,F,F,F,F,F,F,F] rfl rfl (any_of HT_.out (by kernel_rfl)) (fun _ _ _ h => h) (Or.inl ⟨by rfl, ?_⟩) ?_ ?_
rotate_left
·(
intro w'
go_simp
with_reducible rfl
)
rotate_left
·(
simp only [Act.put, List.setIfInBounds_toArray, List.set_cons_zero, List.set_cons_succ, i64_w, i32_w]
rfl
)
refine pure_ (i := 15) (N := some 90) (v := ?_) (a' := ?_) #[T,T,T,T,T,T,T,T,T,T,T,T,T,T,T,T,F,F,F,F,F,F,F,F,F,F,F,F,F,F,F,F,F,F] rfl rfl (any_of HT_.out (by kernel_rfl)) (fun _ _ _ h => h) (Or.inl ⟨by rfl, ?_⟩) ?_ ?_
rotate_left
·(
intro w'
go_simp
with_reducible rfl
)
rotate_left
·(
simp only [Act.put, List.setIfInBounds_toArray, List.set_cons_zero, List.set_cons_succ, i64_w, i32_w]
rfl
)
refine take_ (i := 16) (N := some 91) (v := ?_) (a' := ?_) #[T,T,T,T,T,T,T,T,T,T,T,T,T,T,T,T,T,F,F,F,F,F,F,F,F,F,F,F,F,F,F,F,F,F] rfl rfl (take_ofW HT_.out HW_.out (by kernel_rfl)) (fun _ _ _ h => h) (Or.inl ⟨by rfl, ?_⟩) hHeld ?_ ?_
rotate_left
·(
rintro w' ⟨s0, s1, s2, s3, s4, s5, s6, s7, s8, s9, s10⟩
go_simp
with_reducible rfl
)
rotate_left
·(
simp only [Act.put, List.setIfInBounds_toArray, List.set_cons_zero, List.set_cons_succ, i64_w, i32_w]
rfl
)
refine pure_ (i := 17) (N := some 92) (v := ?_) (a' := ?_) #[T,T,T,T,T,T,T,T,T,T,T,T,T,T,T,T,T,T,F,F,F,F,F,F,F,F,F,F,F,F,F,F,F,F] rfl rfl (any_of HT_.out (by kernel_rfl)) (fun _ _ _ h => h) (Or.inl ⟨by rfl, ?_⟩) ?_ ?_
rotate_left
·(
intro w'
go_simp
with_reducible rfl
)
rotate_left
·(
simp only [Act.put, List.setIfInBounds_toArray, List.set_cons_zero, List.set_cons_succ, i64_w, i32_w]
rfl
)
refine pure_ (i := 18) (N := some 93) (v := ?_) (a' := ?_) #[T,T,T,T,T,T,T,T,T,T,T,T,T,T,T,T,T,T,T,F,F,F,F,F,F,F,F,F,F,F,F,F,F,F] rfl rfl (any_of HT_.out (by kernel_rfl)) (fun _ _ _ h => h) (Or.inl ⟨by rfl, ?_⟩) ?_ ?_
rotate_left
·(
intro w'
go_simp
with_reducible rfl
)
rotate_left
·(
simp only [Act.put, List.setIfInBounds_toArray, List.set_cons_zero, List.set_cons_succ, i64_w, i32_w]
rfl
)
refine pure_ (i := 19) (N := some 94) (v := ?_) (a' := ?_) #[T,T,T,T,T,T,T,T,T,T,T,T,T,T,T,T,T,T,T,T,F,F,F,F,F,F,F,F,F,F,F,F,F,F] rfl rfl (any_of HT_.out (by kernel_rfl)) (fun _ _ _ h => h) (Or.inl ⟨by rfl, ?_⟩) ?_ ?_
rotate_left
·(
intro w'
go_simp
with_reducible rfl
)
rotate_left
·(
simp only [Act.put, List.setIfInBounds_toArray, List.set_cons_zero, List.set_cons_succ, i64_w, i32_w]
rfl
)
refine pure_ (i := 20) (N := some 95) (v := ?_) (a' := ?_) #[T,T,T,T,T,T,T,T,T,T,T,T,T,T,T,T,T,T,T,T,T,F,F,F,F,F,F,F,F,F,F,F,F,F] rfl rfl (any_of HT_.out (by kernel_rfl)) (fun _ _ _ h => h) (Or.inl ⟨by rfl, ?_⟩) ?_ ?_
rotate_left
·(
intro w'
go_simp
with_reducible rfl
)
rotate_left
·(
simp only [Act.put, List.setIfInBounds_toArray, List.set_cons_zero, List.set_cons_succ, i64_w, i32_w]
rfl
)
refine take_ (i := 21) (N := some 96) (v := ?_) (a' := ?_) #[T,T,T,T,T,T,T,T,T,T,T,T,T,T,T,T,T,T,T,T,T,T,F,F,F,F,F,F,F,F,F,F,F,F] rfl rfl (take_ofW HT_.out HW_.out (by kernel_rfl)) (fun _ _ _ h => h) (Or.inl ⟨by rfl, ?_⟩) hHeld ?_ ?_
rotate_left
·(
rintro w' ⟨s0, s1, s2, s3, s4, s5, s6, s7, s8, s9, s10⟩
go_simp
with_reducible rfl
)
rotate_left
·(
simp only [Act.put, List.setIfInBounds_toArray, List.set_cons_zero, List.set_cons_succ, i64_w, i32_w]
rfl
)
refine pure_ (i := 22) (N := some 97) (v := ?_) (a' := ?_) #[T,T,T,T,T,T,T,T,T,T,T,T,T,T,T,T,T,T,T,T,T,T,T,F,F,F,F,F,F,F,F,F,F,F] rfl rfl (any_of HT_.out (by kernel_rfl)) (fun _ _ _ h => h) (Or.inl ⟨by rfl, ?_⟩) ?_ ?_
rotate_left
·(
intro w'
go_simp
with_reducible rfl
)
rotate_left
·(
simp only [Act.put, List.setIfInBounds_toArray, List.set_cons_zero, List.set_cons_succ, i64_w, i32_w]
rfl
)
refine pure_ (i := 23) (N := some 98) (v := ?_) (a' := ?_) #[T,T,T,T,T,T,T,T,T,T,T,T,T,T,T,T,T,T,T,T,T,T,T,T,F,F,F,F,F,F,F,F,F,F] rfl rfl (any_of HT_.out (by kernel_rfl)) (fun _ _ _ h => h) (Or.inl ⟨by rfl, ?_⟩) ?_ ?_
rotate_left
·(
intro w'
go_simp
with_reducible rfl
)
rotate_left
·(
simp only [Act.put, List.setIfInBounds_toArray, List.set_cons_zero, List.set_cons_succ, i64_w, i32_w]
rfl
)
refine pure_ (i := 24) (N := some 99) (v := ?_) (a' := ?_) #[T,T,T,T,T,T,T,T,T,T,T,T,T,T,T,T,T,T,T,T,T,T,T,T,T,F,F,F,F,F,F,F,F,F] rfl rfl (any_of HT_.out (by kernel_rfl)) (fun _ _ _ h => h) (Or.inl ⟨by rfl, ?_⟩) ?_ ?_
rotate_left
·(
intro w'
go_simp
with_reducible rfl
)
rotate_left
·(
simp only [Act.put, List.setIfInBounds_toArray, List.set_cons_zero, List.set_cons_succ, i64_w, i32_w]
rfl
)
refine pure_ (i := 25) (N := some 100) (v := undef) (a' := ?_) #[T,T,T,T,T,T,T,T,T,T,T,T,T,T,T,T,T,T,T,T,T,T,T,T,T,T,F,F,F,F,F,F,F,F] rfl rfl (any_of HT_.out (by kernel_rfl)) (fun _ _ _ h => h) (Or.inr ⟨by rfl, rfl⟩) ?_ ?_
rotate_left
·(
simp only [Act.put, List.setIfInBounds_toArray, List.set_cons_zero, List.set_cons_succ, i64_w, i32_w]
rfl
)
refine pure_ (i := 26) (N := some 101) (v := undef) (a' := ?_) #[T,T,T,T,T,T,T,T,T,T,T,T,T,T,T,T,T,T,T,T,T,T,T,T,T,T,T,F,F,F,F,F,F,F] rfl rfl (any_of HT_.out (by kernel_rfl)) (fun _ _ _ h => h) (Or.inr ⟨by rfl, rfl⟩) ?_ ?_
rotate_left
·(
simp only [Act.put, List.setIfInBounds_toArray, List.set_cons_zero, List.set_cons_succ, i64_w, i32_w]
rfl
)
refine pure_ (i := 27) (N := some 102) (v := undef) (a' := ?_) #[T,T,T,T,T,T,T,T,T,T,T,T,T,T,T,T,T,T,T,T,T,T,T,T,T,T,T,T,F,F,F,F,F,F] rfl rfl (any_of HT_.out (by kernel_rfl)) (fun _ _ _ h => h) (Or.inr ⟨by rfl, rfl⟩) ?_ ?_
rotate_left
·(
simp only [Act.put, List.setIfInBounds_toArray, List.set_cons_zero, List.set_cons_succ, i64_w, i32_w]
rfl
)
refine pure_ (i := 28) (N := some 103) (v := ?_) (a' := ?_) #[T,T,T,T,T,T,T,T,T,T,T,T,T,T,T,T,T,T,T,T,T,T,T,T,T,T,T,T,T,F,F,F,F,F] rfl rfl (any_of HT_.out (by kernel_rfl)) (fun _ _ _ h => h) (Or.inl ⟨by rfl, ?_⟩) ?_ ?_
rotate_left
·(
intro w'
go_simp
with_reducible rfl
)
rotate_left
·(
simp only [Act.put, List.setIfInBounds_toArray, List.set_cons_zero, List.set_cons_succ, i64_w, i32_w]
rfl
)
refine pure_ (i := 29) (N := some 104) (v := ?_) (a' := ?_) #[T,T,T,T,T,T,T,T,T,T,T,T,T,T,T,T,T,T,T,T,T,T,T,T,T,T,T,T,T,T,F,F,F,F] rfl rfl (any_of HT_.out (by kernel_rfl)) (fun _ _ _ h => h) (Or.inl ⟨by rfl, ?_⟩) ?_ ?_
rotate_left
·(
intro w'
go_simp
with_reducible rfl
)
rotate_left
·(
simp only [Act.put, List.setIfInBounds_toArray, List.set_cons_zero, List.set_cons_succ, i64_w, i32_w]
rfl
)
refine pure_ (i := 30) (N := some 105) (v := undef) (a' := ?_) #[T,T,T,T,T,T,T,T,T,T,T,T,T,T,T,T,T,T,T,T,T,T,T,T,T,T,T,T,T,T,T,F,F,F] rfl rfl (any_of HT_.out (by kernel_rfl)) (fun _ _ _ h => h) (Or.inr ⟨by rfl, rfl⟩) ?_ ?_
rotate_left
·(
simp only [Act.put, List.setIfInBounds_toArray, List.set_cons_zero, List.set_cons_succ, i64_w, i32_w]
rfl
)
refine pure_ (i := 31) (N := some 106) (v := undef) (a' := ?_) #[T,T,T,T,T,T,T,T,T,T,T,T,T,T,T,T,T,T,T,T,T,T,T,T,T,T,T,T,T,T,T,T,F,F] rfl rfl (any_of HT_.out (by kernel_rfl)) (fun _ _ _ h => h) (Or.inr ⟨by rfl, rfl⟩) ?_ ?_
rotate_left
·(
simp only [Act.put, List.setIfInBounds_toArray, List.set_cons_zero, List.set_cons_succ, i64_w, i32_w]
rfl
)
refine pure_ (i := 32) (N := some 107) (v := undef) (a' := ?_) #[T,T,T,T,T,T,T,T,T,T,T,T,T,T,T,T,T,T,T,T,T,T,T,T,T,T,T,T,T,T,T,T,T,F] rfl rfl (any_of HT_.out (by kernel_rfl)) (fun _ _ _ h => h) (Or.inr ⟨by rfl, rfl⟩) ?_ ?_
rotate_left
·(
simp only [Act.put, List.setIfInBounds_toArray, List.set_cons_zero, List.set_cons_succ, i64_w, i32_w]
rfl
)
refine pure_ (i := 33) (N := some 108) (v := ?_) (a' := ?_) #[T,T,T,T,T,T,T,T,T,T,T,T,T,T,T,T,T,T,T,T,T,T,T,T,T,T,T,T,T,T,T,T,T,T] rfl rfl (any_of HT_.out (by kernel_rfl)) (fun _ _ _ h => h) (Or.inl ⟨by rfl, ?_⟩) ?_ ?_
rotate_left
·(
intro w'
go_simp
with_reducible rfl
)
rotate_left
·(
simp only [Act.put, List.setIfInBounds_toArray, List.set_cons_zero, List.set_cons_succ, i64_w, i32_w]
rfl
)
refine done_ (done_of HT_.out (by kernel_rfl)) ?_
try go_wp2
go_ret
exact ⟨by first | rfl | (simp [errW_none, errW_some] <;> rfl) | (simp [*, errW_none, errW_some] <;> rfl), by repeat (first | (with_reducible first | exact HB.out | apply below_alloc | apply pw_below_drewN | apply below_drew1 | refine below_set ?_ GE142.out | refine below_set ?_ GE150.out) | exact HB.out)⟩
)
·(
rw [if_neg c50] at H
have c50b0 : decide (1048576 < ((rd_T65 l0_7 x5_3).f1)) = false := decide_eq_false c50
clear c50
by_cases c58 : ((rd_T65 l0_7 x5_3).f2) < 0
·(
rw [if_pos c58] at H
have c58b0 : decide (((rd_T65 l0_7 x5_3).f2) < 0) = true := decide_eq_true c58
clear c58
obtain rfl := Option.some.inj H
have hcz59_0 : wr.cell? ⟨gb142, 0, none⟩ = some (.string a0_0) := (blk_cell BK142.out 0).trans rfl
have hcz59_1 : wr.cell? ⟨gb142, 1, none⟩ = some (.string a0_1) := (blk_cell BK142.out 1).trans rfl
have hcz59_2 : wr.cell? ⟨gb142, 2, none⟩ = some (.string a0_2) := (blk_cell BK142.out 2).trans rfl
have hcz59_3 : wr.cell? ⟨gb142, 3, none⟩ = some (.string a0_3) := (blk_cell BK142.out 3).trans rfl
have hcz59_4 : wr.cell? ⟨gb142, 4, none⟩ = some (.string a0_4) := (blk_cell BK142.out 4).trans rfl
have hcz59_5 : wr.cell? ⟨gb142, 5, none⟩ = some (.string a0_5) := (blk_cell BK142.out 5).trans rfl
have hcz59_6 : wr.cell? ⟨gb142, 6, none⟩ = some (.int .i64 a0_6) := (blk_cell BK142.out 6).trans rfl
have hcz59_7 : wr.cell? ⟨gb142, 7, none⟩ = some (.slice A0_7 l0_7.length c0_7) := (blk_cell BK142.out 7).trans rfl
have hfz59_0 := blk_frozen BK142.out 0
have hfz59_1 := blk_frozen BK142.out 1
have hfz59_2 := blk_frozen BK142.out 2
have hfz59_3 := blk_frozen BK142.out 3
have hfz59_4 := blk_frozen BK142.out 4
have hfz59_5 := blk_frozen BK142.out 5
have hfz59_6 := blk_frozen BK142.out 6
have hfz59_7 := blk_frozen BK142.out 7
have p149 : 0 ≤ (x5_3 : Int) := of_decide_eq_true (by first | (with_reducible assumption) | assumption)
have q149 : x5_3 < (l0_7.length : Int) := of_decide_eq_true (by first | (with_reducible assumption) | assumption)
obtain ⟨ad149, e149, hx149_0, hx149_1, hx149_2⟩ := at_T65 HR0_7.out x5_3 p149 q149
cases e149
replace hx149_0 := (HB.out.cell (World.block_lt_of_cell? w _ hx149_0)).trans hx149_0
replace hx149_1 := (HB.out.cell (World.block_lt_of_cell? w _ hx149_1)).trans hx149_1
replace hx149_2 := (HB.out.cell (World.block_lt_of_cell? w _ hx149_2)).trans hx149_2
replace p149 := eq_true p149
replace q149 := eq_true q149
try go_wp2_with (first | ((with_reducible refine gate_dst (N := 6) rfl ?_); (try (refine gate_guard (by rfl) ?_; dsimp only)); refine box_event ?hg (N := 6) ?hd (cs := #[.string (⟨#[]⟩ : ByteArray), .int .i64 0, .int .i64 0]) (t := 65) ?hr ?_; (case hd => rfl); (case hg => rfl); (case hr => first | (go_simp; done) | (go_simp; rfl)); intro gb150 hg w60 hbox hb; have n0_ := Aside0.mk (blk_below (g := gb142) (o := .cells #[.string a0_0, .string a0_1, .string a0_2, .string a0_3, .string a0_4, .string a0_5, .int .i64 a0_6, .slice (some ad149) l0_7.length c0_7] 24 (0, 0)) (by (with_reducible repeat (first | refine blk_drewN ?_ _ | refine blk_drew ?_ | refine blk_alloc ?_ _)); exact BK142.out) hb); have n1_ := Aside0.mk (below_step (by repeat (first | (with_reducible first | exact HB.out | apply below_alloc | apply pw_below_drewN | apply below_drew1 | refine below_set ?_ GE142.out) | exact HB.out)) hb); have n2_ := Aside0.mk (hbox); have n3_ := Aside0.mk ((by rw [hg]; exact (below_size (by repeat (first | (with_reducible first | exact HB.out | apply below_alloc | apply pw_below_drewN | apply below_drew1 | refine below_set ?_ GE142.out) | exact HB.out))) : w.heap.size ≤ gb150)); have n4_ := Aside0.mk ((by rw [hg]; exact (below_size (by repeat (first | (with_reducible first | exact HB.out | apply below_alloc | apply pw_below_drewN | apply below_drew1 | refine below_set ?_ GE142.out) | exact HB.out))) : w.heap.size ≤ gb150)); have n5_ := Aside0.mk ((by rw [hg]; exact Nat.ne_of_lt (blk_lt (g := gb142) (o := .cells #[.string a0_0, .string a0_1, .string a0_2, .string a0_3, .string a0_4, .string a0_5, .int .i64 a0_6, .slice (some ad149) l0_7.length c0_7] 24 (0, 0)) (by (with_reducible repeat (first | refine blk_drewN ?_ _ | refine blk_drew ?_ | refine blk_alloc ?_ _)); exact BK142.out)) : gb142 ≠ gb150)); have n6_ := Aside0.mk ((by rw [hg]; exact Nat.ne_of_gt (blk_lt (g := gb142) (o := .cells #[.string a0_0, .string a0_1, .string a0_2, .string a0_3, .string a0_4, .string a0_5, .int .i64 a0_6, .slice (some ad149) l0_7.length c0_7] 24 (0, 0)) (by (with_reducible repeat (first | refine blk_drewN ?_ _ | refine blk_drew ?_ | refine blk_alloc ?_ _)); exact BK142.out)) : gb150 ≠ gb142)); clear BK142; clear HB; have BK142 := n0_; have HB := n1_; have BK150 := n2_; have GW150 := n3_; have GE150 := n4_; have NB142_150 := n5_; have NB150_142 := n6_; clear n0_ n1_ n2_ n3_ n4_ n5_ n6_; clear hb hbox hg; have hnb61 := NB150_142.out; have hnc61 := NB142_150.out; have hcz62_0 : w60.cell? ⟨gb150, 0, none⟩ = some (.string (⟨#[]⟩ : ByteArray)) := (blk_cell BK150.out 0).trans rfl; have hcz62_1 : w60.cell? ⟨gb150, 1, none⟩ = some (.int .i64 0) := (blk_cell BK150.out 1).trans rfl; have hcz62_2 : w60.cell? ⟨gb150, 2, none⟩ = some (.int .i64 0) := (blk_cell BK150.out 2).trans rfl; have hfz62_0 := blk_frozen BK150.out 0; have hfz62_1 := blk_frozen BK150.out 1; have hfz62_2 := blk_frozen BK150.out 2))
have n0_ : Aside0 ((((w60.setCell ⟨gb150, 0, none⟩ (.string ((rd_T65 l0_7 x5_3).f0))).setCell ⟨gb150, 1, none⟩ (.int .i64 ((rd_T65 l0_7 x5_3).f1))).setCell ⟨gb150, 2, none⟩ (.int .i64 ((rd_T65 l0_7 x5_3).f2))).heap[gb142]? = some (.cells #[.string a0_0, .string a0_1, .string a0_2, .string a0_3, .string a0_4, .string a0_5, .int .i64 a0_6, .slice (some ad149) l0_7.length c0_7] 24 (0, 0))) := ⟨by (with_reducible repeat (first | refine blk_drewN ?_ _ | refine blk_drew ?_ | refine blk_alloc ?_ _)); refine blk_far ?_ NB142_150.out _; (with_reducible repeat (first | refine blk_drewN ?_ _ | refine blk_drew ?_ | refine blk_alloc ?_ _)); refine blk_far ?_ NB142_150.out _; (with_reducible repeat (first | refine blk_drewN ?_ _ | refine blk_drew ?_ | refine blk_alloc ?_ _)); refine blk_far ?_ NB142_150.out _; (with_reducible repeat (first | refine blk_drewN ?_ _ | refine blk_drew ?_ | refine blk_alloc ?_ _)); exact BK142.out⟩
have n1_ : Aside0 ((((w60.setCell ⟨gb150, 0, none⟩ (.string ((rd_T65 l0_7 x5_3).f0))).setCell ⟨gb150, 1, none⟩ (.int .i64 ((rd_T65 l0_7 x5_3).f1))).setCell ⟨gb150, 2, none⟩ (.int .i64 ((rd_T65 l0_7 x5_3).f2))).heap[gb150]? = some (.cells #[.string ((rd_T65 l0_7 x5_3).f0), .int .i64 ((rd_T65 l0_7 x5_3).f1), .int .i64 ((rd_T65 l0_7 x5_3).f2)] 65 (0, 0))) := ⟨by (with_reducible repeat (first | refine blk_drewN ?_ _ | refine blk_drew ?_ | refine blk_alloc ?_ _)); refine blk_put (cs := #[.string ((rd_T65 l0_7 x5_3).f0), .int .i64 ((rd_T65 l0_7 x5_3).f1), .int .i64 0]) ?_ 2 _ rfl; (with_reducible repeat (first | refine blk_drewN ?_ _ | refine blk_drew ?_ | refine blk_alloc ?_ _)); refine blk_put (cs := #[.string ((rd_T65 l0_7 x5_3).f0), .int .i64 0, .int .i64 0]) ?_ 1 _ rfl; (with_reducible repeat (first | refine blk_drewN ?_ _ | refine blk_drew ?_ | refine blk_alloc ?_ _)); refine blk_put (cs := #[.string (⟨#[]⟩ : ByteArray), .int .i64 0, .int .i64 0]) ?_ 0 _ rfl; (with_reducible repeat (first | refine blk_drewN ?_ _ | refine blk_drew ?_ | refine blk_alloc ?_ _)); exact BK150.out⟩
have n2_ : Aside0 (Below w.heap.size w (((w60.setCell ⟨gb150, 0, none⟩ (.string ((rd_T65 l0_7 x5_3).f0))).setCell ⟨gb150, 1, none⟩ (.int .i64 ((rd_T65 l0_7 x5_3).f1))).setCell ⟨gb150, 2, none⟩ (.int .i64 ((rd_T65 l0_7 x5_3).f2)))) := ⟨by repeat (first | (with_reducible first | exact HB.out | apply below_alloc | apply pw_below_drewN | apply below_drew1 | refine below_set ?_ GE142.out | refine below_set ?_ GE150.out) | exact HB.out)⟩
(try clear BK142)
(try clear BK150)
(try clear HB)
generalize (((w60.setCell ⟨gb150, 0, none⟩ (.string ((rd_T65 l0_7 x5_3).f0))).setCell ⟨gb150, 1, none⟩ (.int .i64 ((rd_T65 l0_7 x5_3).f1))).setCell ⟨gb150, 2, none⟩ (.int .i64 ((rd_T65 l0_7 x5_3).f2))) = w63 at n0_ n1_ n2_ ⊢
have BK142 := n0_
have BK150 := n1_
have HB := n2_
clear n0_ n1_ n2_
have n0_ := Aside0.mk (blk_drew BK142.out)
have n1_ := Aside0.mk (blk_drew BK150.out)
have n2_ := Aside0.mk (below_drew1 HB.out)
clear BK142
clear BK150
clear HB
have BK142 := n0_
have BK150 := n1_
have HB := n2_
clear n0_ n1_ n2_
refine start_ (n := 34) (S := fun w' => w'.cell? ⟨gb150, 0, none⟩ = some (.string ((rd_T65 l0_7 x5_3).f0)) ∧ w'.cell? ⟨gb150, 1, none⟩ = some (.int .i64 ((rd_T65 l0_7 x5_3).f1)) ∧ w'.cell? ⟨gb150, 2, none⟩ = some (.int .i64 ((rd_T65 l0_7 x5_3).f2)) ∧ w'.cell? ⟨gb142, 0, none⟩ = some (.string a0_0) ∧ w'.cell? ⟨gb142, 1, none⟩ = some (.string a0_1) ∧ w'.cell? ⟨gb142, 2, none⟩ = some (.string a0_2) ∧ w'.cell? ⟨gb142, 3, none⟩ = some (.string a0_3) ∧ w'.cell? ⟨gb142, 4, none⟩ = some (.string a0_4) ∧ w'.cell? ⟨gb142, 5, none⟩ = some (.string a0_5) ∧ w'.cell? ⟨gb142, 6, none⟩ = some (.int .i64 a0_6) ∧ w'.cell? ⟨gb142, 7, none⟩ = some (.slice (some ad149) l0_7.length c0_7)) (ds := []) #[F,F,F,F,F,F,F,F,F,F,F,F,F,F,F,F,F,F,F,F,F,F,F,F,F,F,F,F,F,F,F,F,F,F] (by kernel_rfl) rfl rfl ⟨(blk_cell BK150.out 0).trans rfl, (blk_cell BK150.out 1).trans rfl, (blk_cell BK150.out 2).trans rfl, (blk_cell BK142.out 0).trans rfl, (blk_cell BK142.out 1).trans rfl, (blk_cell BK142.out 2).trans rfl, (blk_cell BK142.out 3).trans rfl, (blk_cell BK142.out 4).trans rfl, (blk_cell BK142.out 5).trans rfl, (blk_cell BK142.out 6).trans rfl, (blk_cell BK142.out 7).trans rfl⟩ (fun hHeld => ?_); refine with_tabW sr19_May.tab13 sr19_May.bits13 (fun HT_ HW_ => ?_)
generalize w63.drew = w64 at BK142 BK150 HB hHeld ⊢
refine pure_ (i := 0) (N := some 75) (v := ?_) (a' := ?_) #[T,F,F,F,F,F,F,F,F,F,F,F,F,F,F,F,F,F,F,F,F,F,F,F,F,F,F,F,F,F,F,F,F,F] rfl rfl (any_of HT_.out (by kernel_rfl)) (fun _ _ _ h => h) (Or.inl ⟨by rfl, ?_⟩) ?_ ?_
rotate_left
·(
intro w'
go_simp
with_reducible rfl
)
rotate_left
·(
simp only [Act.put, List.setIfInBounds_toArray, List.set_cons_zero, List.set_cons_succ, i64_w, i32_w]
rfl
)
refine take_ (i := 1) (N := some 76) (v := ?_) (a' := ?_) #[T,T,F,F,F,F,F,F,F,F,F,F,F,F,F,F,F,F,F,F,F,F,F,F,F,F,F,F,F,F,F,F,F,F] rfl rfl (take_ofW HT_.out HW_.out (by kernel_rfl)) (fun _ _ _ h => h) (Or.inl ⟨by rfl, ?_⟩) hHeld ?_ ?_
rotate_left
·(
rintro w' ⟨s0, s1, s2, s3, s4, s5, s6, s7, s8, s9, s10⟩
go_simp
with_reducible rfl
)
rotate_left
·(
simp only [Act.put, List.setIfInBounds_toArray, List.set_cons_zero, List.set_cons_succ, i64_w, i32_w]
rfl
)
refine one_ (i := 2) (N := some 77) #[T,T,T,F,F,F,F,F,F,F,F,F,F,F,F,F,F,F,F,F,F,F,F,F,F,F,F,F,F,F,F,F,F,F] rfl rfl (one_of HT_.out (by kernel_rfl)) (by decide) (fun K hK => ?_)
refine goes_ Try.func39 (by kernel_rfl) rfl #[.string ((rd_T65 l0_7 x5_3).f0)] (by rfl) rfl rfl (by (try simp only [List.map_toArray, List.map_cons, List.map_nil]); first | done | rfl | (simp only [List.length_drop, List.length_take]; rfl)) ?_
with_reducible refine (sr03_Name.calls k3 ((rd_T65 l0_7 x5_3).f0) true _ A29.out).mono ?_
rintro e w' ⟨rfl, ⟨nd, rfl⟩⟩
refine ⟨_, rfl, ?_⟩
have q65 : (x5_3 : Int) ≤ ((l0_7.length : Int) : Int) := of_decide_eq_true (by first | (with_reducible assumption) | assumption)
obtain ⟨i065, hi065, _, hsz65, _⟩ := info_parts info65
have hroom65 : l0_7.length ≤ c0_7 := HC0_7.out
have hC65 : Kd.C k65 _ (some ad149) l0_7.length l0_7 := HR0_7.out
have hcut65 := cut_to (P := Try.prog) 22 65 .i64 Try.underlying22 hi065 (some ad149) l0_7.length c0_7 x5_3 (of_decide_eq_true (by first | (with_reducible assumption) | assumption)) q65 hroom65
have hr65 := Kd.C_take (m := (x5_3 : Int).toNat) hC65 (by omega)
have hy65 : y152.length = (x5_3 : Int).toNat := (by rw [Ny152.out, List.length_take]; omega)
rw [← Ny152.out] at hr65
rw [← hy65] at hcut65
have HR155 := Aside0.mk hr65
have HC155 := Aside0.mk (show y152.length ≤ c0_7 from by omega)
clear hr65 hC65 hroom65 hi065 hsz65
have KY65 := Aside0.mk hy65
clear hy65
replace q65 := eq_true q65
refine hK.out _ _ ⟨(blk_cell BK150.out 0).trans rfl, (blk_cell BK150.out 1).trans rfl, (blk_cell BK150.out 2).trans rfl, (blk_cell BK142.out 0).trans rfl, (blk_cell BK142.out 1).trans rfl, (blk_cell BK142.out 2).trans rfl, (blk_cell BK142.out 3).trans rfl, (blk_cell BK142.out 4).trans rfl, (blk_cell BK142.out 5).trans rfl, (blk_cell BK142.out 6).trans rfl, (blk_cell BK142.out 7).trans rfl⟩ (fun hHeld => ?_)
clear hK K
refine norm_ (a' := ?_) ?_ ?_
rotate_left
·(
show Act.put _ (some 77) _ = _
simp only [Act.put, List.setIfInBounds_toArray, List.set_cons_zero, List.set_cons_succ, i64_w, i32_w]
rfl
)
refine pure_ (i := 3) (N := some 78) (v := ?_) (a' := ?_) #[T,T,T,T,F,F,F,F,F,F,F,F,F,F,F,F,F,F,F,F,F,F,F,F,F,F,F,F,F,F,F,F,F,F] rfl rfl (any_of HT_.out (by kernel_rfl)) (fun _ _ _ h => h) (Or.inl ⟨by rfl, ?_⟩) ?_ ?_
rotate_left
·(
intro w'
go_simp
with_reducible rfl
)
rotate_left
·(
simp only [Act.put, List.setIfInBounds_toArray, List.set_cons_zero, List.set_cons_succ, i64_w, i32_w]
rfl
)
refine pure_ (i := 4) (N := some 79) (v := ?_) (a' := ?_) #[T,T,T,T,T,F,F,F,F,F,F,F,F,F,F,F,F,F,F,F,F,F,F,F,F,F,F,F,F,F,F,F,F,F] rfl rfl (any_of HT_.out (by kernel_rfl)) (fun _ _ _ h => h) (Or.inl ⟨by rfl, ?_⟩) ?_ ?_
rotate_left
·(
intro w'
go_simp
with_reducible rfl
)
rotate_left
·(
simp only [Act.put, List.setIfInBounds_toArray, List.set_cons_zero, List.set_cons_succ, i64_w, i32_w]
rfl
)
refine pure_ (i := 5) (N := some 80) (v := ?_) (a' := ?_) #[T,T,T,T,T,T,F,F,F,F,F,F,F,F,F,F,F,F,F,F,F,F,F,F,F,F,F,F,F,F,F,F,F,F] rfl rfl (any_of HT_.out (by kernel_rfl)) (fun _ _ _ h => h) (Or.inl ⟨by rfl, ?_⟩) ?_ ?_
rotate_left
·(
intro w'
go_simp
with_reducible rfl
)
rotate_left
·(
simp only [Act.put, List.setIfInBounds_toArray, List.set_cons_zero, List.set_cons_succ, i64_w, i32_w]
rfl
)
refine pure_ (i := 7) (N := some 82) (v := ?_) (a' := ?_) #[T,T,T,T,T,T,F,T,F,F,F,F,F,F,F,F,F,F,F,F,F,F,F,F,F,F,F,F,F,F,F,F,F,F] rfl rfl (any_of HT_.out (by kernel_rfl)) (fun _ _ _ h => h) (Or.inl ⟨by rfl, ?_⟩) ?_ ?_
rotate_left
·(
intro w'
go_simp
with_reducible rfl
)
rotate_left
·(
simp only [Act.put, List.setIfInBounds_toArray, List.set_cons_zero, List.set_cons_succ, i64_w, i32_w]
rfl
)
refine pure_ (i := 9) (N := some 84) (v := ?_) (a' := ?_) #[T,T,T,T,T,T,F,T,F,T,F,F,F,F,F,F,F,F,F,F,F,F,F,F,F,F,F,F,F,F,F,F,F,F] rfl rfl (any_of HT_.out (by kernel_rfl)) (fun _ _ _ h => h) (Or.inl ⟨by rfl, ?_⟩) ?_ ?_
rotate_left
·(
intro w'
go_simp
with_reducible rfl
)
rotate_left
·(
simp only [Act.put, List.setIfInBounds_toArray, List.set_cons_zero, List.set_cons_succ, i64_w, i32_w]
rfl
)
refine take_ (i := 6) (N := some 81) (v := ?_) (a' := ?_) #[T,T,T,T,T,T,T,T,F,T,F,F,F,F,F,F,F,F,F,F,F,F,F,F,F,F,F,F,F,F,F,F,F,F] rfl rfl (take_ofW HT_.out HW_.out (by kernel_rfl)) (fun _ _ _ h => h) (Or.inl ⟨by rfl, ?_⟩) hHeld ?_ ?_
rotate_left
·(
rintro w' ⟨s0, s1, s2, s3, s4, s5, s6, s7, s8, s9, s10⟩
go_simp
with_reducible rfl
)
rotate_left
·(
simp only [Act.put, List.setIfInBounds_toArray, List.set_cons_zero, List.set_cons_succ, i64_w, i32_w]
rfl
)
refine pure_ (i := 8) (N := some 83) (v := ?_) (a' := ?_) #[T,T,T,T,T,T,T,T,T,T,F,F,F,F,F,F,F,F,F,F,F,F,F,F,F,F,F,F,F,F,F,F,F,F] rfl rfl (any_of HT_.out (by kernel_rfl)) (fun _ _ _ h => h) (Or.inl ⟨by rfl, ?_⟩) ?_ ?_
rotate_left
·(
intro w'
go_simp
with_reducible rfl
)
rotate_left
·(
simp only [Act.put, List.setIfInBounds_toArray, List.set_cons_zero, List.set_cons_succ, i64_w, i32_w]
rfl
)
refine take_ (i := 10) (N := some 85) (v := ?_) (a' := ?_) #[T,T,T,T,T,T,T,T,T,T,T,F,F,F,F,F,F,F,F,F,F,F,F,F,F,F,F,F,F,F,F,F,F,F] rfl rfl (take_ofW HT_.out HW_.out (by kernel_rfl)) (fun _ _ _ h => h) (Or.inl ⟨by rfl, ?_⟩) hHeld ?_ ?_
rotate_left
·(
rintro w' ⟨s0, s1, s2, s3, s4, s5, s6, s7, s8, s9, s10⟩
go_simp
with_reducible rfl
)
rotate_left
·(
simp only [Act.put, List.setIfInBounds_toArray, List.set_cons_zero, List.set_cons_succ, i64_w, i32_w]
rfl
)
refine one_ (i := 11) (N := some 86) #[T,T,T,T,T,T,T,T,T,T,T,T,F,F,F,F,F,F,F,F,F,F,F,F,F,F,F,F,F,F,F,F,F,F] rfl rfl (one_of HT_.out (by kernel_rfl)) (by decide) (fun K hK => ?_)
refine goes_ Try.func41 (by kernel_rfl) rfl #[.slice (some ad149) y152.length c0_7, .string ((rd_T65 l0_7 x5_3).f0)] (by rfl) rfl rfl (by (try simp only [List.map_toArray, List.map_cons, List.map_nil]); first | done | rfl | (simp only [List.length_drop, List.length_take]; rfl)) ?_
with_reducible refine (sr19_Find.calls k3 _ _ y152 ((rd_T65 l0_7 x5_3).f0) t156 _ ?side1 ?side2 A33.out).mono ?_
(case side1 => repeat (first | exact (Kd.C_below HR155.out (by repeat (first | (with_reducible first | exact HB.out | apply below_alloc | apply pw_below_drewN | apply below_drew1 | refine below_set ?_ GE142.out | refine below_set ?_ GE150.out) | exact HB.out))) | (with_reducible refine Kd.C_alloc ?_ _) | (with_reducible refine Kd.C_drewN ?_ _) | (with_reducible refine Kd.C_drew ?_)))
(case side2 => exact HC155.out)
rintro e w' ⟨rfl, ⟨nd, rfl⟩⟩
refine ⟨_, rfl, ?_⟩
refine hK.out _ _ ⟨(blk_cell BK150.out 0).trans rfl, (blk_cell BK150.out 1).trans rfl, (blk_cell BK150.out 2).trans rfl, (blk_cell BK142.out 0).trans rfl, (blk_cell BK142.out 1).trans rfl, (blk_cell BK142.out 2).trans rfl, (blk_cell BK142.out 3).trans rfl, (blk_cell BK142.out 4).trans rfl, (blk_cell BK142.out 5).trans rfl, (blk_cell BK142.out 6).trans rfl, (blk_cell BK142.out 7).trans rfl⟩ (fun hHeld => ?_)
clear hK K
refine norm_ (a' := ?_) ?_ ?_
rotate_left
·(
show Act.put _ (some 86) _ = _
simp only [Act.put, List.setIfInBounds_toArray, List.set_cons_zero, List.set_cons_succ, i64_w, i32_w]
rfl
)
refine pure_ (i := 12) (N := some 87) (v := ?_) (a' := ?_) #[T,T,T,T,T,T,T,T,T,T,T,T,T,F,F,F,F,F,F,F,F,F,F,F,F,F,F,F,F,F,F,F,F,F] rfl rfl (any_of HT_.out (by kernel_rfl)) (fun _ _ _ h => h) (Or.inl ⟨by rfl, ?_⟩) ?_ ?_
rotate_left
·(
intro w'
go_simp
with_reducible rfl
)
rotate_left
·(
simp only [Act.put, List.setIfInBounds_toArray, List.set_cons_zero, List.set_cons_succ, i64_w, i32_w]
rfl
)
refine pure_ (i := 13) (N := some 88) (v := ?_) (a' := ?_) #[T,T,T,T,T,T,T,T,T,T,T,T,T,T,F,F,F,F,F,F,F,F,F,F,F,F,F,F,F,F,F,F,F,F] rfl rfl (any_of HT_.out (by kernel_rfl)) (fun _ _ _ h => h) (Or.inl ⟨by rfl, ?_⟩) ?_ ?_
rotate_left
·(
intro w'
go_simp
with_reducible rfl
)
rotate_left
·(
simp only [Act.put, List.setIfInBounds_toArray, List.set_cons_zero, List.set_cons_succ, i64_w, i32_w]
rfl
)
refine pure_ (i := 14) (N := some 89) (v := ?_) (a' := ?_) #[T,T,T,T,T,T,T,T,T,T,T,T,T,T,T,F,F,F,F,F,F,F,F,F,F,F,F,F,F,F,F,F,F,F] rfl rfl (any_of HT_.out (by kernel_rfl)) (fun _ _ _ h => h) (Or.inl ⟨by rfl, ?_⟩) ?_ ?_
rotate_left
·(
intro w'
go_simp
with_reducible rfl
)
rotate_left
·(
simp only [Act.put, List.setIfInBounds_toArray, List.set_cons_zero, List.set_cons_succ, i64_w, i32_w]
rfl
)
refine pure_ (i := 15) (N := some 90) (v := ?_) (a' := ?_) #[T,T,T,T,T,T,T,T,T,T,T,T,T,T,T,T,F,F,F,F,F,F,F,F,F,F,F,F,F,F,F,F,F,F] rfl rfl (any_of HT_.out (by kernel_rfl)) (fun _ _ _ h => h) (Or.inl ⟨by rfl, ?_⟩) ?_ ?_
rotate_left
·(
intro w'
go_simp
with_reducible rfl
)
rotate_left
·(
simp only [Act.put, List.setIfInBounds_toArray, List.set_cons_zero, List.set_cons_succ, i64_w, i32_w]
rfl
)
refine take_ (i := 16) (N := some 91) (v := ?_) (a' := ?_) #[T,T,T,T,T,T,T,T,T,T,T,T,T,T,T,T,T,F,F,F,F,F,F,F,F,F,F,F,F,F,F,F,F,F] rfl rfl (take_ofW HT_.out HW_.out (by kernel_rfl)) (fun _ _ _ h => h) (Or.inl ⟨by rfl, ?_⟩) hHeld ?_ ?_
rotate_left
·(
rintro w' ⟨s0, s1, s2, s3, s4, s5, s6, s7, s8, s9, s10⟩
go_simp
with_reducible rfl
)
rotate_left
·(
simp only [Act.put, List.setIfInBounds_toArray, List.set_cons_zero, List.set_cons_succ, i64_w, i32_w]
rfl
)
refine pure_ (i := 17) (N := some 92) (v := ?_) (a' := ?_) #[T,T,T,T,T,T,T,T,T,T,T,T,T,T,T,T,T,T,F,F,F,F,F,F,F,F,F,F,F,F,F,F,F,F] rfl rfl (any_of HT_.out (by kernel_rfl)) (fun _ _ _ h => h) (Or.inl ⟨by rfl, ?_⟩) ?_ ?_
rotate_left
·(
intro w'
go_simp
with_reducible rfl
)
rotate_left
·(
simp only [Act.put, List.setIfInBounds_toArray, List.set_cons_zero, List.set_cons_succ, i64_w, i32_w]
rfl
)
refine pure_ (i := 18) (N := some 93) (v := ?_) (a' := ?_) #[T,T,T,T,T,T,T,T,T,T,T,T,T,T,T,T,T,T,T,F,F,F,F,F,F,F,F,F,F,F,F,F,F,F] rfl rfl (any_of HT_.out (by kernel_rfl)) (fun _ _ _ h => h) (Or.inl ⟨by rfl, ?_⟩) ?_ ?_
rotate_left
·(
intro w'
go_simp
with_reducible rfl
)
rotate_left
·(
simp only [Act.put, List.setIfInBounds_toArray, List.set_cons_zero, List.set_cons_succ, i64_w, i32_w]
rfl
)
refine pure_ (i := 19) (N := some 94) (v := ?_) (a' := ?_) #[T,T,T,T,T,T,T,T,T,T,T,T,T,T,T,T,T,T,T,T,F,F,F,F,F,F,F,F,F,F,F,F,F,F] rfl rfl (any_of HT_.out (by kernel_rfl)) (fun _ _ _ h => h) (Or.inl ⟨by rfl, ?_⟩) ?_ ?_
rotate_left
·(
intro w'
go_simp
with_reducible rfl
)
rotate_left
·(
simp only [Act.put, List.setIfInBounds_toArray, List.set_cons_zero, List.set_cons_succ, i64_w, i32_w]
rfl
)
refine pure_ (i := 20) (N := some 95) (v := ?_) (a' := ?_) #[T,T,T,T,T,T,T,T,T,T,T,T,T,T,T,T,T,T,T,T,T,F,F,F,F,F,F,F,F,F,F,F,F,F] rfl rfl (any_of HT_.out (by kernel_rfl)) (fun _ _ _ h => h) (Or.inl ⟨by rfl, ?_⟩) ?_ ?_
rotate_left
·(
intro w'
go_simp
with_reducible rfl
)
rotate_left
·(
simp only [Act.put, List.setIfInBounds_toArray, List.set_cons_zero, List.set_cons_succ, i64_w, i32_w]
rfl
)
refine take_ (i := 21) (N := some 96) (v := ?_) (a' := ?_) #[T,T,T,T,T,T,T,T,T,T,T,T,T,T,T,T,T,T,T,T,T,T,F,F,F,F,F,F,F,F,F,F,F,F] rfl rfl (take_ofW HT_.out HW_.out (by kernel_rfl)) (fun _ _ _ h => h) (Or.inl ⟨by rfl, ?_⟩) hHeld ?_ ?_
rotate_left
·(
rintro w' ⟨s0, s1, s2, s3, s4, s5, s6, s7, s8, s9, s10⟩
go_simp
with_reducible rfl
)
rotate_left
·(
simp only [Act.put, List.setIfInBounds_toArray, List.set_cons_zero, List.set_cons_succ, i64_w, i32_w]
rfl
)
refine pure_ (i := 22) (N := some 97) (v := ?_) (a' := ?_) #[T,T,T,T,T,T,T,T,T,T,T,T,T,T,T,T,T,T,T,T,T,T,T,F,F,F,F,F,F,F,F,F,F,F] rfl rfl (any_of HT_.out (by kernel_rfl)) (fun _ _ _ h => h) (Or.inl ⟨by rfl, ?_⟩) ?_ ?_
rotate_left
·(
intro w'
go_simp
with_reducible rfl
)
rotate_left
·(
simp only [Act.put, List.setIfInBounds_toArray, List.set_cons_zero, List.set_cons_succ, i64_w, i32_w]
rfl
)
refine pure_ (i := 23) (N := some 98) (v := ?_) (a' := ?_) #[T,T,T,T,T,T,T,T,T,T,T,T,T,T,T,T,T,T,T,T,T,T,T,T,F,F,F,F,F,F,F,F,F,F] rfl rfl (any_of HT_.out (by kernel_rfl)) (fun _ _ _ h => h) (Or.inl ⟨by rfl, ?_⟩) ?_ ?_
rotate_left
·(
intro w'
go_simp
with_reducible rfl
)
rotate_left
·(
simp only [Act.put, List.setIfInBounds_toArray, List.set_cons_zero, List.set_cons_succ, i64_w, i32_w]
rfl
)
refine pure_ (i := 24) (N := some 99) (v := ?_) (a' := ?_) #[T,T,T,T,T,T,T,T,T,T,T,T,T,T,T,T,T,T,T,T,T,T,T,T,T,F,F,F,F,F,F,F,F,F] rfl rfl (any_of HT_.out (by kernel_rfl)) (fun _ _ _ h => h) (Or.inl ⟨by rfl, ?_⟩) ?_ ?_
rotate_left
·(
intro w'
go_simp
with_reducible rfl
)
rotate_left
·(
simp only [Act.put, List.setIfInBounds_toArray, List.set_cons_zero, List.set_cons_succ, i64_w, i32_w]
rfl
)
refine pure_ (i := 25) (N := some 100) (v := ?_) (a' := ?_) #[T,T,T,T,T,T,T,T,T,T,T,T,T,T,T,T,T,T,T,T,T,T,T,T,T,T,F,F,F,F,F,F,F,F] rfl rfl (any_of HT_.out (by kernel_rfl)) (fun _ _ _ h => h) (Or.inl ⟨by rfl, ?_⟩) ?_ ?_
rotate_left
·(
intro w'
go_simp
with_reducible rfl
)
rotate_left
·(
simp only [Act.put, List.setIfInBounds_toArray, List.set_cons_zero, List.set_cons_succ, i64_w, i32_w]
rfl
)
refine take_ (i := 26) (N := some 101) (v := ?_) (a' := ?_) #[T,T,T,T,T,T,T,T,T,T,T,T,T,T,T,T,T,T,T,T,T,T,T,T,T,T,T,F,F,F,F,F,F,F] rfl rfl (take_ofW HT_.out HW_.out (by kernel_rfl)) (fun _ _ _ h => h) (Or.inl ⟨by rfl, ?_⟩) hHeld ?_ ?_
rotate_left
·(
rintro w' ⟨s0, s1, s2, s3, s4, s5, s6, s7, s8, s9, s10⟩
go_simp
with_reducible rfl
)
rotate_left
·(
simp only [Act.put, List.setIfInBounds_toArray, List.set_cons_zero, List.set_cons_succ, i64_w, i32_w]
rfl
)
refine pure_ (i := 27) (N := some 102) (v := ?_) (a' := ?_) #[T,T,T,T,T,T,T,T,T,T,T,T,T,T,T,T,T,T,T,T,T,T,T,T,T,T,T,T,F,F,F,F,F,F] rfl rfl (any_of HT_.out (by kernel_rfl)) (fun _ _ _ h => h) (Or.inl ⟨by rfl, ?_⟩) ?_ ?_
rotate_left
·(
intro w'
go_simp
with_reducible rfl
)
rotate_left
·(
simp only [Act.put, List.setIfInBounds_toArray, List.set_cons_zero, List.set_cons_succ, i64_w, i32_w]
rfl
)
refine pure_ (i := 28) (N := some 103) (v := ?_) (a' := ?_) #[T,T,T,T,T,T,T,T,T,T,T,T,T,T,T,T,T,T,T,T,T,T,T,T,T,T,T,T,T,F,F,F,F,F] rfl rfl (any_of HT_.out (by kernel_rfl)) (fun _ _ _ h => h) (Or.inl ⟨by rfl, ?_⟩) ?_ ?_
rotate_left
·(
intro w'
go_simp
with_reducible rfl
)
rotate_left
·(
simp only [Act.put, List.setIfInBounds_toArray, List.set_cons_zero, List.set_cons_succ, i64_w, i32_w]
rfl
)
refine pure_ (i := 29) (N := some 104) (v := ?_) (a' := ?_) #[T,T,T,T,T,T,T,T,T,T,T,T,T,T,T,T,T,T,T,T,T,T,T,T,T,T,T,T,T,T,F,F,F,F] rfl rfl (any_of HT_.out (by kernel_rfl)) (fun _ _ _ h => h) (Or.inl ⟨by rfl, ?_⟩) ?_ ?_
rotate_left
·(
intro w'
go_simp
with_reducible rfl
)
rotate_left
·(
simp only [Act.put, List.setIfInBounds_toArray, List.set_cons_zero, List.set_cons_succ, i64_w, i32_w]
rfl
)
refine pure_ (i := 30) (N := some 105) (v := undef) (a' := ?_) #[T,T,T,T,T,T,T,T,T,T,T,T,T,T,T,T,T,T,T,T,T,T,T,T,T,T,T,T,T,T,T,F,F,F] rfl rfl (any_of HT_.out (by kernel_rfl)) (fun _ _ _ h => h) (Or.inr ⟨by rfl, rfl⟩) ?_ ?_
rotate_left
·(
simp only [Act.put, List.setIfInBounds_toArray, List.set_cons_zero, List.set_cons_succ, i64_w, i32_w]
rfl
)
refine pure_ (i := 31) (N := some 106) (v := undef) (a' := ?_) #[T,T,T,T,T,T,T,T,T,T,T,T,T,T,T,T,T,T,T,T,T,T,T,T,T,T,T,T,T,T,T,T,F,F] rfl rfl (any_of HT_.out (by kernel_rfl)) (fun _ _ _ h => h) (Or.inr ⟨by rfl, rfl⟩) ?_ ?_
rotate_left
·(
simp only [Act.put, List.setIfInBounds_toArray, List.set_cons_zero, List.set_cons_succ, i64_w, i32_w]
rfl
)
refine pure_ (i := 32) (N := some 107) (v := undef) (a' := ?_) #[T,T,T,T,T,T,T,T,T,T,T,T,T,T,T,T,T,T,T,T,T,T,T,T,T,T,T,T,T,T,T,T,T,F] rfl rfl (any_of HT_.out (by kernel_rfl)) (fun _ _ _ h => h) (Or.inr ⟨by rfl, rfl⟩) ?_ ?_
rotate_left
·(
simp only [Act.put, List.setIfInBounds_toArray, List.set_cons_zero, List.set_cons_succ, i64_w, i32_w]
rfl
)
refine pure_ (i := 33) (N := some 108) (v := ?_) (a' := ?_) #[T,T,T,T,T,T,T,T,T,T,T,T,T,T,T,T,T,T,T,T,T,T,T,T,T,T,T,T,T,T,T,T,T,T] rfl rfl (any_of HT_.out (by kernel_rfl)) (fun _ _ _ h => h) (Or.inl ⟨by rfl, ?_⟩) ?_ ?_
rotate_left
·(
intro w'
go_simp
with_reducible rfl
)
rotate_left
·(
simp only [Act.put, List.setIfInBounds_toArray, List.set_cons_zero, List.set_cons_succ, i64_w, i32_w]
rfl
)
refine done_ (done_of HT_.out (by kernel_rfl)) ?_
try go_wp2
go_ret
exact ⟨by first | rfl | (simp [errW_none, errW_some] <;> rfl) | (simp [*, errW_none, errW_some] <;> rfl), by repeat (first | (with_reducible first | exact HB.out | apply below_alloc | apply pw_below_drewN | apply below_drew1 | refine below_set ?_ GE142.out | refine below_set ?_ GE150.out) | exact HB.out)⟩
)
·(
rw [if_neg c58] at H
have c58b0 : decide (((rd_T65 l0_7 x5_3).f2) < 0) = false := decide_eq_false c58
clear c58
by_cases c66 : ((rd_T65 l0_7 x5_3).f2) > 1073741824
·(
rw [if_pos c66] at H
have c66b0 : decide (1073741824 < ((rd_T65 l0_7 x5_3).f2)) = true := decide_eq_true c66
clear c66
obtain rfl := Option.some.inj H
have hcz67_0 : wr.cell? ⟨gb142, 0, none⟩ = some (.string a0_0) := (blk_cell BK142.out 0).trans rfl
have hcz67_1 : wr.cell? ⟨gb142, 1, none⟩ = some (.string a0_1) := (blk_cell BK142.out 1).trans rfl
have hcz67_2 : wr.cell? ⟨gb142, 2, none⟩ = some (.string a0_2) := (blk_cell BK142.out 2).trans rfl
have hcz67_3 : wr.cell? ⟨gb142, 3, none⟩ = some (.string a0_3) := (blk_cell BK142.out 3).trans rfl
have hcz67_4 : wr.cell? ⟨gb142, 4, none⟩ = some (.string a0_4) := (blk_cell BK142.out 4).trans rfl
have hcz67_5 : wr.cell? ⟨gb142, 5, none⟩ = some (.string a0_5) := (blk_cell BK142.out 5).trans rfl
have hcz67_6 : wr.cell? ⟨gb142, 6, none⟩ = some (.int .i64 a0_6) := (blk_cell BK142.out 6).trans rfl
have hcz67_7 : wr.cell? ⟨gb142, 7, none⟩ = some (.slice A0_7 l0_7.length c0_7) := (blk_cell BK142.out 7).trans rfl
have hfz67_0 := blk_frozen BK142.out 0
have hfz67_1 := blk_frozen BK142.out 1
have hfz67_2 := blk_frozen BK142.out 2
have hfz67_3 := blk_frozen BK142.out 3
have hfz67_4 := blk_frozen BK142.out 4
have hfz67_5 := blk_frozen BK142.out 5
have hfz67_6 := blk_frozen BK142.out 6
have hfz67_7 := blk_frozen BK142.out 7
have p149 : 0 ≤ (x5_3 : Int) := of_decide_eq_true (by first | (with_reducible assumption) | assumption)
have q149 : x5_3 < (l0_7.length : Int) := of_decide_eq_true (by first | (with_reducible assumption) | assumption)
obtain ⟨ad149, e149, hx149_0, hx149_1, hx149_2⟩ := at_T65 HR0_7.out x5_3 p149 q149
cases e149
replace hx149_0 := (HB.out.cell (World.block_lt_of_cell? w _ hx149_0)).trans hx149_0
replace hx149_1 := (HB.out.cell (World.block_lt_of_cell? w _ hx149_1)).trans hx149_1
replace hx149_2 := (HB.out.cell (World.block_lt_of_cell? w _ hx149_2)).trans hx149_2
replace p149 := eq_true p149
replace q149 := eq_true q149
try go_wp2_with (first | ((with_reducible refine gate_dst (N := 6) rfl ?_); (try (refine gate_guard (by rfl) ?_; dsimp only)); refine box_event ?hg (N := 6) ?hd (cs := #[.string (⟨#[]⟩ : ByteArray), .int .i64 0, .int .i64 0]) (t := 65) ?hr ?_; (case hd => rfl); (case hg => rfl); (case hr => first | (go_simp; done) | (go_simp; rfl)); intro gb150 hg w68 hbox hb; have n0_ := Aside0.mk (blk_below (g := gb142) (o := .cells #[.string a0_0, .string a0_1, .string a0_2, .string a0_3, .string a0_4, .string a0_5, .int .i64 a0_6, .slice (some ad149) l0_7.length c0_7] 24 (0, 0)) (by (with_reducible repeat (first | refine blk_drewN ?_ _ | refine blk_drew ?_ | refine blk_alloc ?_ _)); exact BK142.out) hb); have n1_ := Aside0.mk (below_step (by repeat (first | (with_reducible first | exact HB.out | apply below_alloc | apply pw_below_drewN | apply below_drew1 | refine below_set ?_ GE142.out) | exact HB.out)) hb); have n2_ := Aside0.mk (hbox); have n3_ := Aside0.mk ((by rw [hg]; exact (below_size (by repeat (first | (with_reducible first | exact HB.out | apply below_alloc | apply pw_below_drewN | apply below_drew1 | refine below_set ?_ GE142.out) | exact HB.out))) : w.heap.size ≤ gb150)); have n4_ := Aside0.mk ((by rw [hg]; exact (below_size (by repeat (first | (with_reducible first | exact HB.out | apply below_alloc | apply pw_below_drewN | apply below_drew1 | refine below_set ?_ GE142.out) | exact HB.out))) : w.heap.size ≤ gb150)); have n5_ := Aside0.mk ((by rw [hg]; exact Nat.ne_of_lt (blk_lt (g := gb142) (o := .cells #[.string a0_0, .string a0_1, .string a0_2, .string a0_3, .string a0_4, .string a0_5, .int .i64 a0_6, .slice (some ad149) l0_7.length c0_7] 24 (0, 0)) (by (with_reducible repeat (first | refine blk_drewN ?_ _ | refine blk_drew ?_ | refine blk_alloc ?_ _)); exact BK142.out)) : gb142 ≠ gb150)); have n6_ := Aside0.mk ((by rw [hg]; exact Nat.ne_of_gt (blk_lt (g := gb142) (o := .cells #[.string a0_0, .string a0_1, .string a0_2, .string a0_3, .string a0_4, .string a0_5, .int .i64 a0_6, .slice (some ad149) l0_7.length c0_7] 24 (0, 0)) (by (with_reducible repeat (first | refine blk_drewN ?_ _ | refine blk_drew ?_ | refine blk_alloc ?_ _)); exact BK142.out)) : gb150 ≠ gb142)); clear BK142; clear HB; have BK142 := n0_; have HB := n1_; have BK150 := n2_; have GW150 := n3_; have GE150 := n4_; have NB142_150 := n5_; have NB150_142 := n6_; clear n0_ n1_ n2_ n3_ n4_ n5_ n6_; clear hb hbox hg; have hnb69 := NB150_142.out; have hnc69 := NB142_150.out; have hcz70_0 : w68.cell? ⟨gb150, 0, none⟩ = some (.string (⟨#[]⟩ : ByteArray)) := (blk_cell BK150.out 0).trans rfl; have hcz70_1 : w68.cell? ⟨gb150, 1, none⟩ = some (.int .i64 0) := (blk_cell BK150.out 1).trans rfl; have hcz70_2 : w68.cell? ⟨gb150, 2, none⟩ = some (.int .i64 0) := (blk_cell BK150.out 2).trans rfl; have hfz70_0 := blk_frozen BK150.out 0; have hfz70_1 := blk_frozen BK150.out 1; have hfz70_2 := blk_frozen BK150.out 2))
have n0_ : Aside0 ((((w68.setCell ⟨gb150, 0, none⟩ (.string ((rd_T65 l0_7 x5_3).f0))).setCell ⟨gb150, 1, none⟩ (.int .i64 ((rd_T65 l0_7 x5_3).f1))).setCell ⟨gb150, 2, none⟩ (.int .i64 ((rd_T65 l0_7 x5_3).f2))).heap[gb142]? = some (.cells #[.string a0_0, .string a0_1, .string a0_2, .string a0_3, .string a0_4, .string a0_5, .int .i64 a0_6, .slice (some ad149) l0_7.length c0_7] 24 (0, 0))) := ⟨by (with_reducible repeat (first | refine blk_drewN ?_ _ | refine blk_drew ?_ | refine blk_alloc ?_ _)); refine blk_far ?_ NB142_150.out _; (with_reducible repeat (first | refine blk_drewN ?_ _ | refine blk_drew ?_ | refine blk_alloc ?_ _)); refine blk_far ?_ NB142_150.out _; (with_reducible repeat (first | refine blk_drewN ?_ _ | refine blk_drew ?_ | refine blk_alloc ?_ _)); refine blk_far ?_ NB142_150.out _; (with_reducible repeat (first | refine blk_drewN ?_ _ | refine blk_drew ?_ | refine blk_alloc ?_ _)); exact BK142.out⟩
have n1_ : Aside0 ((((w68.setCell ⟨gb150, 0, none⟩ (.string ((rd_T65 l0_7 x5_3).f0))).setCell ⟨gb150, 1, none⟩ (.int .i64 ((rd_T65 l0_7 x5_3).f1))).setCell ⟨gb150, 2, none⟩ (.int .i64 ((rd_T65 l0_7 x5_3).f2))).heap[gb150]? = some (.cells #[.string ((rd_T65 l0_7 x5_3).f0), .int .i64 ((rd_T65 l0_7 x5_3).f1), .int .i64 ((rd_T65 l0_7 x5_3).f2)] 65 (0, 0))) := ⟨by (with_reducible repeat (first | refine blk_drewN ?_ _ | refine blk_drew ?_ | refine blk_alloc ?_ _)); refine blk_put (cs := #[.string ((rd_T65 l0_7 x5_3).f0), .int .i64 ((rd_T65 l0_7 x5_3).f1), .int .i64 0]) ?_ 2 _ rfl; (with_reducible repeat (first | refine blk_drewN ?_ _ | refine blk_drew ?_ | refine blk_alloc ?_ _)); refine blk_put (cs := #[.string ((rd_T65 l0_7 x5_3).f0), .int .i64 0, .int .i64 0]) ?_ 1 _ rfl; (with_reducible repeat (first | refine blk_drewN ?_ _ | refine blk_drew ?_ | refine blk_alloc ?_ _)); refine blk_put (cs := #[.string (⟨#[]⟩ : ByteArray), .int .i64 0, .int .i64 0]) ?_ 0 _ rfl; (with_reducible repeat (first | refine blk_drewN ?_ _ | refine blk_drew ?_ | refine blk_alloc ?_ _)); exact BK150.out⟩
have n2_ : Aside0 (Below w.heap.size w (((w68.setCell ⟨gb150, 0, none⟩ (.string ((rd_T65 l0_7 x5_3).f0))).setCell ⟨gb150, 1, none⟩ (.int .i64 ((rd_T65 l0_7 x5_3).f1))).setCell ⟨gb150, 2, none⟩ (.int .i64 ((rd_T65 l0_7 x5_3).f2)))) := ⟨by repeat (first | (with_reducible first | exact HB.out | apply below_alloc | apply pw_below_drewN | apply below_drew1 | refine below_set ?_ GE142.out | refine below_set ?_ GE150.out) | exact HB.out)⟩
(try clear BK142)
(try clear BK150)
(try clear HB)
generalize (((w68.setCell ⟨gb150, 0, none⟩ (.string ((rd_T65 l0_7 x5_3).f0))).setCell ⟨gb150, 1, none⟩ (.int .i64 ((rd_T65 l0_7 x5_3).f1))).setCell ⟨gb150, 2, none⟩ (.int .i64 ((rd_T65 l0_7 x5_3).f2))) = w71 at n0_ n1_ n2_ ⊢
have BK142 := n0_
have BK150 := n1_
have HB := n2_
clear n0_ n1_ n2_
have n0_ := Aside0.mk (blk_drew BK142.out)
have n1_ := Aside0.mk (blk_drew BK150.out)
have n2_ := Aside0.mk (below_drew1 HB.out)
clear BK142
clear BK150
clear HB
have BK142 := n0_
have BK150 := n1_
have HB := n2_
clear n0_ n1_ n2_
refine start_ (n := 34) (S := fun w' => w'.cell? ⟨gb150, 0, none⟩ = some (.string ((rd_T65 l0_7 x5_3).f0)) ∧ w'.cell? ⟨gb150, 1, none⟩ = some (.int .i64 ((rd_T65 l0_7 x5_3).f1)) ∧ w'.cell? ⟨gb150, 2, none⟩ = some (.int .i64 ((rd_T65 l0_7 x5_3).f2)) ∧ w'.cell? ⟨gb142, 0, none⟩ = some (.string a0_0) ∧ w'.cell? ⟨gb142, 1, none⟩ = some (.string a0_1) ∧ w'.cell? ⟨gb142, 2, none⟩ = some (.string a0_2) ∧ w'.cell? ⟨gb142, 3, none⟩ = some (.string a0_3) ∧ w'.cell? ⟨gb142, 4, none⟩ = some (.string a0_4) ∧ w'.cell? ⟨gb142, 5, none⟩ = some (.string a0_5) ∧ w'.cell? ⟨gb142, 6, none⟩ = some (.int .i64 a0_6) ∧ w'.cell? ⟨gb142, 7, none⟩ = some (.slice (some ad149) l0_7.length c0_7)) (ds := []) #[F,F,F,F,F,F,F,F,F,F,F,F,F,F,F,F,F,F,F,F,F,F,F,F,F,F,F,F,F,F,F,F,F,F] (by kernel_rfl) rfl rfl ⟨(blk_cell BK150.out 0).trans rfl, (blk_cell BK150.out 1).trans rfl, (blk_cell BK150.out 2).trans rfl, (blk_cell BK142.out 0).trans rfl, (blk_cell BK142.out 1).trans rfl, (blk_cell BK142.out 2).trans rfl, (blk_cell BK142.out 3).trans rfl, (blk_cell BK142.out 4).trans rfl, (blk_cell BK142.out 5).trans rfl, (blk_cell BK142.out 6).trans rfl, (blk_cell BK142.out 7).trans rfl⟩ (fun hHeld => ?_); refine with_tabW sr19_May.tab13 sr19_May.bits13 (fun HT_ HW_ => ?_)
generalize w71.drew = w72 at BK142 BK150 HB hHeld ⊢
refine pure_ (i := 0) (N := some 75) (v := ?_) (a' := ?_) #[T,F,F,F,F,F,F,F,F,F,F,F,F,F,F,F,F,F,F,F,F,F,F,F,F,F,F,F,F,F,F,F,F,F] rfl rfl (any_of HT_.out (by kernel_rfl)) (fun _ _ _ h => h) (Or.inl ⟨by rfl, ?_⟩) ?_ ?_
rotate_left
·(
intro w'
go_simp
with_reducible rfl
)
rotate_left
·(
simp only [Act.put, List.setIfInBounds_toArray, List.set_cons_zero, List.set_cons_succ, i64_w, i32_w]
rfl
)
refine take_ (i := 1) (N := some 76) (v := ?_) (a' := ?_) #[T,T,F,F,F,F,F,F,F,F,F,F,F,F,F,F,F,F,F,F,F,F,F,F,F,F,F,F,F,F,F,F,F,F] rfl rfl (take_ofW HT_.out HW_.out (by kernel_rfl)) (fun _ _ _ h => h) (Or.inl ⟨by rfl, ?_⟩) hHeld ?_ ?_
rotate_left
·(
rintro w' ⟨s0, s1, s2, s3, s4, s5, s6, s7, s8, s9, s10⟩
go_simp
with_reducible rfl
)
rotate_left
·(
simp only [Act.put, List.setIfInBounds_toArray, List.set_cons_zero, List.set_cons_succ, i64_w, i32_w]
rfl
)
refine one_ (i := 2) (N := some 77) #[T,T,T,F,F,F,F,F,F,F,F,F,F,F,F,F,F,F,F,F,F,F,F,F,F,F,F,F,F,F,F,F,F,F] rfl rfl (one_of HT_.out (by kernel_rfl)) (by decide) (fun K hK => ?_)
refine goes_ Try.func39 (by kernel_rfl) rfl #[.string ((rd_T65 l0_7 x5_3).f0)] (by rfl) rfl rfl (by (try simp only [List.map_toArray, List.map_cons, List.map_nil]); first | done | rfl | (simp only [List.length_drop, List.length_take]; rfl)) ?_
with_reducible refine (sr03_Name.calls k3 ((rd_T65 l0_7 x5_3).f0) true _ A29.out).mono ?_
rintro e w' ⟨rfl, ⟨nd, rfl⟩⟩
refine ⟨_, rfl, ?_⟩
have q73 : (x5_3 : Int) ≤ ((l0_7.length : Int) : Int) := of_decide_eq_true (by first | (with_reducible assumption) | assumption)
obtain ⟨i073, hi073, _, hsz73, _⟩ := info_parts info65
have hroom73 : l0_7.length ≤ c0_7 := HC0_7.out
have hC73 : Kd.C k65 _ (some ad149) l0_7.length l0_7 := HR0_7.out
have hcut73 := cut_to (P := Try.prog) 22 65 .i64 Try.underlying22 hi073 (some ad149) l0_7.length c0_7 x5_3 (of_decide_eq_true (by first | (with_reducible assumption) | assumption)) q73 hroom73
have hr73 := Kd.C_take (m := (x5_3 : Int).toNat) hC73 (by omega)
have hy73 : y152.length = (x5_3 : Int).toNat := (by rw [Ny152.out, List.length_take]; omega)
rw [← Ny152.out] at hr73
rw [← hy73] at hcut73
have HR155 := Aside0.mk hr73
have HC155 := Aside0.mk (show y152.length ≤ c0_7 from by omega)
clear hr73 hC73 hroom73 hi073 hsz73
have KY73 := Aside0.mk hy73
clear hy73
replace q73 := eq_true q73
refine hK.out _ _ ⟨(blk_cell BK150.out 0).trans rfl, (blk_cell BK150.out 1).trans rfl, (blk_cell BK150.out 2).trans rfl, (blk_cell BK142.out 0).trans rfl, (blk_cell BK142.out 1).trans rfl, (blk_cell BK142.out 2).trans rfl, (blk_cell BK142.out 3).trans rfl, (blk_cell BK142.out 4).trans rfl, (blk_cell BK142.out 5).trans rfl, (blk_cell BK142.out 6).trans rfl, (blk_cell BK142.out 7).trans rfl⟩ (fun hHeld => ?_)
clear hK K
refine norm_ (a' := ?_) ?_ ?_
rotate_left
·(
show Act.put _ (some 77) _ = _
simp only [Act.put, List.setIfInBounds_toArray, List.set_cons_zero, List.set_cons_succ, i64_w, i32_w]
rfl
)
refine pure_ (i := 3) (N := some 78) (v := ?_) (a' := ?_) #[T,T,T,T,F,F,F,F,F,F,F,F,F,F,F,F,F,F,F,F,F,F,F,F,F,F,F,F,F,F,F,F,F,F] rfl rfl (any_of HT_.out (by kernel_rfl)) (fun _ _ _ h => h) (Or.inl ⟨by rfl, ?_⟩) ?_ ?_
rotate_left
·(
intro w'
go_simp
with_reducible rfl
)
rotate_left
·(
simp only [Act.put, List.setIfInBounds_toArray, List.set_cons_zero, List.set_cons_succ, i64_w, i32_w]
rfl
)
refine pure_ (i := 4) (N := some 79) (v := ?_) (a' := ?_) #[T,T,T,T,T,F,F,F,F,F,F,F,F,F,F,F,F,F,F,F,F,F,F,F,F,F,F,F,F,F,F,F,F,F] rfl rfl (any_of HT_.out (by kernel_rfl)) (fun _ _ _ h => h) (Or.inl ⟨by rfl, ?_⟩) ?_ ?_
rotate_left
·(
intro w'
go_simp
with_reducible rfl
)
rotate_left
·(
simp only [Act.put, List.setIfInBounds_toArray, List.set_cons_zero, List.set_cons_succ, i64_w, i32_w]
rfl
)
refine pure_ (i := 5) (N := some 80) (v := ?_) (a' := ?_) #[T,T,T,T,T,T,F,F,F,F,F,F,F,F,F,F,F,F,F,F,F,F,F,F,F,F,F,F,F,F,F,F,F,F] rfl rfl (any_of HT_.out (by kernel_rfl)) (fun _ _ _ h => h) (Or.inl ⟨by rfl, ?_⟩) ?_ ?_
rotate_left
·(
intro w'
go_simp
with_reducible rfl
)
rotate_left
·(
simp only [Act.put, List.setIfInBounds_toArray, List.set_cons_zero, List.set_cons_succ, i64_w, i32_w]
rfl
)
refine pure_ (i := 7) (N := some 82) (v := ?_) (a' := ?_) #[T,T,T,T,T,T,F,T,F,F,F,F,F,F,F,F,F,F,F,F,F,F,F,F,F,F,F,F,F,F,F,F,F,F] rfl rfl (any_of HT_.out (by kernel_rfl)) (fun _ _ _ h => h) (Or.inl ⟨by rfl, ?_⟩) ?_ ?_
rotate_left
·(
intro w'
go_simp
with_reducible rfl
)
rotate_left
·(
simp only [Act.put, List.setIfInBounds_toArray, List.set_cons_zero, List.set_cons_succ, i64_w, i32_w]
rfl
)
refine pure_ (i := 9) (N := some 84) (v := ?_) (a' := ?_) #[T,T,T,T,T,T,F,T,F,T,F,F,F,F,F,F,F,F,F,F,F,F,F,F,F,F,F,F,F,F,F,F,F,F] rfl rfl (any_of HT_.out (by kernel_rfl)) (fun _ _ _ h => h) (Or.inl ⟨by rfl, ?_⟩) ?_ ?_
rotate_left
·(
intro w'
go_simp
with_reducible rfl
)
rotate_left
·(
simp only [Act.put, List.setIfInBounds_toArray, List.set_cons_zero, List.set_cons_succ, i64_w, i32_w]
rfl
)
refine take_ (i := 6) (N := some 81) (v := ?_) (a' := ?_) #[T,T,T,T,T,T,T,T,F,T,F,F,F,F,F,F,F,F,F,F,F,F,F,F,F,F,F,F,F,F,F,F,F,F] rfl rfl (take_ofW HT_.out HW_.out (by kernel_rfl)) (fun _ _ _ h => h) (Or.inl ⟨by rfl, ?_⟩) hHeld ?_ ?_
rotate_left
·(
rintro w' ⟨s0, s1, s2, s3, s4, s5, s6, s7, s8, s9, s10⟩
go_simp
with_reducible rfl
)
rotate_left
·(
simp only [Act.put, List.setIfInBounds_toArray, List.set_cons_zero, List.set_cons_succ, i64_w, i32_w]
rfl
)
refine pure_ (i := 8) (N := some 83) (v := ?_) (a' := ?_) #[T,T,T,T,T,T,T,T,T,T,F,F,F,F,F,F,F,F,F,F,F,F,F,F,F,F,F,F,F,F,F,F,F,F] rfl rfl (any_of HT_.out (by kernel_rfl)) (fun _ _ _ h => h) (Or.inl ⟨by rfl, ?_⟩) ?_ ?_
rotate_left
·(
intro w'
go_simp
with_reducible rfl
)
rotate_left
·(
simp only [Act.put, List.setIfInBounds_toArray, List.set_cons_zero, List.set_cons_succ, i64_w, i32_w]
rfl
)
refine take_ (i := 10) (N := some 85) (v := ?_) (a' := ?_) #[T,T,T,T,T,T,T,T,T,T,T,F,F,F,F,F,F,F,F,F,F,F,F,F,F,F,F,F,F,F,F,F,F,F] rfl rfl (take_ofW HT_.out HW_.out (by kernel_rfl)) (fun _ _ _ h => h) (Or.inl ⟨by rfl, ?_⟩) hHeld ?_ ?_
rotate_left
·(
rintro w' ⟨s0, s1, s2, s3, s4, s5, s6, s7, s8, s9, s10⟩
go_simp
with_reducible rfl
)
rotate_left
·(
simp only [Act.put, List.setIfInBounds_toArray, List.set_cons_zero, List.set_cons_succ, i64_w, i32_w]
rfl
)
refine one_ (i := 11) (N := some 86) #[T,T,T,T,T,T,T,T,T,T,T,T,F,F,F,F,F,F,F,F,F,F,F,F,F,F,F,F,F,F,F,F,F,F] rfl rfl (one_of HT_.out (by kernel_rfl)) (by decide) (fun K hK => ?_)
refine goes_ Try.func41 (by kernel_rfl) rfl #[.slice (some ad149) y152.length c0_7, .string ((rd_T65 l0_7 x5_3).f0)] (by rfl) rfl rfl (by (try simp only [List.map_toArray, List.map_cons, List.map_nil]); first | done | rfl | (simp only [List.length_drop, List.length_take]; rfl)) ?_
with_reducible refine (sr19_Find.calls k3 _ _ y152 ((rd_T65 l0_7 x5_3).f0) t156 _ ?side1 ?side2 A33.out).mono ?_
(case side1 => repeat (first | exact (Kd.C_below HR155.out (by repeat (first | (with_reducible first | exact HB.out | apply below_alloc | apply pw_below_drewN | apply below_drew1 | refine below_set ?_ GE142.out | refine below_set ?_ GE150.out) | exact HB.out))) | (with_reducible refine Kd.C_alloc ?_ _) | (with_reducible refine Kd.C_drewN ?_ _) | (with_reducible refine Kd.C_drew ?_)))
(case side2 => exact HC155.out)
rintro e w' ⟨rfl, ⟨nd, rfl⟩⟩
refine ⟨_, rfl, ?_⟩
refine hK.out _ _ ⟨(blk_cell BK150.out 0).trans rfl, (blk_cell BK150.out 1).trans rfl, (blk_cell BK150.out 2).trans rfl, (blk_cell BK142.out 0).trans rfl, (blk_cell BK142.out 1).trans rfl, (blk_cell BK142.out 2).trans rfl, (blk_cell BK142.out 3).trans rfl, (blk_cell BK142.out 4).trans rfl, (blk_cell BK142.out 5).trans rfl, (blk_cell BK142.out 6).trans rfl, (blk_cell BK142.out 7).trans rfl⟩ (fun hHeld => ?_)
clear hK K
refine norm_ (a' := ?_) ?_ ?_
rotate_left
·(
show Act.put _ (some 86) _ = _
simp only [Act.put, List.setIfInBounds_toArray, List.set_cons_zero, List.set_cons_succ, i64_w, i32_w]
rfl
)
refine pure_ (i := 12) (N := some 87) (v := ?_) (a' := ?_) #[T,T,T,T,T,T,T,T,T,T,T,T,T,F,F,F,F,F,F,F,F,F,F,F,F,F,F,F,F,F,F,F,F,F] rfl rfl (any_of HT_.out (by kernel_rfl)) (fun _ _ _ h => h) (Or.inl ⟨by rfl, ?_⟩) ?_ ?_
rotate_left
·(
intro w'
go_simp
with_reducible rfl
)
rotate_left
·(
simp only [Act.put, List.setIfInBounds_toArray, List.set_cons_zero, List.set_cons_succ, i64_w, i32_w]
rfl
)
refine pure_ (i := 13) (N := some 88) (v := ?_) (a' := ?_) #[T,T,T,T,T,T,T,T,T,T,T,T,T,T,F,F,F,F,F,F,F,F,F,F,F,F,F,F,F,F,F,F,F,F] rfl rfl (any_of HT_.out (by kernel_rfl)) (fun _ _ _ h => h) (Or.inl ⟨by rfl, ?_⟩) ?_ ?_
rotate_left
·(
intro w'
go_simp
with_reducible rfl
)
rotate_left
·(
simp only [Act.put, List.setIfInBounds_toArray, List.set_cons_zero, List.set_cons_succ, i64_w, i32_w]
rfl
)
refine pure_ (i := 14) (N := some 89) (v := ?_) (a' := ?_) #[T,T,T,T,T,T,T,T,T,T,T,T,T,T,T,F,F,F,F,F,F,F,F,F,F,F,F,F,F,F,F,F,F,F] rfl rfl (any_of HT_.out (by kernel_rfl)) (fun _ _ _ h => h) (Or.inl ⟨by rfl, ?_⟩) ?_ ?_
rotate_left
·(
intro w'
go_simp
with_reducible rfl
)
rotate_left
·(
simp only [Act.put, List.setIfInBounds_toArray, List.set_cons_zero, List.set_cons_succ, i64_w, i32_w]
rfl
)
refine pure_ (i := 15) (N := some 90) (v := ?_) (a' := ?_) #[T,T,T,T,T,T,T,T,T,T,T,T,T,T,T,T,F,F,F,F,F,F,F,F,F,F,F,F,F,F,F,F,F,F] rfl rfl (any_of HT_.out (by kernel_rfl)) (fun _ _ _ h => h) (Or.inl ⟨by rfl, ?_⟩) ?_ ?_
rotate_left
·(
intro w'
go_simp
with_reducible rfl
)
rotate_left
·(
simp only [Act.put, List.setIfInBounds_toArray, List.set_cons_zero, List.set_cons_succ, i64_w, i32_w]
rfl
)
refine take_ (i := 16) (N := some 91) (v := ?_) (a' := ?_) #[T,T,T,T,T,T,T,T,T,T,T,T,T,T,T,T,T,F,F,F,F,F,F,F,F,F,F,F,F,F,F,F,F,F] rfl rfl (take_ofW HT_.out HW_.out (by kernel_rfl)) (fun _ _ _ h => h) (Or.inl ⟨by rfl, ?_⟩) hHeld ?_ ?_
rotate_left
·(
rintro w' ⟨s0, s1, s2, s3, s4, s5, s6, s7, s8, s9, s10⟩
go_simp
with_reducible rfl
)
rotate_left
·(
simp only [Act.put, List.setIfInBounds_toArray, List.set_cons_zero, List.set_cons_succ, i64_w, i32_w]
rfl
)
refine pure_ (i := 17) (N := some 92) (v := ?_) (a' := ?_) #[T,T,T,T,T,T,T,T,T,T,T,T,T,T,T,T,T,T,F,F,F,F,F,F,F,F,F,F,F,F,F,F,F,F] rfl rfl (any_of HT_.out (by kernel_rfl)) (fun _ _ _ h => h) (Or.inl ⟨by rfl, ?_⟩) ?_ ?_
rotate_left
·(
intro w'
go_simp
with_reducible rfl
)
rotate_left
·(
simp only [Act.put, List.setIfInBounds_toArray, List.set_cons_zero, List.set_cons_succ, i64_w, i32_w]
rfl
)
refine pure_ (i := 18) (N := some 93) (v := ?_) (a' := ?_) #[T,T,T,T,T,T,T,T,T,T,T,T,T,T,T,T,T,T,T,F,F,F,F,F,F,F,F,F,F,F,F,F,F,F] rfl rfl (any_of HT_.out (by kernel_rfl)) (fun _ _ _ h => h) (Or.inl ⟨by rfl, ?_⟩) ?_ ?_
rotate_left
·(
intro w'
go_simp
with_reducible rfl
)
rotate_left
·(
simp only [Act.put, List.setIfInBounds_toArray, List.set_cons_zero, List.set_cons_succ, i64_w, i32_w]
rfl
)
refine pure_ (i := 19) (N := some 94) (v := ?_) (a' := ?_) #[T,T,T,T,T,T,T,T,T,T,T,T,T,T,T,T,T,T,T,T,F,F,F,F,F,F,F,F,F,F,F,F,F,F] rfl rfl (any_of HT_.out (by kernel_rfl)) (fun _ _ _ h => h) (Or.inl ⟨by rfl, ?_⟩) ?_ ?_
rotate_left
·(
intro w'
go_simp
with_reducible rfl
)
rotate_left
·(
simp only [Act.put, List.setIfInBounds_toArray, List.set_cons_zero, List.set_cons_succ, i64_w, i32_w]
rfl
)
refine pure_ (i := 20) (N := some 95) (v := ?_) (a' := ?_) #[T,T,T,T,T,T,T,T,T,T,T,T,T,T,T,T,T,T,T,T,T,F,F,F,F,F,F,F,F,F,F,F,F,F] rfl rfl (any_of HT_.out (by kernel_rfl)) (fun _ _ _ h => h) (Or.inl ⟨by rfl, ?_⟩) ?_ ?_
rotate_left
·(
intro w'
go_simp
with_reducible rfl
)
rotate_left
·(
simp only [Act.put, List.setIfInBounds_toArray, List.set_cons_zero, List.set_cons_succ, i64_w, i32_w]
rfl
)
refine take_ (i := 21) (N := some 96) (v := ?_) (a' := ?_) #[T,T,T,T,T,T,T,T,T,T,T,T,T,T,T,T,T,T,T,T,T,T,F,F,F,F,F,F,F,F,F,F,F,F] rfl rfl (take_ofW HT_.out HW_.out (by kernel_rfl)) (fun _ _ _ h => h) (Or.inl ⟨by rfl, ?_⟩) hHeld ?_ ?_
rotate_left
·(
rintro w' ⟨s0, s1, s2, s3, s4, s5, s6, s7, s8, s9, s10⟩
go_simp
with_reducible rfl
)
rotate_left
·(
simp only [Act.put, List.setIfInBounds_toArray, List.set_cons_zero, List.set_cons_succ, i64_w, i32_w]
rfl
)
refine pure_ (i := 22) (N := some 97) (v := ?_) (a' := ?_) #[T,T,T,T,T,T,T,T,T,T,T,T,T,T,T,T,T,T,T,T,T,T,T,F,F,F,F,F,F,F,F,F,F,F] rfl rfl (any_of HT_.out (by kernel_rfl)) (fun _ _ _ h => h) (Or.inl ⟨by rfl, ?_⟩) ?_ ?_
rotate_left
·(
intro w'
go_simp
with_reducible rfl
)
rotate_left
·(
simp only [Act.put, List.setIfInBounds_toArray, List.set_cons_zero, List.set_cons_succ, i64_w, i32_w]
rfl
)
refine pure_ (i := 23) (N := some 98) (v := ?_) (a' := ?_) #[T,T,T,T,T,T,T,T,T,T,T,T,T,T,T,T,T,T,T,T,T,T,T,T,F,F,F,F,F,F,F,F,F,F] rfl rfl (any_of HT_.out (by kernel_rfl)) (fun _ _ _ h => h) (Or.inl ⟨by rfl, ?_⟩) ?_ ?_
rotate_left
·(
intro w'
go_simp
with_reducible rfl
)
rotate_left
·(
simp only [Act.put, List.setIfInBounds_toArray, List.set_cons_zero, List.set_cons_succ, i64_w, i32_w]
rfl
)
refine pure_ (i := 24) (N := some 99) (v := ?_) (a' := ?_) #[T,T,T,T,T,T,T,T,T,T,T,T,T,T,T,T,T,T,T,T,T,T,T,T,T,F,F,F,F,F,F,F,F,F] rfl rfl (any_of HT_.out (by kernel_rfl)) (fun _ _ _ h => h) (Or.inl ⟨by rfl, ?_⟩) ?_ ?_
rotate_left
·(
intro w'
go_simp
with_reducible rfl
)
rotate_left
·(
simp only [Act.put, List.setIfInBounds_toArray, List.set_cons_zero, List.set_cons_succ, i64_w, i32_w]
rfl
)
refine pure_ (i := 25) (N := some 100) (v := ?_) (a' := ?_) #[T,T,T,T,T,T,T,T,T,T,T,T,T,T,T,T,T,T,T,T,T,T,T,T,T,T,F,F,F,F,F,F,F,F] rfl rfl (any_of HT_.out (by kernel_rfl)) (fun _ _ _ h => h) (Or.inl ⟨by rfl, ?_⟩) ?_ ?_
rotate_left
·(
intro w'
go_simp
with_reducible rfl
)
rotate_left
·(
simp only [Act.put, List.setIfInBounds_toArray, List.set_cons_zero, List.set_cons_succ, i64_w, i32_w]
rfl
)
refine take_ (i := 26) (N := some 101) (v := ?_) (a' := ?_) #[T,T,T,T,T,T,T,T,T,T,T,T,T,T,T,T,T,T,T,T,T,T,T,T,T,T,T,F,F,F,F,F,F,F] rfl rfl (take_ofW HT_.out HW_.out (by kernel_rfl)) (fun _ _ _ h => h) (Or.inl ⟨by rfl, ?_⟩) hHeld ?_ ?_
rotate_left
·(
rintro w' ⟨s0, s1, s2, s3, s4, s5, s6, s7, s8, s9, s10⟩
go_simp
with_reducible rfl
)
rotate_left
·(
simp only [Act.put, List.setIfInBounds_toArray, List.set_cons_zero, List.set_cons_succ, i64_w, i32_w]
rfl
)
refine pure_ (i := 27) (N := some 102) (v := ?_) (a' := ?_) #[T,T,T,T,T,T,T,T,T,T,T,T,T,T,T,T,T,T,T,T,T,T,T,T,T,T,T,T,F,F,F,F,F,F] rfl rfl (any_of HT_.out (by kernel_rfl)) (fun _ _ _ h => h) (Or.inl ⟨by rfl, ?_⟩) ?_ ?_
rotate_left
·(
intro w'
go_simp
with_reducible rfl
)
rotate_left
·(
simp only [Act.put, List.setIfInBounds_toArray, List.set_cons_zero, List.set_cons_succ, i64_w, i32_w]
rfl
)
refine pure_ (i := 28) (N := some 103) (v := ?_) (a' := ?_) #[T,T,T,T,T,T,T,T,T,T,T,T,T,T,T,T,T,T,T,T,T,T,T,T,T,T,T,T,T,F,F,F,F,F] rfl rfl (any_of HT_.out (by kernel_rfl)) (fun _ _ _ h => h) (Or.inl ⟨by rfl, ?_⟩) ?_ ?_
rotate_left
·(
intro w'
go_simp
with_reducible rfl
)
rotate_left
·(
simp only [Act.put, List.setIfInBounds_toArray, List.set_cons_zero, List.set_cons_succ, i64_w, i32_w]
rfl
)
refine pure_ (i := 29) (N := some 104) (v := ?_) (a' := ?_) #[T,T,T,T,T,T,T,T,T,T,T,T,T,T,T,T,T,T,T,T,T,T,T,T,T,T,T,T,T,T,F,F,F,F] rfl rfl (any_of HT_.out (by kernel_rfl)) (fun _ _ _ h => h) (Or.inl ⟨by rfl, ?_⟩) ?_ ?_
rotate_left
·(
intro w'
go_simp
with_reducible rfl
)
rotate_left
·(
simp only [Act.put, List.setIfInBounds_toArray, List.set_cons_zero, List.set_cons_succ, i64_w, i32_w]
rfl
)
refine pure_ (i := 30) (N := some 105) (v := ?_) (a' := ?_) #[T,T,T,T,T,T,T,T,T,T,T,T,T,T,T,T,T,T,T,T,T,T,T,T,T,T,T,T,T,T,T,F,F,F] rfl rfl (any_of HT_.out (by kernel_rfl)) (fun _ _ _ h => h) (Or.inl ⟨by rfl, ?_⟩) ?_ ?_
rotate_left
·(
intro w'
go_simp
with_reducible rfl
)
rotate_left
·(
simp only [Act.put, List.setIfInBounds_toArray, List.set_cons_zero, List.set_cons_succ, i64_w, i32_w]
rfl
)
refine take_ (i := 31) (N := some 106) (v := ?_) (a' := ?_) #[T,T,T,T,T,T,T,T,T,T,T,T,T,T,T,T,T,T,T,T,T,T,T,T,T,T,T,T,T,T,T,T,F,F] rfl rfl (take_ofW HT_.out HW_.out (by kernel_rfl)) (fun _ _ _ h => h) (Or.inl ⟨by rfl, ?_⟩) hHeld ?_ ?_
rotate_left
·(
rintro w' ⟨s0, s1, s2, s3, s4, s5, s6, s7, s8, s9, s10⟩
go_simp
with_reducible rfl
)
rotate_left
·(
simp only [Act.put, List.setIfInBounds_toArray, List.set_cons_zero, List.set_cons_succ, i64_w, i32_w]
rfl
)
refine pure_ (i := 32) (N := some 107) (v := ?_) (a' := ?_) #[T,T,T,T,T,T,T,T,T,T,T,T,T,T,T,T,T,T,T,T,T,T,T,T,T,T,T,T,T,T,T,T,T,F] rfl rfl (any_of HT_.out (by kernel_rfl)) (fun _ _ _ h => h) (Or.inl ⟨by rfl, ?_⟩) ?_ ?_
rotate_left
·(
intro w'
go_simp
with_reducible rfl
)
rotate_left
·(
simp only [Act.put, List.setIfInBounds_toArray, List.set_cons_zero, List.set_cons_succ, i64_w, i32_w]
rfl
)
refine pure_ (i := 33) (N := some 108) (v := ?_) (a' := ?_) #[T,T,T,T,T,T,T,T,T,T,T,T,T,T,T,T,T,T,T,T,T,T,T,T,T,T,T,T,T,T,T,T,T,T] rfl rfl (any_of HT_.out (by kernel_rfl)) (fun _ _ _ h => h) (Or.inl ⟨by rfl, ?_⟩) ?_ ?_
rotate_left
·(
intro w'
go_simp
with_reducible rfl
)
rotate_left
·(
simp only [Act.put, List.setIfInBounds_toArray, List.set_cons_zero, List.set_cons_succ, i64_w, i32_w]
rfl
)
refine done_ (done_of HT_.out (by kernel_rfl)) ?_
try go_wp2
go_ret
exact ⟨by first | rfl | (simp [errW_none, errW_some] <;> rfl) | (simp [*, errW_none, errW_some] <;> rfl), by repeat (first | (with_reducible first | exact HB.out | apply below_alloc | apply pw_below_drewN | apply below_drew1 | refine below_set ?_ GE142.out | refine below_set ?_ GE150.out) | exact HB.out)⟩
)
·(
rw [if_neg c66] at H
have c66b0 : decide (1073741824 < ((rd_T65 l0_7 x5_3).f2)) = false := decide_eq_false c66
clear c66
have H' := Aside0.mk H
clear H
have hcz74_0 : wr.cell? ⟨gb142, 0, none⟩ = some (.string a0_0) := (blk_cell BK142.out 0).trans rfl
have hcz74_1 : wr.cell? ⟨gb142, 1, none⟩ = some (.string a0_1) := (blk_cell BK142.out 1).trans rfl
have hcz74_2 : wr.cell? ⟨gb142, 2, none⟩ = some (.string a0_2) := (blk_cell BK142.out 2).trans rfl
have hcz74_3 : wr.cell? ⟨gb142, 3, none⟩ = some (.string a0_3) := (blk_cell BK142.out 3).trans rfl
have hcz74_4 : wr.cell? ⟨gb142, 4, none⟩ = some (.string a0_4) := (blk_cell BK142.out 4).trans rfl
have hcz74_5 : wr.cell? ⟨gb142, 5, none⟩ = some (.string a0_5) := (blk_cell BK142.out 5).trans rfl
have hcz74_6 : wr.cell? ⟨gb142, 6, none⟩ = some (.int .i64 a0_6) := (blk_cell BK142.out 6).trans rfl
have hcz74_7 : wr.cell? ⟨gb142, 7, none⟩ = some (.slice A0_7 l0_7.length c0_7) := (blk_cell BK142.out 7).trans rfl
have hfz74_0 := blk_frozen BK142.out 0
have hfz74_1 := blk_frozen BK142.out 1
have hfz74_2 := blk_frozen BK142.out 2
have hfz74_3 := blk_frozen BK142.out 3
have hfz74_4 := blk_frozen BK142.out 4
have hfz74_5 := blk_frozen BK142.out 5
have hfz74_6 := blk_frozen BK142.out 6
have hfz74_7 := blk_frozen BK142.out 7
have p149 : 0 ≤ (x5_3 : Int) := of_decide_eq_true (by first | (with_reducible assumption) | assumption)
have q149 : x5_3 < (l0_7.length : Int) := of_decide_eq_true (by first | (with_reducible assumption) | assumption)
obtain ⟨ad149, e149, hx149_0, hx149_1, hx149_2⟩ := at_T65 HR0_7.out x5_3 p149 q149
cases e149
replace hx149_0 := (HB.out.cell (World.block_lt_of_cell? w _ hx149_0)).trans hx149_0
replace hx149_1 := (HB.out.cell (World.block_lt_of_cell? w _ hx149_1)).trans hx149_1
replace hx149_2 := (HB.out.cell (World.block_lt_of_cell? w _ hx149_2)).trans hx149_2
replace p149 := eq_true p149
replace q149 := eq_true q149
try go_wp2_with (first | ((with_reducible refine gate_dst (N := 6) rfl ?_); (try (refine gate_guard (by rfl) ?_; dsimp only)); refine box_event ?hg (N := 6) ?hd (cs := #[.string (⟨#[]⟩ : ByteArray), .int .i64 0, .int .i64 0]) (t := 65) ?hr ?_; (case hd => rfl); (case hg => rfl); (case hr => first | (go_simp; done) | (go_simp; rfl)); intro gb150 hg w75 hbox hb; have n0_ := Aside0.mk (blk_below (g := gb142) (o := .cells #[.string a0_0, .string a0_1, .string a0_2, .string a0_3, .string a0_4, .string a0_5, .int .i64 a0_6, .slice (some ad149) l0_7.length c0_7] 24 (0, 0)) (by (with_reducible repeat (first | refine blk_drewN ?_ _ | refine blk_drew ?_ | refine blk_alloc ?_ _)); exact BK142.out) hb); have n1_ := Aside0.mk (below_step (by repeat (first | (with_reducible first | exact HB.out | apply below_alloc | apply pw_below_drewN | apply below_drew1 | refine below_set ?_ GE142.out) | exact HB.out)) hb); have n2_ := Aside0.mk (hbox); have n3_ := Aside0.mk ((by rw [hg]; exact (below_size (by repeat (first | (with_reducible first | exact HB.out | apply below_alloc | apply pw_below_drewN | apply below_drew1 | refine below_set ?_ GE142.out) | exact HB.out))) : w.heap.size ≤ gb150)); have n4_ := Aside0.mk ((by rw [hg]; exact (below_size (by repeat (first | (with_reducible first | exact HB.out | apply below_alloc | apply pw_below_drewN | apply below_drew1 | refine below_set ?_ GE142.out) | exact HB.out))) : w.heap.size ≤ gb150)); have n5_ := Aside0.mk ((by rw [hg]; exact Nat.ne_of_lt (blk_lt (g := gb142) (o := .cells #[.string a0_0, .string a0_1, .string a0_2, .string a0_3, .string a0_4, .string a0_5, .int .i64 a0_6, .slice (some ad149) l0_7.length c0_7] 24 (0, 0)) (by (with_reducible repeat (first | refine blk_drewN ?_ _ | refine blk_drew ?_ | refine blk_alloc ?_ _)); exact BK142.out)) : gb142 ≠ gb150)); have n6_ := Aside0.mk ((by rw [hg]; exact Nat.ne_of_gt (blk_lt (g := gb142) (o := .cells #[.string a0_0, .string a0_1, .string a0_2, .string a0_3, .string a0_4, .string a0_5, .int .i64 a0_6, .slice (some ad149) l0_7.length c0_7] 24 (0, 0)) (by (with_reducible repeat (first | refine blk_drewN ?_ _ | refine blk_drew ?_ | refine blk_alloc ?_ _)); exact BK142.out)) : gb150 ≠ gb142)); clear BK142; clear HB; have BK142 := n0_; have HB := n1_; have BK150 := n2_; have GW150 := n3_; have GE150 := n4_; have NB142_150 := n5_; have NB150_142 := n6_; clear n0_ n1_ n2_ n3_ n4_ n5_ n6_; clear hb hbox hg; have hnb76 := NB150_142.out; have hnc76 := NB142_150.out; have hcz77_0 : w75.cell? ⟨gb150, 0, none⟩ = some (.string (⟨#[]⟩ : ByteArray)) := (blk_cell BK150.out 0).trans rfl; have hcz77_1 : w75.cell? ⟨gb150, 1, none⟩ = some (.int .i64 0) := (blk_cell BK150.out 1).trans rfl; have hcz77_2 : w75.cell? ⟨gb150, 2, none⟩ = some (.int .i64 0) := (blk_cell BK150.out 2).trans rfl; have hfz77_0 := blk_frozen BK150.out 0; have hfz77_1 := blk_frozen BK150.out 1; have hfz77_2 := blk_frozen BK150.out 2))
have n0_ : Aside0 ((((w75.setCell ⟨gb150, 0, none⟩ (.string ((rd_T65 l0_7 x5_3).f0))).setCell ⟨gb150, 1, none⟩ (.int .i64 ((rd_T65 l0_7 x5_3).f1))).setCell ⟨gb150, 2, none⟩ (.int .i64 ((rd_T65 l0_7 x5_3).f2))).heap[gb142]? = some (.cells #[.string a0_0, .string a0_1, .string a0_2, .string a0_3, .string a0_4, .string a0_5, .int .i64 a0_6, .slice (some ad149) l0_7.length c0_7] 24 (0, 0))) := ⟨by (with_reducible repeat (first | refine blk_drewN ?_ _ | refine blk_drew ?_ | refine blk_alloc ?_ _)); refine blk_far ?_ NB142_150.out _; (with_reducible repeat (first | refine blk_drewN ?_ _ | refine blk_drew ?_ | refine blk_alloc ?_ _)); refine blk_far ?_ NB142_150.out _; (with_reducible repeat (first | refine blk_drewN ?_ _ | refine blk_drew ?_ | refine blk_alloc ?_ _)); refine blk_far ?_ NB142_150.out _; (with_reducible repeat (first | refine blk_drewN ?_ _ | refine blk_drew ?_ | refine blk_alloc ?_ _)); exact BK142.out⟩
have n1_ : Aside0 ((((w75.setCell ⟨gb150, 0, none⟩ (.string ((rd_T65 l0_7 x5_3).f0))).setCell ⟨gb150, 1, none⟩ (.int .i64 ((rd_T65 l0_7 x5_3).f1))).setCell ⟨gb150, 2, none⟩ (.int .i64 ((rd_T65 l0_7 x5_3).f2))).heap[gb150]? = some (.cells #[.string ((rd_T65 l0_7 x5_3).f0), .int .i64 ((rd_T65 l0_7 x5_3).f1), .int .i64 ((rd_T65 l0_7 x5_3).f2)] 65 (0, 0))) := ⟨by (with_reducible repeat (first | refine blk_drewN ?_ _ | refine blk_drew ?_ | refine blk_alloc ?_ _)); refine blk_put (cs := #[.string ((rd_T65 l0_7 x5_3).f0), .int .i64 ((rd_T65 l0_7 x5_3).f1), .int .i64 0]) ?_ 2 _ rfl; (with_reducible repeat (first | refine blk_drewN ?_ _ | refine blk_drew ?_ | refine blk_alloc ?_ _)); refine blk_put (cs := #[.string ((rd_T65 l0_7 x5_3).f0), .int .i64 0, .int .i64 0]) ?_ 1 _ rfl; (with_reducible repeat (first | refine blk_drewN ?_ _ | refine blk_drew ?_ | refine blk_alloc ?_ _)); refine blk_put (cs := #[.string (⟨#[]⟩ : ByteArray), .int .i64 0, .int .i64 0]) ?_ 0 _ rfl; (with_reducible repeat (first | refine blk_drewN ?_ _ | refine blk_drew ?_ | refine blk_alloc ?_ _)); exact BK150.out⟩
have n2_ : Aside0 (Below w.heap.size w (((w75.setCell ⟨gb150, 0, none⟩ (.string ((rd_T65 l0_7 x5_3).f0))).setCell ⟨gb150, 1, none⟩ (.int .i64 ((rd_T65 l0_7 x5_3).f1))).setCell ⟨gb150, 2, none⟩ (.int .i64 ((rd_T65 l0_7 x5_3).f2)))) := ⟨by repeat (first | (with_reducible first | exact HB.out | apply below_alloc | apply pw_below_drewN | apply below_drew1 | refine below_set ?_ GE142.out | refine below_set ?_ GE150.out) | exact HB.out)⟩
(try clear BK142)
(try clear BK150)
(try clear HB)
generalize (((w75.setCell ⟨gb150, 0, none⟩ (.string ((rd_T65 l0_7 x5_3).f0))).setCell ⟨gb150, 1, none⟩ (.int .i64 ((rd_T65 l0_7 x5_3).f1))).setCell ⟨gb150, 2, none⟩ (.int .i64 ((rd_T65 l0_7 x5_3).f2))) = w78 at n0_ n1_ n2_ ⊢
have BK142 := n0_
have BK150 := n1_
have HB := n2_
clear n0_ n1_ n2_
have n0_ := Aside0.mk (blk_drew BK142.out)
have n1_ := Aside0.mk (blk_drew BK150.out)
have n2_ := Aside0.mk (below_drew1 HB.out)
clear BK142
clear BK150
clear HB
have BK142 := n0_
have BK150 := n1_
have HB := n2_
clear n0_ n1_ n2_
refine start_ (n := 34) (S := fun w' => w'.cell? ⟨gb150, 0, none⟩ = some (.string ((rd_T65 l0_7 x5_3).f0)) ∧ w'.cell? ⟨gb150, 1, none⟩ = some (.int .i64 ((rd_T65 l0_7 x5_3).f1)) ∧ w'.cell? ⟨gb150, 2, none⟩ = some (.int .i64 ((rd_T65 l0_7 x5_3).f2)) ∧ w'.cell? ⟨gb142, 0, none⟩ = some (.string a0_0) ∧ w'.cell? ⟨gb142, 1, none⟩ = some (.string a0_1) ∧ w'.cell? ⟨gb142, 2, none⟩ = some (.string a0_2) ∧ w'.cell? ⟨gb142, 3, none⟩ = some (.string a0_3) ∧ w'.cell? ⟨gb142, 4, none⟩ = some (.string a0_4) ∧ w'.cell? ⟨gb142, 5, none⟩ = some (.string a0_5) ∧ w'.cell? ⟨gb142, 6, none⟩ = some (.int .i64 a0_6) ∧ w'.cell? ⟨gb142, 7, none⟩ = some (.slice (some ad149) l0_7.length c0_7)) (ds := []) #[F,F,F,F,F,F,F,F,F,F,F,F,F,F,F,F,F,F,F,F,F,F,F,F,F,F,F,F,F,F,F,F,F,F] (by kernel_rfl) rfl rfl ⟨(blk_cell BK150.out 0).trans rfl, (blk_cell BK150.out 1).trans rfl, (blk_cell BK150.out 2).trans rfl, (blk_cell BK142.out 0).trans rfl, (blk_cell BK142.out 1).trans rfl, (blk_cell BK142.out 2).trans rfl, (blk_cell BK142.out 3).trans rfl, (blk_cell BK142.out 4).trans rfl, (blk_cell BK142.out 5).trans rfl, (blk_cell BK142.out 6).trans rfl, (blk_cell BK142.out 7).trans rfl⟩ (fun hHeld => ?_); refine with_tabW sr19_May.tab13 sr19_May.bits13 (fun HT_ HW_ => ?_)
generalize w78.drew = w79 at BK142 BK150 HB hHeld ⊢
refine pure_ (i := 0) (N := some 75) (v := ?_) (a' := ?_) #[T,F,F,F,F,F,F,F,F,F,F,F,F,F,F,F,F,F,F,F,F,F,F,F,F,F,F,F,F,F,F,F,F,F] rfl rfl (any_of HT_.out (by kernel_rfl)) (fun _ _ _ h => h) (Or.inl ⟨by rfl, ?_⟩) ?_ ?_
rotate_left
·(
intro w'
go_simp
with_reducible rfl
)
rotate_left
·(
simp only [Act.put, List.setIfInBounds_toArray, List.set_cons_zero, List.set_cons_succ, i64_w, i32_w]
rfl
)
refine take_ (i := 1) (N := some 76) (v := ?_) (a' := ?_) #[T,T,F,F,F,F,F,F,F,F,F,F,F,F,F,F,F,F,F,F,F,F,F,F,F,F,F,F,F,F,F,F,F,F] rfl rfl (take_ofW HT_.out HW_.out (by kernel_rfl)) (fun _ _ _ h => h) (Or.inl ⟨by rfl, ?_⟩) hHeld ?_ ?_
rotate_left
·(
rintro w' ⟨s0, s1, s2, s3, s4, s5, s6, s7, s8, s9, s10⟩
go_simp
with_reducible rfl
)
rotate_left
·(
simp only [Act.put, List.setIfInBounds_toArray, List.set_cons_zero, List.set_cons_succ, i64_w, i32_w]
rfl
)
refine one_ (i := 2) (N := some 77) #[T,T,T,F,F,F,F,F,F,F,F,F,F,F,F,F,F,F,F,F,F,F,F,F,F,F,F,F,F,F,F,F,F,F] rfl rfl (one_of HT_.out (by kernel_rfl)) (by decide) (fun K hK => ?_)
refine goes_ Try.func39 (by kernel_rfl) rfl #[.string ((rd_T65 l0_7 x5_3).f0)] (by rfl) rfl rfl (by (try simp only [List.map_toArray, List.map_cons, List.map_nil]); first | done | rfl | (simp only [List.length_drop, List.length_take]; rfl)) ?_
with_reducible refine (sr03_Name.calls k3 ((rd_T65 l0_7 x5_3).f0) true _ A29.out).mono ?_
rintro e w' ⟨rfl, ⟨nd, rfl⟩⟩
refine ⟨_, rfl, ?_⟩
have q80 : (x5_3 : Int) ≤ ((l0_7.length : Int) : Int) := of_decide_eq_true (by first | (with_reducible assumption) | assumption)
obtain ⟨i080, hi080, _, hsz80, _⟩ := info_parts info65
have hroom80 : l0_7.length ≤ c0_7 := HC0_7.out
have hC80 : Kd.C k65 _ (some ad149) l0_7.length l0_7 := HR0_7.out
have hcut80 := cut_to (P := Try.prog) 22 65 .i64 Try.underlying22 hi080 (some ad149) l0_7.length c0_7 x5_3 (of_decide_eq_true (by first | (with_reducible assumption) | assumption)) q80 hroom80
have hr80 := Kd.C_take (m := (x5_3 : Int).toNat) hC80 (by omega)
have hy80 : y152.length = (x5_3 : Int).toNat := (by rw [Ny152.out, List.length_take]; omega)
rw [← Ny152.out] at hr80
rw [← hy80] at hcut80
have HR155 := Aside0.mk hr80
have HC155 := Aside0.mk (show y152.length ≤ c0_7 from by omega)
clear hr80 hC80 hroom80 hi080 hsz80
have KY80 := Aside0.mk hy80
clear hy80
replace q80 := eq_true q80
refine hK.out _ _ ⟨(blk_cell BK150.out 0).trans rfl, (blk_cell BK150.out 1).trans rfl, (blk_cell BK150.out 2).trans rfl, (blk_cell BK142.out 0).trans rfl, (blk_cell BK142.out 1).trans rfl, (blk_cell BK142.out 2).trans rfl, (blk_cell BK142.out 3).trans rfl, (blk_cell BK142.out 4).trans rfl, (blk_cell BK142.out 5).trans rfl, (blk_cell BK142.out 6).trans rfl, (blk_cell BK142.out 7).trans rfl⟩ (fun hHeld => ?_)
clear hK K
refine norm_ (a' := ?_) ?_ ?_
rotate_left
·(
show Act.put _ (some 77) _ = _
simp only [Act.put, List.setIfInBounds_toArray, List.set_cons_zero, List.set_cons_succ, i64_w, i32_w]
rfl
)
refine pure_ (i := 3) (N := some 78) (v := ?_) (a' := ?_) #[T,T,T,T,F,F,F,F,F,F,F,F,F,F,F,F,F,F,F,F,F,F,F,F,F,F,F,F,F,F,F,F,F,F] rfl rfl (any_of HT_.out (by kernel_rfl)) (fun _ _ _ h => h) (Or.inl ⟨by rfl, ?_⟩) ?_ ?_
rotate_left
·(
intro w'
go_simp
with_reducible rfl
)
rotate_left
·(
simp only [Act.put, List.setIfInBounds_toArray, List.set_cons_zero, List.set_cons_succ, i64_w, i32_w]
rfl
)
refine pure_ (i := 4) (N := some 79) (v := ?_) (a' := ?_) #[T,T,T,T,T,F,F,F,F,F,F,F,F,F,F,F,F,F,F,F,F,F,F,F,F,F,F,F,F,F,F,F,F,F] rfl rfl (any_of HT_.out (by kernel_rfl)) (fun _ _ _ h => h) (Or.inl ⟨by rfl, ?_⟩) ?_ ?_
rotate_left
·(
intro w'
go_simp
with_reducible rfl
)
rotate_left
·(
simp only [Act.put, List.setIfInBounds_toArray, List.set_cons_zero, List.set_cons_succ, i64_w, i32_w]
rfl
)
refine pure_ (i := 5) (N := some 80) (v := ?_) (a' := ?_) #[T,T,T,T,T,T,F,F,F,F,F,F,F,F,F,F,F,F,F,F,F,F,F,F,F,F,F,F,F,F,F,F,F,F] rfl rfl (any_of HT_.out (by kernel_rfl)) (fun _ _ _ h => h) (Or.inl ⟨by rfl, ?_⟩) ?_ ?_
rotate_left
·(
intro w'
go_simp
with_reducible rfl
)
rotate_left
·(
simp only [Act.put, List.setIfInBounds_toArray, List.set_cons_zero, List.set_cons_succ, i64_w, i32_w]
rfl
)
refine pure_ (i := 7) (N := some 82) (v := ?_) (a' := ?_) #[T,T,T,T,T,T,F,T,F,F,F,F,F,F,F,F,F,F,F,F,F,F,F,F,F,F,F,F,F,F,F,F,F,F] rfl rfl (any_of HT_.out (by kernel_rfl)) (fun _ _ _ h => h) (Or.inl ⟨by rfl, ?_⟩) ?_ ?_
rotate_left
·(
intro w'
go_simp
with_reducible rfl
)
rotate_left
·(
simp only [Act.put, List.setIfInBounds_toArray, List.set_cons_zero, List.set_cons_succ, i64_w, i32_w]
rfl
)
refine pure_ (i := 9) (N := some 84) (v := ?_) (a' := ?_) #[T,T,T,T,T,T,F,T,F,T,F,F,F,F,F,F,F,F,F,F,F,F,F,F,F,F,F,F,F,F,F,F,F,F] rfl rfl (any_of HT_.out (by kernel_rfl)) (fun _ _ _ h => h) (Or.inl ⟨by rfl, ?_⟩) ?_ ?_
rotate_left
·(
intro w'
go_simp
with_reducible rfl
)
rotate_left
·(
simp only [Act.put, List.setIfInBounds_toArray, List.set_cons_zero, List.set_cons_succ, i64_w, i32_w]
rfl
)
refine take_ (i := 6) (N := some 81) (v := ?_) (a' := ?_) #[T,T,T,T,T,T,T,T,F,T,F,F,F,F,F,F,F,F,F,F,F,F,F,F,F,F,F,F,F,F,F,F,F,F] rfl rfl (take_ofW HT_.out HW_.out (by kernel_rfl)) (fun _ _ _ h => h) (Or.inl ⟨by rfl, ?_⟩) hHeld ?_ ?_
rotate_left
·(
rintro w' ⟨s0, s1, s2, s3, s4, s5, s6, s7, s8, s9, s10⟩
go_simp
with_reducible rfl
)
rotate_left
·(
simp only [Act.put, List.setIfInBounds_toArray, List.set_cons_zero, List.set_cons_succ, i64_w, i32_w]
rfl
)
refine pure_ (i := 8) (N := some 83) (v := ?_) (a' := ?_) #[T,T,T,T,T,T,T,T,T,T,F,F,F,F,F,F,F,F,F,F,F,F,F,F,F,F,F,F,F,F,F,F,F,F] rfl rfl (any_of HT_.out (by kernel_rfl)) (fun _ _ _ h => h) (Or.inl ⟨by rfl, ?_⟩) ?_ ?_
rotate_left
·(
intro w'
go_simp
with_reducible rfl
)
rotate_left
·(
simp only [Act.put, List.setIfInBounds_toArray, List.set_cons_zero, List.set_cons_succ, i64_w, i32_w]
rfl
)
refine take_ (i := 10) (N := some 85) (v := ?_) (a' := ?_) #[T,T,T,T,T,T,T,T,T,T,T,F,F,F,F,F,F,F,F,F,F,F,F,F,F,F,F,F,F,F,F,F,F,F] rfl rfl (take_ofW HT_.out HW_.out (by kernel_rfl)) (fun _ _ _ h => h) (Or.inl ⟨by rfl, ?_⟩) hHeld ?_ ?_
rotate_left
·(
rintro w' ⟨s0, s1, s2, s3, s4, s5, s6, s7, s8, s9, s10⟩
go_simp
with_reducible rfl
)
rotate_left
·(
simp only [Act.put, List.setIfInBounds_toArray, List.set_cons_zero, List.set_cons_succ, i64_w, i32_w]
rfl
)
refine one_ (i := 11) (N := some 86) #[T,T,T,T,T,T,T,T,T,T,T,T,F,F,F,F,F,F,F,F,F,F,F,F,F,F,F,F,F,F,F,F,F,F] rfl rfl (one_of HT_.out (by kernel_rfl)) (by decide) (fun K hK => ?_)
refine goes_ Try.func41 (by kernel_rfl) rfl #[.slice (some ad149) y152.length c0_7, .string ((rd_T65 l0_7 x5_3).f0)] (by rfl) rfl rfl (by (try simp only [List.map_toArray, List.map_cons, List.map_nil]); first | done | rfl | (simp only [List.length_drop, List.length_take]; rfl)) ?_
with_reducible refine (sr19_Find.calls k3 _ _ y152 ((rd_T65 l0_7 x5_3).f0) t156 _ ?side1 ?side2 A33.out).mono ?_
(case side1 => repeat (first | exact (Kd.C_below HR155.out (by repeat (first | (with_reducible first | exact HB.out | apply below_alloc | apply pw_below_drewN | apply below_drew1 | refine below_set ?_ GE142.out | refine below_set ?_ GE150.out) | exact HB.out))) | (with_reducible refine Kd.C_alloc ?_ _) | (with_reducible refine Kd.C_drewN ?_ _) | (with_reducible refine Kd.C_drew ?_)))
(case side2 => exact HC155.out)
rintro e w' ⟨rfl, ⟨nd, rfl⟩⟩
refine ⟨_, rfl, ?_⟩
refine hK.out _ _ ⟨(blk_cell BK150.out 0).trans rfl, (blk_cell BK150.out 1).trans rfl, (blk_cell BK150.out 2).trans rfl, (blk_cell BK142.out 0).trans rfl, (blk_cell BK142.out 1).trans rfl, (blk_cell BK142.out 2).trans rfl, (blk_cell BK142.out 3).trans rfl, (blk_cell BK142.out 4).trans rfl, (blk_cell BK142.out 5).trans rfl, (blk_cell BK142.out 6).trans rfl, (blk_cell BK142.out 7).trans rfl⟩ (fun hHeld => ?_)
clear hK K
refine norm_ (a' := ?_) ?_ ?_
rotate_left
·(
show Act.put _ (some 86) _ = _
simp only [Act.put, List.setIfInBounds_toArray, List.set_cons_zero, List.set_cons_succ, i64_w, i32_w]
rfl
)
refine pure_ (i := 12) (N := some 87) (v := ?_) (a' := ?_) #[T,T,T,T,T,T,T,T,T,T,T,T,T,F,F,F,F,F,F,F,F,F,F,F,F,F,F,F,F,F,F,F,F,F] rfl rfl (any_of HT_.out (by kernel_rfl)) (fun _ _ _ h => h) (Or.inl ⟨by rfl, ?_⟩) ?_ ?_
rotate_left
·(
intro w'
go_simp
with_reducible rfl
)
rotate_left
·(
simp only [Act.put, List.setIfInBounds_toArray, List.set_cons_zero, List.set_cons_succ, i64_w, i32_w]
rfl
)
refine pure_ (i := 13) (N := some 88) (v := ?_) (a' := ?_) #[T,T,T,T,T,T,T,T,T,T,T,T,T,T,F,F,F,F,F,F,F,F,F,F,F,F,F,F,F,F,F,F,F,F] rfl rfl (any_of HT_.out (by kernel_rfl)) (fun _ _ _ h => h) (Or.inl ⟨by rfl, ?_⟩) ?_ ?_
rotate_left
·(
intro w'
go_simp
with_reducible rfl
)
rotate_left
·(
simp only [Act.put, List.setIfInBounds_toArray, List.set_cons_zero, List.set_cons_succ, i64_w, i32_w]
rfl
)
refine pure_ (i := 14) (N := some 89) (v := ?_) (a' := ?_) #[T,T,T,T,T,T,T,T,T,T,T,T,T,T,T,F,F,F,F,F,F,F,F,F,F,F,F,F,F,F,F,F,F,F] rfl rfl (any_of HT_.out (by kernel_rfl)) (fun _ _ _ h => h) (Or.inl ⟨by rfl, ?_⟩) ?_ ?_
rotate_left
·(
intro w'
go_simp
with_reducible rfl
)
rotate_left
·(
simp only [Act.put, List.setIfInBounds_toArray, List.set_cons_zero, List.set_cons_succ, i64_w, i32_w]
rfl
)
refine pure_ (i := 15) (N := some 90) (v := ?_) (a' := ?_) #[T,T,T,T,T,T,T,T,T,T,T,T,T,T,T,T,F,F,F,F,F,F,F,F,F,F,F,F,F,F,F,F,F,F] rfl rfl (any_of HT_.out (by kernel_rfl)) (fun _ _ _ h => h) (Or.inl ⟨by rfl, ?_⟩) ?_ ?_
rotate_left
·(
intro w'
go_simp
with_reducible rfl
)
rotate_left
·(
simp only [Act.put, List.setIfInBounds_toArray, List.set_cons_zero, List.set_cons_succ, i64_w, i32_w]
rfl
)
refine take_ (i := 16) (N := some 91) (v := ?_) (a' := ?_) #[T,T,T,T,T,T,T,T,T,T,T,T,T,T,T,T,T,F,F,F,F,F,F,F,F,F,F,F,F,F,F,F,F,F] rfl rfl (take_ofW HT_.out HW_.out (by kernel_rfl)) (fun _ _ _ h => h) (Or.inl ⟨by rfl, ?_⟩) hHeld ?_ ?_
rotate_left
·(
rintro w' ⟨s0, s1, s2, s3, s4, s5, s6, s7, s8, s9, s10⟩
go_simp
with_reducible rfl
)
rotate_left
·(
simp only [Act.put, List.setIfInBounds_toArray, List.set_cons_zero, List.set_cons_succ, i64_w, i32_w]
rfl
)
refine pure_ (i := 17) (N := some 92) (v := ?_) (a' := ?_) #[T,T,T,T,T,T,T,T,T,T,T,T,T,T,T,T,T,T,F,F,F,F,F,F,F,F,F,F,F,F,F,F,F,F] rfl rfl (any_of HT_.out (by kernel_rfl)) (fun _ _ _ h => h) (Or.inl ⟨by rfl, ?_⟩) ?_ ?_
rotate_left
·(
intro w'
go_simp
with_reducible rfl
)
rotate_left
·(
simp only [Act.put, List.setIfInBounds_toArray, List.set_cons_zero, List.set_cons_succ, i64_w, i32_w]
rfl
)
refine pure_ (i := 18) (N := some 93) (v := ?_) (a' := ?_) #[T,T,T,T,T,T,T,T,T,T,T,T,T,T,T,T,T,T,T,F,F,F,F,F,F,F,F,F,F,F,F,F,F,F] rfl rfl (any_of HT_.out (by kernel_rfl)) (fun _ _ _ h => h) (Or.inl ⟨by rfl, ?_⟩) ?_ ?_
rotate_left
·(
intro w'
go_simp
with_reducible rfl
)
rotate_left
·(
simp only [Act.put, List.setIfInBounds_toArray, List.set_cons_zero, List.set_cons_succ, i64_w, i32_w]
rfl
)
refine pure_ (i := 19) (N := some 94) (v := ?_) (a' := ?_) #[T,T,T,T,T,T,T,T,T,T,T,T,T,T,T,T,T,T,T,T,F,F,F,F,F,F,F,F,F,F,F,F,F,F] rfl rfl (any_of HT_.out (by kernel_rfl)) (fun _ _ _ h => h) (Or.inl ⟨by rfl, ?_⟩) ?_ ?_
rotate_left
·(
intro w'
go_simp
with_reducible rfl
)
rotate_left
·(
simp only [Act.put, List.setIfInBounds_toArray, List.set_cons_zero, List.set_cons_succ, i64_w, i32_w]
rfl
)
refine pure_ (i := 20) (N := some 95) (v := ?_) (a' := ?_) #[T,T,T,T,T,T,T,T,T,T,T,T,T,T,T,T,T,T,T,T,T,F,F,F,F,F,F,F,F,F,F,F,F,F] rfl rfl (any_of HT_.out (by kernel_rfl)) (fun _ _ _ h => h) (Or.inl ⟨by rfl, ?_⟩) ?_ ?_
rotate_left
·(
intro w'
go_simp
with_reducible rfl
)
rotate_left
·(
simp only [Act.put, List.setIfInBounds_toArray, List.set_cons_zero, List.set_cons_succ, i64_w, i32_w]
rfl
)
refine take_ (i := 21) (N := some 96) (v := ?_) (a' := ?_) #[T,T,T,T,T,T,T,T,T,T,T,T,T,T,T,T,T,T,T,T,T,T,F,F,F,F,F,F,F,F,F,F,F,F] rfl rfl (take_ofW HT_.out HW_.out (by kernel_rfl)) (fun _ _ _ h => h) (Or.inl ⟨by rfl, ?_⟩) hHeld ?_ ?_
rotate_left
·(
rintro w' ⟨s0, s1, s2, s3, s4, s5, s6, s7, s8, s9, s10⟩
go_simp
with_reducible rfl
)
rotate_left
·(
simp only [Act.put, List.setIfInBounds_toArray, List.set_cons_zero, List.set_cons_succ, i64_w, i32_w]
rfl
)
refine pure_ (i := 22) (N := some 97) (v := ?_) (a' := ?_) #[T,T,T,T,T,T,T,T,T,T,T,T,T,T,T,T,T,T,T,T,T,T,T,F,F,F,F,F,F,F,F,F,F,F] rfl rfl (any_of HT_.out (by kernel_rfl)) (fun _ _ _ h => h) (Or.inl ⟨by rfl, ?_⟩) ?_ ?_
rotate_left
·(
intro w'
go_simp
with_reducible rfl
)
rotate_left
·(
simp only [Act.put, List.setIfInBounds_toArray, List.set_cons_zero, List.set_cons_succ, i64_w, i32_w]
rfl
)
refine pure_ (i := 23) (N := some 98) (v := ?_) (a' := ?_) #[T,T,T,T,T,T,T,T,T,T,T,T,T,T,T,T,T,T,T,T,T,T,T,T,F,F,F,F,F,F,F,F,F,F] rfl rfl (any_of HT_.out (by kernel_rfl)) (fun _ _ _ h => h) (Or.inl ⟨by rfl, ?_⟩) ?_ ?_
rotate_left
·(
intro w'
go_simp
with_reducible rfl
)
rotate_left
·(
simp only [Act.put, List.setIfInBounds_toArray, List.set_cons_zero, List.set_cons_succ, i64_w, i32_w]
rfl
)
refine pure_ (i := 24) (N := some 99) (v := ?_) (a' := ?_) #[T,T,T,T,T,T,T,T,T,T,T,T,T,T,T,T,T,T,T,T,T,T,T,T,T,F,F,F,F,F,F,F,F,F] rfl rfl (any_of HT_.out (by kernel_rfl)) (fun _ _ _ h => h) (Or.inl ⟨by rfl, ?_⟩) ?_ ?_
rotate_left
·(
intro w'
go_simp
with_reducible rfl
)
rotate_left
·(
simp only [Act.put, List.setIfInBounds_toArray, List.set_cons_zero, List.set_cons_succ, i64_w, i32_w]
rfl
)
refine pure_ (i := 25) (N := some 100) (v := ?_) (a' := ?_) #[T,T,T,T,T,T,T,T,T,T,T,T,T,T,T,T,T,T,T,T,T,T,T,T,T,T,F,F,F,F,F,F,F,F] rfl rfl (any_of HT_.out (by kernel_rfl)) (fun _ _ _ h => h) (Or.inl ⟨by rfl, ?_⟩) ?_ ?_
rotate_left
·(
intro w'
go_simp
with_reducible rfl
)
rotate_left
·(
simp only [Act.put, List.setIfInBounds_toArray, List.set_cons_zero, List.set_cons_succ, i64_w, i32_w]
rfl
)
refine take_ (i := 26) (N := some 101) (v := ?_) (a' := ?_) #[T,T,T,T,T,T,T,T,T,T,T,T,T,T,T,T,T,T,T,T,T,T,T,T,T,T,T,F,F,F,F,F,F,F] rfl rfl (take_ofW HT_.out HW_.out (by kernel_rfl)) (fun _ _ _ h => h) (Or.inl ⟨by rfl, ?_⟩) hHeld ?_ ?_
rotate_left
·(
rintro w' ⟨s0, s1, s2, s3, s4, s5, s6, s7, s8, s9, s10⟩
go_simp
with_reducible rfl
)
rotate_left
·(
simp only [Act.put, List.setIfInBounds_toArray, List.set_cons_zero, List.set_cons_succ, i64_w, i32_w]
rfl
)
refine pure_ (i := 27) (N := some 102) (v := ?_) (a' := ?_) #[T,T,T,T,T,T,T,T,T,T,T,T,T,T,T,T,T,T,T,T,T,T,T,T,T,T,T,T,F,F,F,F,F,F] rfl rfl (any_of HT_.out (by kernel_rfl)) (fun _ _ _ h => h) (Or.inl ⟨by rfl, ?_⟩) ?_ ?_
rotate_left
·(
intro w'
go_simp
with_reducible rfl
)
rotate_left
·(
simp only [Act.put, List.setIfInBounds_toArray, List.set_cons_zero, List.set_cons_succ, i64_w, i32_w]
rfl
)
refine pure_ (i := 28) (N := some 103) (v := ?_) (a' := ?_) #[T,T,T,T,T,T,T,T,T,T,T,T,T,T,T,T,T,T,T,T,T,T,T,T,T,T,T,T,T,F,F,F,F,F] rfl rfl (any_of HT_.out (by kernel_rfl)) (fun _ _ _ h => h) (Or.inl ⟨by rfl, ?_⟩) ?_ ?_
rotate_left
·(
intro w'
go_simp
with_reducible rfl
)
rotate_left
·(
simp only [Act.put, List.setIfInBounds_toArray, List.set_cons_zero, List.set_cons_succ, i64_w, i32_w]
rfl
)
refine pure_ (i := 29) (N := some 104) (v := ?_) (a' := ?_) #[T,T,T,T,T,T,T,T,T,T,T,T,T,T,T,T,T,T,T,T,T,T,T,T,T,T,T,T,T,T,F,F,F,F] rfl rfl (any_of HT_.out (by kernel_rfl)) (fun _ _ _ h => h) (Or.inl ⟨by rfl, ?_⟩) ?_ ?_
rotate_left
·(
intro w'
go_simp
with_reducible rfl
)
rotate_left
·(
simp only [Act.put, List.setIfInBounds_toArray, List.set_cons_zero, List.set_cons_succ, i64_w, i32_w]
rfl
)
refine pure_ (i := 30) (N := some 105) (v := ?_) (a' := ?_) #[T,T,T,T,T,T,T,T,T,T,T,T,T,T,T,T,T,T,T,T,T,T,T,T,T,T,T,T,T,T,T,F,F,F] rfl rfl (any_of HT_.out (by kernel_rfl)) (fun _ _ _ h => h) (Or.inl ⟨by rfl, ?_⟩) ?_ ?_
rotate_left
·(
intro w'
go_simp
with_reducible rfl
)
rotate_left
·(
simp only [Act.put, List.setIfInBounds_toArray, List.set_cons_zero, List.set_cons_succ, i64_w, i32_w]
rfl
)
refine take_ (i := 31) (N := some 106) (v := ?_) (a' := ?_) #[T,T,T,T,T,T,T,T,T,T,T,T,T,T,T,T,T,T,T,T,T,T,T,T,T,T,T,T,T,T,T,T,F,F] rfl rfl (take_ofW HT_.out HW_.out (by kernel_rfl)) (fun _ _ _ h => h) (Or.inl ⟨by rfl, ?_⟩) hHeld ?_ ?_
rotate_left
·(
rintro w' ⟨s0, s1, s2, s3, s4, s5, s6, s7, s8, s9, s10⟩
go_simp
with_reducible rfl
)
rotate_left
·(
simp only [Act.put, List.setIfInBounds_toArray, List.set_cons_zero, List.set_cons_succ, i64_w, i32_w]
rfl
)
refine pure_ (i := 32) (N := some 107) (v := ?_) (a' := ?_) #[T,T,T,T,T,T,T,T,T,T,T,T,T,T,T,T,T,T,T,T,T,T,T,T,T,T,T,T,T,T,T,T,T,F] rfl rfl (any_of HT_.out (by kernel_rfl)) (fun _ _ _ h => h) (Or.inl ⟨by rfl, ?_⟩) ?_ ?_
rotate_left
·(
intro w'
go_simp
with_reducible rfl
)
rotate_left
·(
simp only [Act.put, List.setIfInBounds_toArray, List.set_cons_zero, List.set_cons_succ, i64_w, i32_w]
rfl
)
refine pure_ (i := 33) (N := some 108) (v := ?_) (a' := ?_) #[T,T,T,T,T,T,T,T,T,T,T,T,T,T,T,T,T,T,T,T,T,T,T,T,T,T,T,T,T,T,T,T,T,T] rfl rfl (any_of HT_.out (by kernel_rfl)) (fun _ _ _ h => h) (Or.inl ⟨by rfl, ?_⟩) ?_ ?_
rotate_left
·(
intro w'
go_simp
with_reducible rfl
)
rotate_left
·(
simp only [Act.put, List.setIfInBounds_toArray, List.set_cons_zero, List.set_cons_succ, i64_w, i32_w]
rfl
)
refine done_ (done_of HT_.out (by kernel_rfl)) ?_
try go_wp2
go_roundg k3
case measure => have := HK1.out; have := HJ11.out; have := HK3.out; omega
case rel => exact ⟨(wrap64 (x5_3 + 1)), (by first | rfl | (simp; done) | (simp [*]; done)), H', ⟨by have := HK1.out; have := HJ11.out; have := HK3.out; omega⟩, ⟨by (with_reducible repeat (first | refine blk_drewN ?_ _ | refine blk_drew ?_ | refine blk_alloc ?_ _)); exact BK142.out⟩, ⟨by repeat (first | (with_reducible first | exact HB.out | apply below_alloc | apply pw_below_drewN | apply below_drew1 | refine below_set ?_ GE142.out | refine below_set ?_ GE150.out) | exact HB.out)⟩⟩
)
)
)
)
)
)
·(
rw [if_neg c32] at H
exact absurd H (by simp)
)
)
·(
replace c30 := Bool.eq_false_iff.mpr c30
subst c30
have H1 : (some false) = some r := by rw [if_neg (show ¬ (false = true) by decide)] at H; exact H
clear H
have H := H1
clear H1
obtain rfl := Option.some.inj H
have hcz81_0 : wr.cell? ⟨gb142, 0, none⟩ = some (.string a0_0) := (blk_cell BK142.out 0).trans rfl
have hcz81_1 : wr.cell? ⟨gb142, 1, none⟩ = some (.string a0_1) := (blk_cell BK142.out 1).trans rfl
have hcz81_2 : wr.cell? ⟨gb142, 2, none⟩ = some (.string a0_2) := (blk_cell BK142.out 2).trans rfl
have hcz81_3 : wr.cell? ⟨gb142, 3, none⟩ = some (.string a0_3) := (blk_cell BK142.out 3).trans rfl
have hcz81_4 : wr.cell? ⟨gb142, 4, none⟩ = some (.string a0_4) := (blk_cell BK142.out 4).trans rfl
have hcz81_5 : wr.cell? ⟨gb142, 5, none⟩ = some (.string a0_5) := (blk_cell BK142.out 5).trans rfl
have hcz81_6 : wr.cell? ⟨gb142, 6, none⟩ = some (.int .i64 a0_6) := (blk_cell BK142.out 6).trans rfl
have hcz81_7 : wr.cell? ⟨gb142, 7, none⟩ = some (.slice A0_7 l0_7.length c0_7) := (blk_cell BK142.out 7).trans rfl
have hfz81_0 := blk_frozen BK142.out 0
have hfz81_1 := blk_frozen BK142.out 1
have hfz81_2 := blk_frozen BK142.out 2
have hfz81_3 := blk_frozen BK142.out 3
have hfz81_4 := blk_frozen BK142.out 4
have hfz81_5 := blk_frozen BK142.out 5
have hfz81_6 := blk_frozen BK142.out 6
have hfz81_7 := blk_frozen BK142.out 7
have p149 : 0 ≤ (x5_3 : Int) := of_decide_eq_true (by first | (with_reducible assumption) | assumption)
have q149 : x5_3 < (l0_7.length : Int) := of_decide_eq_true (by first | (with_reducible assumption) | assumption)
obtain ⟨ad149, e149, hx149_0, hx149_1, hx149_2⟩ := at_T65 HR0_7.out x5_3 p149 q149
cases e149
replace hx149_0 := (HB.out.cell (World.block_lt_of_cell? w _ hx149_0)).trans hx149_0
replace hx149_1 := (HB.out.cell (World.block_lt_of_cell? w _ hx149_1)).trans hx149_1
replace hx149_2 := (HB.out.cell (World.block_lt_of_cell? w _ hx149_2)).trans hx149_2
replace p149 := eq_true p149
replace q149 := eq_true q149
try go_wp2_with (first | ((with_reducible refine gate_dst (N := 6) rfl ?_); (try (refine gate_guard (by rfl) ?_; dsimp only)); refine box_event ?hg (N := 6) ?hd (cs := #[.string (⟨#[]⟩ : ByteArray), .int .i64 0, .int .i64 0]) (t := 65) ?hr ?_; (case hd => rfl); (case hg => rfl); (case hr => first | (go_simp; done) | (go_simp; rfl)); intro gb150 hg w82 hbox hb; have n0_ := Aside0.mk (blk_below (g := gb142) (o := .cells #[.string a0_0, .string a0_1, .string a0_2, .string a0_3, .string a0_4, .string a0_5, .int .i64 a0_6, .slice (some ad149) l0_7.length c0_7] 24 (0, 0)) (by (with_reducible repeat (first | refine blk_drewN ?_ _ | refine blk_drew ?_ | refine blk_alloc ?_ _)); exact BK142.out) hb); have n1_ := Aside0.mk (below_step (by repeat (first | (with_reducible first | exact HB.out | apply below_alloc | apply pw_below_drewN | apply below_drew1 | refine below_set ?_ GE142.out) | exact HB.out)) hb); have n2_ := Aside0.mk (hbox); have n3_ := Aside0.mk ((by rw [hg]; exact (below_size (by repeat (first | (with_reducible first | exact HB.out | apply below_alloc | apply pw_below_drewN | apply below_drew1 | refine below_set ?_ GE142.out) | exact HB.out))) : w.heap.size ≤ gb150)); have n4_ := Aside0.mk ((by rw [hg]; exact (below_size (by repeat (first | (with_reducible first | exact HB.out | apply below_alloc | apply pw_below_drewN | apply below_drew1 | refine below_set ?_ GE142.out) | exact HB.out))) : w.heap.size ≤ gb150)); have n5_ := Aside0.mk ((by rw [hg]; exact Nat.ne_of_lt (blk_lt (g := gb142) (o := .cells #[.string a0_0, .string a0_1, .string a0_2, .string a0_3, .string a0_4, .string a0_5, .int .i64 a0_6, .slice (some ad149) l0_7.length c0_7] 24 (0, 0)) (by (with_reducible repeat (first | refine blk_drewN ?_ _ | refine blk_drew ?_ | refine blk_alloc ?_ _)); exact BK142.out)) : gb142 ≠ gb150)); have n6_ := Aside0.mk ((by rw [hg]; exact Nat.ne_of_gt (blk_lt (g := gb142) (o := .cells #[.string a0_0, .string a0_1, .string a0_2, .string a0_3, .string a0_4, .string a0_5, .int .i64 a0_6, .slice (some ad149) l0_7.length c0_7] 24 (0, 0)) (by (with_reducible repeat (first | refine blk_drewN ?_ _ | refine blk_drew ?_ | refine blk_alloc ?_ _)); exact BK142.out)) : gb150 ≠ gb142)); clear BK142; clear HB; have BK142 := n0_; have HB := n1_; have BK150 := n2_; have GW150 := n3_; have GE150 := n4_; have NB142_150 := n5_; have NB150_142 := n6_; clear n0_ n1_ n2_ n3_ n4_ n5_ n6_; clear hb hbox hg; have hnb83 := NB150_142.out; have hnc83 := NB142_150.out; have hcz84_0 : w82.cell? ⟨gb150, 0, none⟩ = some (.string (⟨#[]⟩ : ByteArray)) := (blk_cell BK150.out 0).trans rfl; have hcz84_1 : w82.cell? ⟨gb150, 1, none⟩ = some (.int .i64 0) := (blk_cell BK150.out 1).trans rfl; have hcz84_2 : w82.cell? ⟨gb150, 2, none⟩ = some (.int .i64 0) := (blk_cell BK150.out 2).trans rfl; have hfz84_0 := blk_frozen BK150.out 0; have hfz84_1 := blk_frozen BK150.out 1; have hfz84_2 := blk_frozen BK150.out 2))
have n0_ : Aside0 ((((w82.setCell ⟨gb150, 0, none⟩ (.string ((rd_T65 l0_7 x5_3).f0))).setCell ⟨gb150, 1, none⟩ (.int .i64 ((rd_T65 l0_7 x5_3).f1))).setCell ⟨gb150, 2, none⟩ (.int .i64 ((rd_T65 l0_7 x5_3).f2))).heap[gb142]? = some (.cells #[.string a0_0, .string a0_1, .string a0_2, .string a0_3, .string a0_4, .string a0_5, .int .i64 a0_6, .slice (some ad149) l0_7.length c0_7] 24 (0, 0))) := ⟨by (with_reducible repeat (first | refine blk_drewN ?_ _ | refine blk_drew ?_ | refine blk_alloc ?_ _)); refine blk_far ?_ NB142_150.out _; (with_reducible repeat (first | refine blk_drewN ?_ _ | refine blk_drew ?_ | refine blk_alloc ?_ _)); refine blk_far ?_ NB142_150.out _; (with_reducible repeat (first | refine blk_drewN ?_ _ | refine blk_drew ?_ | refine blk_alloc ?_ _)); refine blk_far ?_ NB142_150.out _; (with_reducible repeat (first | refine blk_drewN ?_ _ | refine blk_drew ?_ | refine blk_alloc ?_ _)); exact BK142.out⟩
have n1_ : Aside0 ((((w82.setCell ⟨gb150, 0, none⟩ (.string ((rd_T65 l0_7 x5_3).f0))).setCell ⟨gb150, 1, none⟩ (.int .i64 ((rd_T65 l0_7 x5_3).f1))).setCell ⟨gb150, 2, none⟩ (.int .i64 ((rd_T65 l0_7 x5_3).f2))).heap[gb150]? = some (.cells #[.string ((rd_T65 l0_7 x5_3).f0), .int .i64 ((rd_T65 l0_7 x5_3).f1), .int .i64 ((rd_T65 l0_7 x5_3).f2)] 65 (0, 0))) := ⟨by (with_reducible repeat (first | refine blk_drewN ?_ _ | refine blk_drew ?_ | refine blk_alloc ?_ _)); refine blk_put (cs := #[.string ((rd_T65 l0_7 x5_3).f0), .int .i64 ((rd_T65 l0_7 x5_3).f1), .int .i64 0]) ?_ 2 _ rfl; (with_reducible repeat (first | refine blk_drewN ?_ _ | refine blk_drew ?_ | refine blk_alloc ?_ _)); refine blk_put (cs := #[.string ((rd_T65 l0_7 x5_3).f0), .int .i64 0, .int .i64 0]) ?_ 1 _ rfl; (with_reducible repeat (first | refine blk_drewN ?_ _ | refine blk_drew ?_ | refine blk_alloc ?_ _)); refine blk_put (cs := #[.string (⟨#[]⟩ : ByteArray), .int .i64 0, .int .i64 0]) ?_ 0 _ rfl; (with_reducible repeat (first | refine blk_drewN ?_ _ | refine blk_drew ?_ | refine blk_alloc ?_ _)); exact BK150.out⟩
have n2_ : Aside0 (Below w.heap.size w (((w82.setCell ⟨gb150, 0, none⟩ (.string ((rd_T65 l0_7 x5_3).f0))).setCell ⟨gb150, 1, none⟩ (.int .i64 ((rd_T65 l0_7 x5_3).f1))).setCell ⟨gb150, 2, none⟩ (.int .i64 ((rd_T65 l0_7 x5_3).f2)))) := ⟨by repeat (first | (with_reducible first | exact HB.out | apply below_alloc | apply pw_below_drewN | apply below_drew1 | refine below_set ?_ GE142.out | refine below_set ?_ GE150.out) | exact HB.out)⟩
(try clear BK142)
(try clear BK150)
(try clear HB)
generalize (((w82.setCell ⟨gb150, 0, none⟩ (.string ((rd_T65 l0_7 x5_3).f0))).setCell ⟨gb150, 1, none⟩ (.int .i64 ((rd_T65 l0_7 x5_3).f1))).setCell ⟨gb150, 2, none⟩ (.int .i64 ((rd_T65 l0_7 x5_3).f2))) = w85 at n0_ n1_ n2_ ⊢
have BK142 := n0_
have BK150 := n1_
have HB := n2_
clear n0_ n1_ n2_
have n0_ := Aside0.mk (blk_drew BK142.out)
have n1_ := Aside0.mk (blk_drew BK150.out)
have n2_ := Aside0.mk (below_drew1 HB.out)
clear BK142
clear BK150
clear HB
have BK142 := n0_
have BK150 := n1_
have HB := n2_
clear n0_ n1_ n2_
refine start_ (n := 34) (S := fun w' => w'.cell? ⟨gb150, 0, none⟩ = some (.string ((rd_T65 l0_7 x5_3).f0)) ∧ w'.cell? ⟨gb150, 1, none⟩ = some (.int .i64 ((rd_T65 l0_7 x5_3).f1)) ∧ w'.cell? ⟨gb150, 2, none⟩ = some (.int .i64 ((rd_T65 l0_7 x5_3).f2))) (ds := []) #[F,F,F,F,F,F,F,F,F,F,F,F,F,F,F,F,F,F,F,F,F,F,F,F,F,F,F,F,F,F,F,F,F,F] (by kernel_rfl) rfl rfl ⟨(blk_cell BK150.out 0).trans rfl, (blk_cell BK150.out 1).trans rfl, (blk_cell BK150.out 2).trans rfl⟩ (fun hHeld => ?_); refine with_tabW sr19_May.tab13 sr19_May.bits13 (fun HT_ HW_ => ?_)
generalize w85.drew = w86 at BK142 BK150 HB hHeld ⊢
refine pure_ (i := 0) (N := some 75) (v := ?_) (a' := ?_) #[T,F,F,F,F,F,F,F,F,F,F,F,F,F,F,F,F,F,F,F,F,F,F,F,F,F,F,F,F,F,F,F,F,F] rfl rfl (any_of HT_.out (by kernel_rfl)) (fun _ _ _ h => h) (Or.inl ⟨by rfl, ?_⟩) ?_ ?_
rotate_left
·(
intro w'
go_simp
with_reducible rfl
)
rotate_left
·(
simp only [Act.put, List.setIfInBounds_toArray, List.set_cons_zero, List.set_cons_succ, i64_w, i32_w]
rfl
)
refine take_ (i := 1) (N := some 76) (v := ?_) (a' := ?_) #[T,T,F,F,F,F,F,F,F,F,F,F,F,F,F,F,F,F,F,F,F,F,F,F,F,F,F,F,F,F,F,F,F,F] rfl rfl (take_ofW HT_.out HW_.out (by kernel_rfl)) (fun _ _ _ h => h) (Or.inl ⟨by rfl, ?_⟩) hHeld ?_ ?_
rotate_left
·(
rintro w' ⟨s0, s1, s2⟩
go_simp
with_reducible rfl
)
rotate_left
·(
simp only [Act.put, List.setIfInBounds_toArray, List.set_cons_zero, List.set_cons_succ, i64_w, i32_w]
rfl
)
refine one_ (i := 2) (N := some 77) #[T,T,T,F,F,F,F,F,F,F,F,F,F,F,F,F,F,F,F,F,F,F,F,F,F,F,F,F,F,F,F,F,F,F] rfl rfl (one_of HT_.out (by kernel_rfl)) (by decide) (fun K hK => ?_)
refine goes_ Try.func39 (by kernel_rfl) rfl #[.string ((rd_T65 l0_7 x5_3).f0)] (by rfl) rfl rfl (by (try simp only [List.map_toArray, List.map_cons, List.map_nil]); first | done | rfl | (simp only [List.length_drop, List.length_take]; rfl)) ?_
with_reducible refine (sr03_Name.calls k3 ((rd_T65 l0_7 x5_3).f0) false _ A29.out).mono ?_
rintro e w' ⟨rfl, ⟨nd, rfl⟩⟩
refine ⟨_, rfl, ?_⟩
refine hK.out _ _ ⟨(blk_cell BK150.out 0).trans rfl, (blk_cell BK150.out 1).trans rfl, (blk_cell BK150.out 2).trans rfl⟩ (fun hHeld => ?_)
clear hK K
refine norm_ (a' := ?_) ?_ ?_
rotate_left
·(
show Act.put _ (some 77) _ = _
simp only [Act.put, List.setIfInBounds_toArray, List.set_cons_zero, List.set_cons_succ, i64_w, i32_w]
rfl
)
refine pure_ (i := 3) (N := some 78) (v := ?_) (a' := ?_) #[T,T,T,T,F,F,F,F,F,F,F,F,F,F,F,F,F,F,F,F,F,F,F,F,F,F,F,F,F,F,F,F,F,F] rfl rfl (any_of HT_.out (by kernel_rfl)) (fun _ _ _ h => h) (Or.inl ⟨by rfl, ?_⟩) ?_ ?_
rotate_left
·(
intro w'
go_simp
with_reducible rfl
)
rotate_left
·(
simp only [Act.put, List.setIfInBounds_toArray, List.set_cons_zero, List.set_cons_succ, i64_w, i32_w]
rfl
)
refine pure_ (i := 4) (N := some 79) (v := ?_) (a' := ?_) #[T,T,T,T,T,F,F,F,F,F,F,F,F,F,F,F,F,F,F,F,F,F,F,F,F,F,F,F,F,F,F,F,F,F] rfl rfl (any_of HT_.out (by kernel_rfl)) (fun _ _ _ h => h) (Or.inl ⟨by rfl, ?_⟩) ?_ ?_
rotate_left
·(
intro w'
go_simp
with_reducible rfl
)
rotate_left
·(
simp only [Act.put, List.setIfInBounds_toArray, List.set_cons_zero, List.set_cons_succ, i64_w, i32_w]
rfl
)
refine pure_ (i := 5) (N := some 80) (v := undef) (a' := ?_) #[T,T,T,T,T,T,F,F,F,F,F,F,F,F,F,F,F,F,F,F,F,F,F,F,F,F,F,F,F,F,F,F,F,F] rfl rfl (any_of HT_.out (by kernel_rfl)) (fun _ _ _ h => h) (Or.inr ⟨by rfl, rfl⟩) ?_ ?_
rotate_left
·(
simp only [Act.put, List.setIfInBounds_toArray, List.set_cons_zero, List.set_cons_succ, i64_w, i32_w]
rfl
)
refine pure_ (i := 6) (N := some 81) (v := undef) (a' := ?_) #[T,T,T,T,T,T,T,F,F,F,F,F,F,F,F,F,F,F,F,F,F,F,F,F,F,F,F,F,F,F,F,F,F,F] rfl rfl (any_of HT_.out (by kernel_rfl)) (fun _ _ _ h => h) (Or.inr ⟨by rfl, rfl⟩) ?_ ?_
rotate_left
·(
simp only [Act.put, List.setIfInBounds_toArray, List.set_cons_zero, List.set_cons_succ, i64_w, i32_w]
rfl
)
refine pure_ (i := 7) (N := some 82) (v := undef) (a' := ?_) #[T,T,T,T,T,T,T,T,F,F,F,F,F,F,F,F,F,F,F,F,F,F,F,F,F,F,F,F,F,F,F,F,F,F] rfl rfl (any_of HT_.out (by kernel_rfl)) (fun _ _ _ h => h) (Or.inr ⟨by rfl, rfl⟩) ?_ ?_
rotate_left
·(
simp only [Act.put, List.setIfInBounds_toArray, List.set_cons_zero, List.set_cons_succ, i64_w, i32_w]
rfl
)
refine pure_ (i := 8) (N := some 83) (v := undef) (a' := ?_) #[T,T,T,T,T,T,T,T,T,F,F,F,F,F,F,F,F,F,F,F,F,F,F,F,F,F,F,F,F,F,F,F,F,F] rfl rfl (any_of HT_.out (by kernel_rfl)) (fun _ _ _ h => h) (Or.inr ⟨by rfl, rfl⟩) ?_ ?_
rotate_left
·(
simp only [Act.put, List.setIfInBounds_toArray, List.set_cons_zero, List.set_cons_succ, i64_w, i32_w]
rfl
)
refine pure_ (i := 9) (N := some 84) (v := undef) (a' := ?_) #[T,T,T,T,T,T,T,T,T,T,F,F,F,F,F,F,F,F,F,F,F,F,F,F,F,F,F,F,F,F,F,F,F,F] rfl rfl (any_of HT_.out (by kernel_rfl)) (fun _ _ _ h => h) (Or.inr ⟨by rfl, rfl⟩) ?_ ?_
rotate_left
·(
simp only [Act.put, List.setIfInBounds_toArray, List.set_cons_zero, List.set_cons_succ, i64_w, i32_w]
rfl
)
refine pure_ (i := 10) (N := some 85) (v := undef) (a' := ?_) #[T,T,T,T,T,T,T,T,T,T,T,F,F,F,F,F,F,F,F,F,F,F,F,F,F,F,F,F,F,F,F,F,F,F] rfl rfl (any_of HT_.out (by kernel_rfl)) (fun _ _ _ h => h) (Or.inr ⟨by rfl, rfl⟩) ?_ ?_
rotate_left
·(
simp only [Act.put, List.setIfInBounds_toArray, List.set_cons_zero, List.set_cons_succ, i64_w, i32_w]
rfl
)
refine pure_ (i := 11) (N := some 86) (v := undef) (a' := ?_) #[T,T,T,T,T,T,T,T,T,T,T,T,F,F,F,F,F,F,F,F,F,F,F,F,F,F,F,F,F,F,F,F,F,F] rfl rfl (any_of HT_.out (by kernel_rfl)) (fun _ _ _ h => h) (Or.inr ⟨by rfl, rfl⟩) ?_ ?_
rotate_left
·(
simp only [Act.put, List.setIfInBounds_toArray, List.set_cons_zero, List.set_cons_succ, i64_w, i32_w]
rfl
)
refine pure_ (i := 12) (N := some 87) (v := undef) (a' := ?_) #[T,T,T,T,T,T,T,T,T,T,T,T,T,F,F,F,F,F,F,F,F,F,F,F,F,F,F,F,F,F,F,F,F,F] rfl rfl (any_of HT_.out (by kernel_rfl)) (fun _ _ _ h => h) (Or.inr ⟨by rfl, rfl⟩) ?_ ?_
rotate_left
·(
simp only [Act.put, List.setIfInBounds_toArray, List.set_cons_zero, List.set_cons_succ, i64_w, i32_w]
rfl
)
refine pure_ (i := 13) (N := some 88) (v := ?_) (a' := ?_) #[T,T,T,T,T,T,T,T,T,T,T,T,T,T,F,F,F,F,F,F,F,F,F,F,F,F,F,F,F,F,F,F,F,F] rfl rfl (any_of HT_.out (by kernel_rfl)) (fun _ _ _ h => h) (Or.inl ⟨by rfl, ?_⟩) ?_ ?_
rotate_left
·(
intro w'
go_simp
with_reducible rfl
)
rotate_left
·(
simp only [Act.put, List.setIfInBounds_toArray, List.set_cons_zero, List.set_cons_succ, i64_w, i32_w]
rfl
)
refine pure_ (i := 14) (N := some 89) (v := ?_) (a' := ?_) #[T,T,T,T,T,T,T,T,T,T,T,T,T,T,T,F,F,F,F,F,F,F,F,F,F,F,F,F,F,F,F,F,F,F] rfl rfl (any_of HT_.out (by kernel_rfl)) (fun _ _ _ h => h) (Or.inl ⟨by rfl, ?_⟩) ?_ ?_
rotate_left
·(
intro w'
go_simp
with_reducible rfl
)
rotate_left
·(
simp only [Act.put, List.setIfInBounds_toArray, List.set_cons_zero, List.set_cons_succ, i64_w, i32_w]
rfl
)
refine pure_ (i := 15) (N := some 90) (v := undef) (a' := ?_) #[T,T,T,T,T,T,T,T,T,T,T,T,T,T,T,T,F,F,F,F,F,F,F,F,F,F,F,F,F,F,F,F,F,F] rfl rfl (any_of HT_.out (by kernel_rfl)) (fun _ _ _ h => h) (Or.inr ⟨by rfl, rfl⟩) ?_ ?_
rotate_left
·(
simp only [Act.put, List.setIfInBounds_toArray, List.set_cons_zero, List.set_cons_succ, i64_w, i32_w]
rfl
)
refine pure_ (i := 16) (N := some 91) (v := undef) (a' := ?_) #[T,T,T,T,T,T,T,T,T,T,T,T,T,T,T,T,T,F,F,F,F,F,F,F,F,F,F,F,F,F,F,F,F,F] rfl rfl (any_of HT_.out (by kernel_rfl)) (fun _ _ _ h => h) (Or.inr ⟨by rfl, rfl⟩) ?_ ?_
rotate_left
·(
simp only [Act.put, List.setIfInBounds_toArray, List.set_cons_zero, List.set_cons_succ, i64_w, i32_w]
rfl
)
refine pure_ (i := 17) (N := some 92) (v := undef) (a' := ?_) #[T,T,T,T,T,T,T,T,T,T,T,T,T,T,T,T,T,T,F,F,F,F,F,F,F,F,F,F,F,F,F,F,F,F] rfl rfl (any_of HT_.out (by kernel_rfl)) (fun _ _ _ h => h) (Or.inr ⟨by rfl, rfl⟩) ?_ ?_
rotate_left
·(
simp only [Act.put, List.setIfInBounds_toArray, List.set_cons_zero, List.set_cons_succ, i64_w, i32_w]
rfl
)
refine pure_ (i := 18) (N := some 93) (v := ?_) (a' := ?_) #[T,T,T,T,T,T,T,T,T,T,T,T,T,T,T,T,T,T,T,F,F,F,F,F,F,F,F,F,F,F,F,F,F,F] rfl rfl (any_of HT_.out (by kernel_rfl)) (fun _ _ _ h => h) (Or.inl ⟨by rfl, ?_⟩) ?_ ?_
rotate_left
·(
intro w'
go_simp
with_reducible rfl
)
rotate_left
·(
simp only [Act.put, List.setIfInBounds_toArray, List.set_cons_zero, List.set_cons_succ, i64_w, i32_w]
rfl
)
refine pure_ (i := 19) (N := some 94) (v := ?_) (a' := ?_) #[T,T,T,T,T,T,T,T,T,T,T,T,T,T,T,T,T,T,T,T,F,F,F,F,F,F,F,F,F,F,F,F,F,F] rfl rfl (any_of HT_.out (by kernel_rfl)) (fun _ _ _ h => h) (Or.inl ⟨by rfl, ?_⟩) ?_ ?_
rotate_left
·(
intro w'
go_simp
with_reducible rfl
)
rotate_left
·(
simp only [Act.put, List.setIfInBounds_toArray, List.set_cons_zero, List.set_cons_succ, i64_w, i32_w]
rfl
)
refine pure_ (i := 20) (N := some 95) (v := undef) (a' := ?_) #[T,T,T,T,T,T,T,T,T,T,T,T,T,T,T,T,T,T,T,T,T,F,F,F,F,F,F,F,F,F,F,F,F,F] rfl rfl (any_of HT_.out (by kernel_rfl)) (fun _ _ _ h => h) (Or.inr ⟨by rfl, rfl⟩) ?_ ?_
rotate_left
·(
simp only [Act.put, List.setIfInBounds_toArray, List.set_cons_zero, List.set_cons_succ, i64_w, i32_w]
rfl
)
refine pure_ (i := 21) (N := some 96) (v := undef) (a' := ?_) #[T,T,T,T,T,T,T,T,T,T,T,T,T,T,T,T,T,T,T,T,T,T,F,F,F,F,F,F,F,F,F,F,F,F] rfl rfl (any_of HT_.out (by kernel_rfl)) (fun _ _ _ h => h) (Or.inr ⟨by rfl, rfl⟩) ?_ ?_
rotate_left
·(
simp only [Act.put, List.setIfInBounds_toArray, List.set_cons_zero, List.set_cons_succ, i64_w, i32_w]
rfl
)
refine pure_ (i := 22) (N := some 97) (v := undef) (a' := ?_) #[T,T,T,T,T,T,T,T,T,T,T,T,T,T,T,T,T,T,T,T,T,T,T,F,F,F,F,F,F,F,F,F,F,F] rfl rfl (any_of HT_.out (by kernel_rfl)) (fun _ _ _ h => h) (Or.inr ⟨by rfl, rfl⟩) ?_ ?_
rotate_left
·(
simp only [Act.put, List.setIfInBounds_toArray, List.set_cons_zero, List.set_cons_succ, i64_w, i32_w]
rfl
)
refine pure_ (i := 23) (N := some 98) (v := ?_) (a' := ?_) #[T,T,T,T,T,T,T,T,T,T,T,T,T,T,T,T,T,T,T,T,T,T,T,T,F,F,F,F,F,F,F,F,F,F] rfl rfl (any_of HT_.out (by kernel_rfl)) (fun _ _ _ h => h) (Or.inl ⟨by rfl, ?_⟩) ?_ ?_
rotate_left
·(
intro w'
go_simp
with_reducible rfl
)
rotate_left
·(
simp only [Act.put, List.setIfInBounds_toArray, List.set_cons_zero, List.set_cons_succ, i64_w, i32_w]
rfl
)
refine pure_ (i := 24) (N := some 99) (v := ?_) (a' := ?_) #[T,T,T,T,T,T,T,T,T,T,T,T,T,T,T,T,T,T,T,T,T,T,T,T,T,F,F,F,F,F,F,F,F,F] rfl rfl (any_of HT_.out (by kernel_rfl)) (fun _ _ _ h => h) (Or.inl ⟨by rfl, ?_⟩) ?_ ?_
rotate_left
·(
intro w'
go_simp
with_reducible rfl
)
rotate_left
·(
simp only [Act.put, List.setIfInBounds_toArray, List.set_cons_zero, List.set_cons_succ, i64_w, i32_w]
rfl
)
refine pure_ (i := 25) (N := some 100) (v := undef) (a' := ?_) #[T,T,T,T,T,T,T,T,T,T,T,T,T,T,T,T,T,T,T,T,T,T,T,T,T,T,F,F,F,F,F,F,F,F] rfl rfl (any_of HT_.out (by kernel_rfl)) (fun _ _ _ h => h) (Or.inr ⟨by rfl, rfl⟩) ?_ ?_
rotate_left
·(
simp only [Act.put, List.setIfInBounds_toArray, List.set_cons_zero, List.set_cons_succ, i64_w, i32_w]
rfl
)
refine pure_ (i := 26) (N := some 101) (v := undef) (a' := ?_) #[T,T,T,T,T,T,T,T,T,T,T,T,T,T,T,T,T,T,T,T,T,T,T,T,T,T,T,F,F,F,F,F,F,F] rfl rfl (any_of HT_.out (by kernel_rfl)) (fun _ _ _ h => h) (Or.inr ⟨by rfl, rfl⟩) ?_ ?_
rotate_left
·(
simp only [Act.put, List.setIfInBounds_toArray, List.set_cons_zero, List.set_cons_succ, i64_w, i32_w]
rfl
)
refine pure_ (i := 27) (N := some 102) (v := undef) (a' := ?_) #[T,T,T,T,T,T,T,T,T,T,T,T,T,T,T,T,T,T,T,T,T,T,T,T,T,T,T,T,F,F,F,F,F,F] rfl rfl (any_of HT_.out (by kernel_rfl)) (fun _ _ _ h => h) (Or.inr ⟨by rfl, rfl⟩) ?_ ?_
rotate_left
·(
simp only [Act.put, List.setIfInBounds_toArray, List.set_cons_zero, List.set_cons_succ, i64_w, i32_w]
rfl
)
refine pure_ (i := 28) (N := some 103) (v := ?_) (a' := ?_) #[T,T,T,T,T,T,T,T,T,T,T,T,T,T,T,T,T,T,T,T,T,T,T,T,T,T,T,T,T,F,F,F,F,F] rfl rfl (any_of HT_.out (by kernel_rfl)) (fun _ _ _ h => h) (Or.inl ⟨by rfl, ?_⟩) ?_ ?_
rotate_left
·(
intro w'
go_simp
with_reducible rfl
)
rotate_left
·(
simp only [Act.put, List.setIfInBounds_toArray, List.set_cons_zero, List.set_cons_succ, i64_w, i32_w]
rfl
)
refine pure_ (i := 29) (N := some 104) (v := ?_) (a' := ?_) #[T,T,T,T,T,T,T,T,T,T,T,T,T,T,T,T,T,T,T,T,T,T,T,T,T,T,T,T,T,T,F,F,F,F] rfl rfl (any_of HT_.out (by kernel_rfl)) (fun _ _ _ h => h) (Or.inl ⟨by rfl, ?_⟩) ?_ ?_
rotate_left
·(
intro w'
go_simp
with_reducible rfl
)
rotate_left
·(
simp only [Act.put, List.setIfInBounds_toArray, List.set_cons_zero, List.set_cons_succ, i64_w, i32_w]
rfl
)
refine pure_ (i := 30) (N := some 105) (v := undef) (a' := ?_) #[T,T,T,T,T,T,T,T,T,T,T,T,T,T,T,T,T,T,T,T,T,T,T,T,T,T,T,T,T,T,T,F,F,F] rfl rfl (any_of HT_.out (by kernel_rfl)) (fun _ _ _ h => h) (Or.inr ⟨by rfl, rfl⟩) ?_ ?_
rotate_left
·(
simp only [Act.put, List.setIfInBounds_toArray, List.set_cons_zero, List.set_cons_succ, i64_w, i32_w]
rfl
)
refine pure_ (i := 31) (N := some 106) (v := undef) (a' := ?_) #[T,T,T,T,T,T,T,T,T,T,T,T,T,T,T,T,T,T,T,T,T,T,T,T,T,T,T,T,T,T,T,T,F,F] rfl rfl (any_of HT_.out (by kernel_rfl)) (fun _ _ _ h => h) (Or.inr ⟨by rfl, rfl⟩) ?_ ?_
rotate_left
·(
simp only [Act.put, List.setIfInBounds_toArray, List.set_cons_zero, List.set_cons_succ, i64_w, i32_w]
rfl
)
refine pure_ (i := 32) (N := some 107) (v := undef) (a' := ?_) #[T,T,T,T,T,T,T,T,T,T,T,T,T,T,T,T,T,T,T,T,T,T,T,T,T,T,T,T,T,T,T,T,T,F] rfl rfl (any_of HT_.out (by kernel_rfl)) (fun _ _ _ h => h) (Or.inr ⟨by rfl, rfl⟩) ?_ ?_
rotate_left
·(
simp only [Act.put, List.setIfInBounds_toArray, List.set_cons_zero, List.set_cons_succ, i64_w, i32_w]
rfl
)
refine pure_ (i := 33) (N := some 108) (v := ?_) (a' := ?_) #[T,T,T,T,T,T,T,T,T,T,T,T,T,T,T,T,T,T,T,T,T,T,T,T,T,T,T,T,T,T,T,T,T,T] rfl rfl (any_of HT_.out (by kernel_rfl)) (fun _ _ _ h => h) (Or.inl ⟨by rfl, ?_⟩) ?_ ?_
rotate_left
·(
intro w'
go_simp
with_reducible rfl
)
rotate_left
·(
simp only [Act.put, List.setIfInBounds_toArray, List.set_cons_zero, List.set_cons_succ, i64_w, i32_w]
rfl
)
refine done_ (done_of HT_.out (by kernel_rfl)) ?_
try go_wp2
go_ret
exact ⟨by first | rfl | (simp [errW_none, errW_some] <;> rfl) | (simp [*, errW_none, errW_some] <;> rfl), by repeat (first | (with_reducible first | exact HB.out | apply below_alloc | apply pw_below_drewN | apply below_drew1 | refine below_set ?_ GE142.out | refine below_set ?_ GE150.out) | exact HB.out)⟩
)
)
·(
rw [if_neg c28] at H
exact absurd H (by simp)
)
)
·(
rw [if_neg c27] at H
have c27b0 : decide (x5_3 < (l0_7.length : Int)) = false := decide_eq_false c27
clear c27
obtain rfl := Option.some.inj H
have hcz87_0 : wr.cell? ⟨gb142, 0, none⟩ = some (.string a0_0) := (blk_cell BK142.out 0).trans rfl
have hcz87_1 : wr.cell? ⟨gb142, 1, none⟩ = some (.string a0_1) := (blk_cell BK142.out 1).trans rfl
have hcz87_2 : wr.cell? ⟨gb142, 2, none⟩ = some (.string a0_2) := (blk_cell BK142.out 2).trans rfl
have hcz87_3 : wr.cell? ⟨gb142, 3, none⟩ = some (.string a0_3) := (blk_cell BK142.out 3).trans rfl
have hcz87_4 : wr.cell? ⟨gb142, 4, none⟩ = some (.string a0_4) := (blk_cell BK142.out 4).trans rfl
have hcz87_5 : wr.cell? ⟨gb142, 5, none⟩ = some (.string a0_5) := (blk_cell BK142.out 5).trans rfl
have hcz87_6 : wr.cell? ⟨gb142, 6, none⟩ = some (.int .i64 a0_6) := (blk_cell BK142.out 6).trans rfl
have hcz87_7 : wr.cell? ⟨gb142, 7, none⟩ = some (.slice A0_7 l0_7.length c0_7) := (blk_cell BK142.out 7).trans rfl
have hfz87_0 := blk_frozen BK142.out 0
have hfz87_1 := blk_frozen BK142.out 1
have hfz87_2 := blk_frozen BK142.out 2
have hfz87_3 := blk_frozen BK142.out 3
have hfz87_4 := blk_frozen BK142.out 4
have hfz87_5 := blk_frozen BK142.out 5
have hfz87_6 := blk_frozen BK142.out 6
have hfz87_7 := blk_frozen BK142.out 7
go_wp2
go_ret
exact ⟨by first | rfl | (simp [errW_none, errW_some] <;> rfl) | (simp [*, errW_none, errW_some] <;> rfl), by repeat (first | (with_reducible first | exact HB.out | apply below_alloc | apply pw_below_drewN | apply below_drew1 | refine below_set ?_ GE142.out) | exact HB.out)⟩
)
)
)
)
)
)
)
)
)

end Go.Proofs.Ytlhaaccdiienbaa.X
