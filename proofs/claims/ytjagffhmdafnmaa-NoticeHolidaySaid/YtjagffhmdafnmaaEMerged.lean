/- A lemma of this claim, proved by hand: what 'merged' answers, as a plain function. -/
import Derived.Test.YtjagffhmdafnmaaESort
import Derived.Test.YtjagffhmdafnmaaEOwn
import Derived.IntWalk
namespace Go.Proofs.Ytjagffhmdafnmaa.X
open Go.RowKit Go.Proofs.YtjagffhmdafnmaaW.PrintWords Go.Proofs.YtjagffhmdafnmaaW.PrintLast Go.Proofs.YtjagffhmdafnmaaW.PrintMore
set_option linter.unusedVariables false

theorem grow_nil (n : Nat) (hn : n ≤ 1000000) (w : World) : Calls Try.prog 56 #[.slice none 0 0, .int .i64 n] w fun e w' => ∃ v, e = .returned v ∧ w'.ownsRow w.heap.size 3 1 v ([] : List Int).length (encs (Value.int .i64) []) ∧ Below w.heap.size w w' := by
  by_cases h0 : n = 0
  · subst h0
    refine (Any8.slices_Grow_room Try.growI none 0 0 0 w (Nat.le_refl _) (by omega) (by omega) (by omega)).mono ?_
    rintro e w' ⟨rfl, rfl⟩
    exact ⟨_, rfl, ⟨by simp [encs], .inl ⟨rfl, rfl⟩⟩, Below.refl _ _⟩
  · obtain ⟨i0, hi, hz0, hz1, hz2⟩ := info_parts info3
    refine (Any8.slices_Grow_grow Try.growI i0 (.int .i64 0) hi hz0 (by rw [hz1]; decide) none 0 0 n [] w (Nat.le_refl _) (by omega) (by rw [hz2]; omega) (by omega) (by simp) (fun _ => rfl) (fun a h => by cases h)).mono ?_
    rintro e w' ⟨rfl, rfl⟩
    have hG := grownCap_ge w (0 + n) 0 3
    have hGm := grownCap_le_maxLen w (0 + n) 0 3 (by unfold maxLen; omega)
    refine ⟨_, rfl, ⟨by simp [encs], .inr ⟨w.heap.size, grownCap w (0 + n) 0 3, _, rfl, Nat.le_refl _, heap_alloc_new w.drew _, Nat.zero_le _, hGm, ?_, by simp [encs]⟩⟩, below_alloc (below_drew1 (Below.refl _ _)) _⟩
    rw [Array.size_append, Array.size_append, size_zeroCells, size_zeroCells]
    show 0 + _ * 1 + _ * 1 = _ * 1
    show 0 + (0 + n - 0) * 1 + (grownCap w (0 + n) 0 3 - (0 + n)) * 1 = _
    omega
def mergedP (a b : List Int) : List Int := rowP (a ++ b)
def day_merged.f (l0 l1 : List Int) : Option (List Int) := if l0.length + l1.length ≤ 100000 then some (mergedP l0 l1) else none
set_option maxHeartbeats 2000000 in
set_option maxRecDepth 100000 in
theorem concat_two (A0 : Option Addr) (c0 : Nat) (l0 : List Int) (A1 : Option Addr) (c1 : Nat) (l1 : List Int) (b : Nat) (w : World) (hb : w.heap[b]? = some (.cells #[.slice A0 l0.length c0, .slice A1 l1.length c1] 22 (0, 0))) (hr0 : Kd.C (Kd.int .i64) w A0 l0.length l0) (hr1 : Kd.C (Kd.int .i64) w A1 l1.length l1) (hl : l0.length + l1.length ≤ 100000) :
    Calls Try.prog 50 #[.slice (some ⟨b, 0, none⟩) 2 2] w fun e w' => ∃ v, e = .returned v ∧ Kd.R (Kd.int .i64) 3 w' w.heap.size (fun _ => True) v (l0 ++ l1) ∧ Below w.heap.size w w' := by
  have HR0 := Aside0.mk hr0
  have HR1 := Aside0.mk hr1
  have BK := Aside0.mk hb
  have HG : Aside0 (∀ w : World, Calls Try.prog 56 #[.slice none 0 0, .int .i64 ((l0.length : Int) + (l1.length : Int))] w fun e w' => ∃ v, e = .returned v ∧ w'.ownsRow w.heap.size 3 1 v ([] : List Int).length (encs (Value.int .i64) []) ∧ Below w.heap.size w w') := ⟨fun w => by have := grow_nil (l0.length + l1.length) (by omega) w; rwa [Int.natCast_add] at this⟩
  have x0 : w.cell? ⟨b, 0, none⟩ = some (.slice A0 l0.length c0) := (blk_cell hb 0).trans rfl
  have x1 : w.cell? ⟨b, 1, none⟩ = some (.slice A1 l1.length c1) := (blk_cell hb 1).trans rfl
  have e0 : IntKind.i64.wrap (l0.length : Int) = (l0.length : Int) := IntWalk.i64_in _ (by omega)
  have e1 : IntKind.i64.wrap ((l0.length : Int) + (l1.length : Int)) = (l0.length : Int) + (l1.length : Int) := IntWalk.i64_in _ (by omega)
  have d0 : decide ((l0.length : Int) < 0) = false := decide_eq_false (by omega)
  have d1 : decide ((l0.length : Int) + (l1.length : Int) < 0) = false := decide_eq_false (by omega)
  have HL := Aside0.mk hl
  clear hr0 hr1 hb hl
  go_enter Try.func50, Try.ntmps50
  go_wp2
  refine wp_loop_rounds 3 ?_
  rw [rounds_succ]
  go_wp2
  rw [rounds_succ]
  go_wp2
  rw [rounds_succ]
  go_wp2_with fail
  refine (HG.out w).mono ?_
  rintro e w1 ⟨v0, rfl, ho, hb1⟩
  have HO0 := Aside0.mk (Kd.R_of_own (h1 := fun _ => rfl) (ok := fun _ => True) ho (fun _ _ => trivial))
  have HB := Aside0.mk hb1
  have y0 : w1.cell? ⟨b, 0, none⟩ = some (.slice A0 l0.length c0) := (blk_cell (blk_below BK.out hb1) 0).trans rfl
  have y1 : w1.cell? ⟨b, 1, none⟩ = some (.slice A1 l1.length c1) := (blk_cell (blk_below BK.out hb1) 1).trans rfl
  clear ho hb1 x0 x1
  go_wp2
  refine wp_loop_rounds 3 ?_
  rw [rounds_succ]
  go_wp2_with (at_builtin; refine Kd.R_append_row (Value.int .i64) (0 : Int) (w0 := w) w.heap.size rfl (.tmp 31) (.tmp 32) 22 3 (.int .i64 0) 8 rfl Try.underlying22 info3 rfl (by decide) v0 ([] : List Int) l0 A0 l0.length c0 (fun _ => True) rfl rfl (fun _ _ => trivial) HO0.out ?ar HB.out ?ab ?al ?_; (case ar => exact Kd.C_below HR0.out HB.out); (case ab => exact HB.out.size); (case al => have := HL.out; simp; omega); intro v1 w2 ho_ hb_ hg_ hat_; have HO1 := Aside0.mk ho_; have HB1 := Aside0.mk hb_; clear ho_ hb_ hg_ hat_)
  have z1 : w2.cell? ⟨b, 1, none⟩ = some (.slice A1 l1.length c1) := (blk_cell (blk_below BK.out HB1.out) 1).trans rfl
  clear y0 y1
  rw [rounds_succ]
  go_wp2_with (at_builtin; refine Kd.R_append_row (Value.int .i64) (0 : Int) (w0 := w) w.heap.size rfl (.tmp 31) (.tmp 32) 22 3 (.int .i64 0) 8 rfl Try.underlying22 info3 rfl (by decide) v1 ([] ++ l0) l1 A1 l1.length c1 (fun _ => True) rfl rfl (fun _ _ => trivial) HO1.out ?ar HB1.out ?ab ?al ?_; (case ar => exact Kd.C_below HR1.out HB1.out); (case ab => exact HB1.out.size); (case al => have := HL.out; simp; omega); intro v2 w3 ho_ hb_ hg_ hat_; have HO2 := Aside0.mk ho_; have HB2 := Aside0.mk hb_; clear ho_ hb_ hg_ hat_)
  rw [rounds_succ]
  go_wp2
  go_ret
  exact ⟨_, rfl, HO2.out, HB2.out⟩
set_option maxHeartbeats 2000000 in
set_option maxRecDepth 100000 in
theorem day_merged.calls (A0 : Option Addr) (c0 : Nat) (l0 : List Int) (A1 : Option Addr) (c1 : Nat) (l1 : List Int) (r : List Int) (w : World) (hr0 : Kd.C (Kd.int .i64) w A0 l0.length l0) (hc0 : l0.length ≤ c0) (hr1 : Kd.C (Kd.int .i64) w A1 l1.length l1) (hc1 : l1.length ≤ c1) (h : day_merged.f l0 l1 = some r) :
    Calls Try.prog 41 #[.slice A0 l0.length c0, .slice A1 l1.length c1] w fun e w' => ∃ v0_ : Value, e = .returned v0_ ∧ Kd.R (Kd.int .i64) 3 w' w.heap.size (fun _ => True) v0_ r ∧ Below w.heap.size w w' := by
  unfold day_merged.f at h
  by_cases hl : l0.length + l1.length ≤ 100000
  · rw [if_pos hl] at h
    obtain rfl := Option.some.inj h
    have HR0 := Aside0.mk hr0
    have HR1 := Aside0.mk hr1
    have HL := Aside0.mk hl
    clear hr0 hr1 hc0 hc1 hl h
    go_enter Try.func41, Try.ntmps41
    go_wp2_with fail
    refine (concat_two A0 c0 l0 A1 c1 l1 _ _ (blk_new _ _) (Kd.C_alloc HR0.out _) (Kd.C_alloc HR1.out _) HL.out).mono ?_
    rintro e w1 ⟨v, rfl, ho, hb⟩
    have HB := Aside0.mk (below_step (below_alloc (Below.refl _ _) _) hb)
    have HO := Aside0.mk (Kd.own_of_R (Kd.R_lower ho (by simp : w.heap.size ≤ _)))
    clear ho hb
    go_wp2_with fail
    refine (sort_own v (l0 ++ l1) w.heap.size w1 HO.out (by have := HL.out; rw [List.length_append]; omega)).mono ?_
    rintro e w2 ⟨rfl, ho, hg⟩
    have HB2 := Aside0.mk (HB.out.grown hg HB.out.size (own_base HO.out))
    have HO2 := Aside0.mk (show w2.ownsRow w.heap.size 3 1 v (sortP (l0 ++ l1)).length (encs (Value.int .i64) (sortP (l0 ++ l1))) by rw [sortP_length]; exact ho)
    clear ho hg
    go_wp2_with fail
    refine (compact_own v (sortP (l0 ++ l1)) w.heap.size w2 HO2.out (by have := HL.out; rw [sortP_length, List.length_append]; omega)).mono ?_
    rintro e w3 ⟨v', rfl, ho, hbk, hg⟩
    have HB3 := Aside0.mk (HB2.out.grown hg HB2.out.size (own_base HO2.out))
    have HO3 := Aside0.mk ho
    clear ho hg hbk
    go_wp2
    go_ret
    exact ⟨_, rfl, Kd.R_of_own (h1 := fun _ => rfl) HO3.out (fun _ _ => trivial), HB3.out⟩
  · rw [if_neg hl] at h
    cases h
end Go.Proofs.Ytjagffhmdafnmaa.X
