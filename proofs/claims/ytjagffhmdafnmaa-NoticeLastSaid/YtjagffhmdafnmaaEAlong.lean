/- A lemma of this claim, proved by hand: what 'along' answers, as a plain function. -/
import Derived.Test.YtjagffhmdafnmaaEOwn
import Derived.ScopeJumps
import Derived.Deep.LoopGhost
import Derived.WalkMore
namespace Go.Proofs.Ytjagffhmdafnmaa.X
open Go.RowKit Go.Proofs.YtjagffhmdafnmaaW.PrintWords Go.Proofs.YtjagffhmdafnmaaW.PrintLast Go.Proofs.YtjagffhmdafnmaaW.PrintMore

theorem wp_scope_ghost {P : Program} {Q : Exit → Act → World → Prop} {a : Act} {w : World} {c rest : Code} (l : Nat) (J : Nat → Act → World → Prop) (hf : findLabel c l = some (Code.skip.seq rest)) (n₀ : Nat)
    (pass : ∀ n a w, J n a w → rest.wp P (Exit.jump l (fun a' w' => ∃ n', n' < n ∧ J n' a' w') Q) a w)
    (first0 : (∀ n a w, J n a w → rest.wp P (Exit.jump l (fun a' w' => ∃ n', n' < n ∧ J n' a' w') Q) a w) → c.wp P (Exit.jump l (fun a w => ∃ n, n < n₀ ∧ J n a w) Q) a w) : (Code.scope c).wp P Q a w := by
  have first := first0 pass
  refine wp_scope_jumps l (fun a w => ∃ n, J n a w) (fun a w => leastOf (fun n => J n a w)) hf (wp_mono first ?_) ?_
  · intro e a' w' hq
    cases e with
    | goto l' => exact ⟨hq.1, hq.2.imp fun _ h => h.2⟩
    | normal => exact hq
    | exit id => exact hq
    | ret => exact hq
    | panic ch => exact hq
    | outgrown => exact hq
  · intro a w hI
    refine wp_mono (wp_seq (wp_skip (Q := Exit.then _ _) (pass _ a w (leastOf_spec hI).1))) ?_
    intro e a' w' hq
    cases e with
    | goto l' =>
      obtain ⟨hl, n', hlt, hI'⟩ := hq
      exact ⟨hl, ⟨n', hI'⟩, Nat.lt_of_le_of_lt ((leastOf_spec ⟨n', hI'⟩).2 n' hI') hlt⟩
    | normal => exact hq
    | exit id => exact hq
    | ret => exact hq
    | panic ch => exact hq
    | outgrown => exact hq

/-- From a day on: is it one; does it rest; is it the last that is asked for. -/
def day_along.l0 : Nat → List Int → List Int → Int → Int → Int → Option (Int × Bool)
  | 0, _, _, _, _, _ => none
  | k + 1, l, h, d, n, s => if 0 ≤ d then (if d ≤ 1048576 then ((day_rests.f k l h d).bind fun t => if t = true then (if 0 < n then day_along.l0 k l h (wrap64 (d + s)) n s else some (d, true)) else (if 0 < wrap64 (n - 1) then day_along.l0 k l h (wrap64 (d + s)) (wrap64 (n - 1)) s else some (d, true))) else some (0, false)) else some (0, false)
def day_along.f (k : Nat) (l0_0 : List Int) (l0_1 : List Int) (a1 : Int) (a2 : Int) (a3 : Int) : Option (Int × Bool) :=
  (day_May.f k l0_0 l0_1).bind fun t => if t = true then day_along.l0 k l0_0 l0_1 a1 a2 a3 else day_along.l0 k [] [] a1 a2 a3
theorem day_along.mono_l : ∀ k, (∀ y0 y1 y2 y3 y4, LeO (day_along.l0 k y0 y1 y2 y3 y4) (day_along.l0 (k + 1) y0 y1 y2 y3 y4))
  | 0 => fun _ _ _ _ _ r h => by simp [day_along.l0] at h
  | k + 1 => by
    have ih0 := day_along.mono_l k
    · intro y0 y1 y2 y3 y4
      unfold day_along.l0
      repeat' first
      | (with_reducible exact ih0 _ _ _ _ _)
      | (with_reducible exact day_rests.mono _ _ _ _)
      | (with_reducible exact LeO.refl _)
      | (with_reducible exact LeO.none _)
      | (with_reducible refine LeO.ite ?_ ?_)
      | (with_reducible refine LeO.bind ?_ (fun _ => ?_))
theorem day_along.mono : ∀ a0 a1 a2 a3 a4 k, LeO (day_along.f k a0 a1 a2 a3 a4) (day_along.f (k + 1) a0 a1 a2 a3 a4) := by
  intro a0 a1 a2 a3 a4 k
  unfold day_along.f
  repeat' first
      | (with_reducible exact day_along.mono_l _ _ _ _ _ _)
      | (with_reducible exact day_May.mono _ _ _)
      | (with_reducible exact LeO.refl _)
      | (with_reducible exact LeO.none _)
      | (with_reducible refine LeO.ite ?_ ?_)
      | (with_reducible refine LeO.bind ?_ (fun _ => ?_))

set_option maxHeartbeats 2000000 in
set_option maxRecDepth 100000 in
theorem along_gen (k : Nat) (A0_0 : Option Addr) (c0_0 : Nat) (l0_0 : List Int) (A0_1 : Option Addr) (c0_1 : Nat) (l0_1 : List Int) (B0 B1 : Option Addr) (e0 e1 : Nat) (r q : List Int) (a1 : Int) (a2 : Int) (a3 : Int) (r1 : Int) (r2 : Bool) (w : World)
    (hr0 : Kd.C (Kd.int .i64) w B0 r.length r) (hc0 : r.length ≤ e0) (hr1 : Kd.C (Kd.int .i64) w B1 q.length q) (hc1 : q.length ≤ e1) (hown : Aside0 (∀ W : World, Below w.heap.size w W → Calls Try.prog 40 #[.agg #[.slice A0_0 l0_0.length c0_0, .slice A0_1 l0_1.length c0_1]] W fun e w' => e = .returned (.agg #[.slice B0 r.length e0, .slice B1 q.length e1]) ∧ Below W.heap.size W w')) (h : day_along.l0 k r q a1 a2 a3 = some (r1, r2)) :
    Calls Try.prog 43 #[.agg #[.slice A0_0 l0_0.length c0_0, .slice A0_1 l0_1.length c0_1], .int .i64 a1, .int .i64 a2, .int .i64 a3] w fun e w' => e = .returned (.tuple #[.int .i64 r1, .bool r2]) ∧ Below w.heap.size w w' := by
  have HR0 := Aside0.mk hr0
  have HR1 := Aside0.mk hr1
  have HC0 := Aside0.mk hc0
  have HC1 := Aside0.mk hc1
  have H := Aside0.mk h
  clear hr0 hr1 hc0 hc1 h
  go_enter Try.func43, Try.ntmps43
  go_wp2
  refine wp_scope_ghost 0 (fun n a' w' => ∃ (d m : Int) (u10 u11 u12 u13 u14 u15 u16 u17 u18 u19 u20 u21 u22 u23 u24 u25 u26 : Value), a' = { tmps := #[.agg #[.slice A0_0 l0_0.length c0_0, .slice A0_1 l0_1.length c0_1], .int .i64 d, .int .i64 m, .int .i64 a3, .pointer (some ⟨w.heap.size, 0, none⟩), undef, undef, undef, .int .i64 0, .bool false, u10, u11, u12, u13, u14, u15, u16, u17, u18, u19, u20, u21, u22, u23, u24, u25, u26], defers := [] } ∧ Aside0 (day_along.l0 n r q d m a3 = some (r1, r2)) ∧ Aside0 (w'.heap[w.heap.size]? = some (.cells #[.slice B0 r.length e0, .slice B1 q.length e1] 24 (0, 0))) ∧ Aside0 (Below w.heap.size w w')) rfl k ?pass ?first
  case first =>
    intro pass
    go_wp2_with fail
    refine (hown.out _ (below_alloc (Below.refl _ _) _)).mono ?_
    rintro e w1 ⟨rfl, hb⟩
    obtain ⟨hc, hf⟩ := bcell hb
    have HB := Aside0.mk (below_step (below_alloc (Below.refl _ _) _) hb)
    have BK := Aside0.mk (blk_below (blk_new w (.cells #[.slice A0_0 l0_0.length c0_0, .slice A0_1 l0_1.length c0_1] 24 (0, 0))) hb)
    clear hb
    go_wp2_with fail
    go_step3
    go_step
    go_step
    refine pass k _ _ ⟨a1, a2, _, _, _, _, _, _, _, _, _, _, _, _, _, _, _, _, _, rfl, H, ?_, ?_⟩
    · exact ⟨blk_put (blk_put BK.out 0 _ rfl) 1 _ rfl⟩
    · exact ⟨below_ret (below_ret HB.out (Nat.le_refl _) _) (Nat.le_refl _) _⟩
  case pass =>
    rintro n a' w' ⟨d, m, u10, u11, u12, u13, u14, u15, u16, u17, u18, u19, u20, u21, u22, u23, u24, u25, u26, rfl, H, BK, HB⟩
    have c0 := blk_cell BK.out 0
    have c1 := blk_cell BK.out 1
    simp at c0 c1
    obtain ⟨n, rfl⟩ : ∃ q, n = q + 1 := by
      cases n with
      | zero => have := H.out; simp [day_along.l0] at this
      | succ q => exact ⟨q, rfl⟩
    replace H := H.out
    simp only [day_along.l0] at H
    by_cases h0 : 0 ≤ d
    · by_cases h1 : d ≤ 1048576
      · rw [if_pos h0, if_pos h1] at H
        obtain ⟨t, AR0, H⟩ := Option.bind_eq_some_iff.mp H
        have AR := Aside0.mk AR0
        clear AR0
        have hd0 : decide (0 ≤ d) = true := by simpa using h0
        have hd1 : decide (d ≤ 1048576) = true := by simpa using h1
        cases t with
        | true =>
          rw [if_pos rfl] at H
          by_cases hm : 0 < m
          · rw [if_pos hm] at H
            have HH := Aside0.mk H
            clear H
            have hdm : decide (0 < m) = true := by simpa using hm
            go_wp2_with (first | (go_at_call 42; refine (day_is.calls d true _ (by simp [day_is.f, h0, h1])).mono ?_; rintro e w2 ⟨rfl, ⟨nd, rfl⟩⟩) | (go_at_call 53; refine (day_rests.calls n _ _ r _ _ q d true _ (Kd.C_drewN (Kd.C_below HR0.out HB.out) _) HC0.out (Kd.C_drewN (Kd.C_below HR1.out HB.out) _) HC1.out AR.out).mono ?_; rintro e w2 ⟨rfl, hb2⟩))
            go_step3
            exact ⟨rfl, n, Nat.lt_succ_self n, _, _, _, _, _, _, _, _, _, _, _, _, _, _, _, _, _, _, _, rfl, HH, ⟨blk_below (blk_drewN BK.out nd) hb2⟩, ⟨below_step (pw_below_drewN HB.out nd) hb2⟩⟩
          · rw [if_neg hm] at H
            simp only [Option.some.injEq, Prod.mk.injEq] at H
            have HH := Aside0.mk H
            clear H
            have hdm : decide (0 < m) = false := by simpa using hm
            go_wp2_with (first | (go_at_call 42; refine (day_is.calls d true _ (by simp [day_is.f, h0, h1])).mono ?_; rintro e w2 ⟨rfl, ⟨nd, rfl⟩⟩) | (go_at_call 53; refine (day_rests.calls n _ _ r _ _ q d true _ (Kd.C_drewN (Kd.C_below HR0.out HB.out) _) HC0.out (Kd.C_drewN (Kd.C_below HR1.out HB.out) _) HC1.out AR.out).mono ?_; rintro e w2 ⟨rfl, hb2⟩))
            simp only [Exit.jump]
            go_ret2
            obtain ⟨rfl, rfl⟩ := HH.out
            exact ⟨rfl, below_step (pw_below_drewN HB.out nd) hb2⟩
        | false =>
          rw [if_neg (by decide)] at H
          by_cases hm : 0 < wrap64 (m - 1)
          · rw [if_pos hm] at H
            have HH := Aside0.mk H
            clear H
            have hdm : decide (0 < wrap64 (m - 1)) = true := by simpa using hm
            go_wp2_with (first | (go_at_call 42; refine (day_is.calls d true _ (by simp [day_is.f, h0, h1])).mono ?_; rintro e w2 ⟨rfl, ⟨nd, rfl⟩⟩) | (go_at_call 53; refine (day_rests.calls n _ _ r _ _ q d false _ (Kd.C_drewN (Kd.C_below HR0.out HB.out) _) HC0.out (Kd.C_drewN (Kd.C_below HR1.out HB.out) _) HC1.out AR.out).mono ?_; rintro e w2 ⟨rfl, hb2⟩))
            go_step3
            exact ⟨rfl, n, Nat.lt_succ_self n, _, _, _, _, _, _, _, _, _, _, _, _, _, _, _, _, _, _, _, rfl, HH, ⟨blk_below (blk_drewN BK.out nd) hb2⟩, ⟨below_step (pw_below_drewN HB.out nd) hb2⟩⟩
          · rw [if_neg hm] at H
            simp only [Option.some.injEq, Prod.mk.injEq] at H
            have HH := Aside0.mk H
            clear H
            have hdm : decide (0 < wrap64 (m - 1)) = false := by simpa using hm
            go_wp2_with (first | (go_at_call 42; refine (day_is.calls d true _ (by simp [day_is.f, h0, h1])).mono ?_; rintro e w2 ⟨rfl, ⟨nd, rfl⟩⟩) | (go_at_call 53; refine (day_rests.calls n _ _ r _ _ q d false _ (Kd.C_drewN (Kd.C_below HR0.out HB.out) _) HC0.out (Kd.C_drewN (Kd.C_below HR1.out HB.out) _) HC1.out AR.out).mono ?_; rintro e w2 ⟨rfl, hb2⟩))
            simp only [Exit.jump]
            go_ret2
            obtain ⟨rfl, rfl⟩ := HH.out
            exact ⟨rfl, below_step (pw_below_drewN HB.out nd) hb2⟩
      · rw [if_pos h0, if_neg h1] at H
        simp only [Option.some.injEq, Prod.mk.injEq] at H
        have HH := Aside0.mk H
        clear H
        go_wp2_with (go_at_call 42; refine (day_is.calls d false _ (by simp [day_is.f, h0, h1])).mono ?_; rintro e w2 ⟨rfl, ⟨nd, rfl⟩⟩)
        simp only [Exit.jump]
        go_ret2
        obtain ⟨rfl, rfl⟩ := HH.out
        exact ⟨rfl, pw_below_drewN HB.out nd⟩
    · rw [if_neg h0] at H
      simp only [Option.some.injEq, Prod.mk.injEq] at H
      have HH := Aside0.mk H
      clear H
      go_wp2_with (go_at_call 42; refine (day_is.calls d false _ (by simp [day_is.f, h0])).mono ?_; rintro e w2 ⟨rfl, ⟨nd, rfl⟩⟩)
      simp only [Exit.jump]
      go_ret2
      obtain ⟨rfl, rfl⟩ := HH.out
      exact ⟨rfl, pw_below_drewN HB.out nd⟩
theorem day_along.calls (k : Nat) (A0_0 : Option Addr) (c0_0 : Nat) (l0_0 : List Int) (A0_1 : Option Addr) (c0_1 : Nat) (l0_1 : List Int) (a1 : Int) (a2 : Int) (a3 : Int) (r1 : Int) (r2 : Bool) (w : World) (hr0_0 : Kd.C (Kd.int .i64) w A0_0 l0_0.length l0_0) (hc0_0 : l0_0.length ≤ c0_0) (hr0_1 : Kd.C (Kd.int .i64) w A0_1 l0_1.length l0_1) (hc0_1 : l0_1.length ≤ c0_1) (h : day_along.f k l0_0 l0_1 a1 a2 a3 = some (r1, r2)) :
    Calls Try.prog 43 #[.agg #[.slice A0_0 l0_0.length c0_0, .slice A0_1 l0_1.length c0_1], .int .i64 a1, .int .i64 a2, .int .i64 a3] w fun e w' => e = .returned (.tuple #[.int .i64 r1, .bool r2]) ∧ Below w.heap.size w w' := by
  unfold day_along.f at h
  obtain ⟨t, A, h⟩ := Option.bind_eq_some_iff.mp h
  cases t with
  | true =>
    rw [if_pos rfl] at h
    exact along_gen k _ _ _ _ _ _ _ _ _ _ l0_0 l0_1 a1 a2 a3 r1 r2 w hr0_0 hc0_0 hr0_1 hc0_1 ⟨fun W hb => own_yes k _ _ _ _ _ _ W (Kd.C_below hr0_0 hb) hc0_0 (Kd.C_below hr0_1 hb) hc0_1 A⟩ h
  | false =>
    rw [if_neg (by decide)] at h
    exact along_gen k _ _ _ _ _ _ none none 0 0 [] [] a1 a2 a3 r1 r2 w (Kd.C_nil _ _) (Nat.le_refl _) (Kd.C_nil _ _) (Nat.le_refl _) ⟨fun W hb => own_no k _ _ _ _ _ _ W (Kd.C_below hr0_0 hb) hc0_0 (Kd.C_below hr0_1 hb) hc0_1 A⟩ h
end Go.Proofs.Ytjagffhmdafnmaa.X
