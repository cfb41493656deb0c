/- A lemma of this claim, proved by hand: what 'Between' answers, as a plain function. -/
import Derived.Test.YtjagffhmdafnmaaEOwn
import Derived.Test.YtjagffhmdafnmaaX3
import Derived.Deep.RegionHeld3
namespace Go.Proofs.Ytjagffhmdafnmaa.X
open Go.RowKit Go.Proofs.YtjagffhmdafnmaaW.PrintWords Go.Proofs.YtjagffhmdafnmaaW.PrintLast Go.Proofs.YtjagffhmdafnmaaW.PrintMore
attribute [local go_sem] max2_int min2_int max_two min_two max_three min_three max_four min_four

/-- Days worked on ahead of one, less those ahead of the other. -/
def day_Between.l0 (k : Nat) (l h : List Int) (a b : Int) : Option Int := (day_ahead.f k l h b).bind fun x => (day_ahead.f k l h a).bind fun y => some (wrap64 (x - y))
def day_Between.f (k : Nat) (l0_0 : List Int) (l0_1 : List Int) (a1 : Int) (a2 : Int) : Option (Int) :=
  if (mn a2 1048577) ≤ (mx a1 0) then (some 0) else ((day_May.f k l0_0 l0_1).bind fun t => if t = true then day_Between.l0 k l0_0 l0_1 (mx a1 0) (mn a2 1048577) else day_Between.l0 k [] [] (mx a1 0) (mn a2 1048577))
theorem day_Between.mono : ∀ a0 a1 a2 a3 k, LeO (day_Between.f k a0 a1 a2 a3) (day_Between.f (k + 1) a0 a1 a2 a3) := by
  intro a0 a1 a2 a3 k
  unfold day_Between.f day_Between.l0
  repeat' first
      | (with_reducible exact day_ahead.mono _ _ _ _)
      | (with_reducible exact day_May.mono _ _ _)
      | (with_reducible exact LeO.refl _)
      | (with_reducible exact LeO.none _)
      | (with_reducible refine LeO.ite ?_ ?_)
      | (with_reducible refine LeO.bind ?_ (fun _ => ?_))

/-- A box of two slices, as it stands in a later world. -/
def Box2 (w : World) (g : Nat) (u v : Value) (w' : World) : Prop := w'.cell? ⟨g, 0, none⟩ = some u ∧ w'.cell? ⟨g, 1, none⟩ = some v ∧ Aside0 (w'.heap[g]? = some (.cells #[u, v] 24 (0, 0))) ∧ Aside0 (Below w.heap.size w w')
theorem Box2.mk' {w w' : World} {g : Nat} {u v : Value} (h : w'.heap[g]? = some (.cells #[u, v] 24 (0, 0))) (hb : Below w.heap.size w w') : Box2 w g u v w' := ⟨(blk_cell h 0).trans rfl, (blk_cell h 1).trans rfl, ⟨h⟩, ⟨hb⟩⟩
theorem Box2.below {w w' w2 : World} {g : Nat} {u v : Value} (h : Box2 w g u v w') (hb : Below w'.heap.size w' w2) : Box2 w g u v w2 := Box2.mk' (blk_below h.2.2.1.out hb) (below_step h.2.2.2.out hb)
theorem Box2.drew {w w' : World} {g : Nat} {u v : Value} (h : Box2 w g u v w') : Box2 w g u v w'.drew := Box2.mk' h.2.2.1.out (below_drew1 h.2.2.2.out)
theorem Box2.reads {w w' : World} {g : Nat} {u v : Value} (h : Box2 w g u v w') {A : Option Addr} {n : Nat} {xs : List Int} (hr : Kd.C (Kd.int .i64) w A n xs) : Kd.C (Kd.int .i64) w' A n xs := Kd.C_below hr h.2.2.2.out

set_option maxHeartbeats 3200000 in
set_option maxRecDepth 100000 in
theorem between_gen (k : Nat) (A0_0 : Option Addr) (c0_0 : Nat) (l0_0 : List Int) (A0_1 : Option Addr) (c0_1 : Nat) (l0_1 : List Int) (B0 B1 : Option Addr) (e0 e1 : Nat) (r q : List Int) (a1 : Int) (a2 : Int) (z : Int) (w : World)
    (hr0 : Kd.C (Kd.int .i64) w B0 r.length r) (hc0 : r.length ≤ e0) (hr1 : Kd.C (Kd.int .i64) w B1 q.length q) (hc1 : q.length ≤ e1) (hown : Aside0 (∀ W : World, Below w.heap.size w W → Calls Try.prog 40 #[.agg #[.slice A0_0 l0_0.length c0_0, .slice A0_1 l0_1.length c0_1]] W fun e w' => e = .returned (.agg #[.slice B0 r.length e0, .slice B1 q.length e1]) ∧ Below W.heap.size W w'))
    (hlt : ¬ (mn a2 1048577) ≤ (mx a1 0)) (h : day_Between.l0 k r q (mx a1 0) (mn a2 1048577) = some z) :
    Calls Try.prog 25 #[.agg #[.slice A0_0 l0_0.length c0_0, .slice A0_1 l0_1.length c0_1], .int .i64 a1, .int .i64 a2] w fun e w' => e = .returned (.int .i64 z) ∧ Below w.heap.size w w' := by
  have HR0 := Aside0.mk hr0
  have HR1 := Aside0.mk hr1
  have HC0 := Aside0.mk hc0
  have HC1 := Aside0.mk hc1
  unfold day_Between.l0 at h
  obtain ⟨x, hx, h'⟩ := Option.bind_eq_some_iff.mp h
  obtain ⟨y, hy, h''⟩ := Option.bind_eq_some_iff.mp h'
  obtain rfl := Option.some.inj h''
  have AX := Aside0.mk hx
  have AY := Aside0.mk hy
  clear hr0 hr1 hc0 hc1 h h' h'' hx hy
  generalize hu : mn a2 1048577 = U at *
  generalize hv : mx a1 0 = V at *
  unfold mn at hu
  unfold mx at hv
  have hd : decide (U ≤ V) = false := by simpa using hlt
  go_enter Try.func25, Try.ntmps25
  go_wp2_with fail
  refine (hown.out _ (below_alloc (Below.refl _ _) _)).mono ?_
  rintro e w1 ⟨rfl, hb⟩
  obtain ⟨hc, hf⟩ := bcell hb
  have HB := Aside0.mk (below_step (below_alloc (Below.refl _ _) _) hb)
  have BK := Aside0.mk (blk_below (blk_new w (.cells #[.slice A0_0 l0_0.length c0_0, .slice A0_1 l0_1.length c0_1] 24 (0, 0))) hb)
  clear hb
  go_wp2_with fail
  have BK2 : Aside0 (((w1.setCell ⟨w.heap.size, 0, none⟩ (.slice B0 r.length e0)).setCell ⟨w.heap.size, 1, none⟩ (.slice B1 q.length e1)).heap[w.heap.size]? = some (.cells #[.slice B0 r.length e0, .slice B1 q.length e1] 24 (0, 0))) := ⟨blk_put (blk_put BK.out 0 _ rfl) 1 _ rfl⟩
  have HB2 : Aside0 (Below w.heap.size w ((w1.setCell ⟨w.heap.size, 0, none⟩ (.slice B0 r.length e0)).setCell ⟨w.heap.size, 1, none⟩ (.slice B1 q.length e1))) := ⟨below_ret (below_ret HB.out (Nat.le_refl _) _) (Nat.le_refl _) _⟩
  generalize (w1.setCell ⟨w.heap.size, 0, none⟩ (.slice B0 r.length e0)).setCell ⟨w.heap.size, 1, none⟩ (.slice B1 q.length e1) = w2 at *
  clear hc hf HB BK hu hv hd hlt
  obtain ⟨c0, c1, b0, b1⟩ : Box2 w w.heap.size (.slice B0 r.length e0) (.slice B1 q.length e1) w2 := Box2.mk' BK2.out HB2.out
  clear BK2 HB2
  go_region_held3 (fun w' => w'.cell? ⟨w.heap.size, 0, none⟩ = some (.slice B0 r.length e0) ∧ w'.cell? ⟨w.heap.size, 1, none⟩ = some (.slice B1 q.length e1) ∧ Aside0 (w'.heap[w.heap.size]? = some (.cells #[.slice B0 r.length e0, .slice B1 q.length e1] 24 (0, 0))) ∧ Aside0 (Below w.heap.size w w'))
    (first | (refine Box2.drew ?_; exact ⟨c0, c1, b0, b1⟩) | (refine Box2.below (w := w) (g := w.heap.size) (u := .slice B0 r.length e0) (v := .slice B1 q.length e1) ?_ hb3; assumption))
    (first | (go_at_call 44; first | ((with_reducible refine (day_ahead.calls k _ _ r _ _ q U x _ ?s1 HC0.out ?s2 HC1.out AX.out).mono ?_); (case s1 => refine Box2.reads (w := w) (g := w.heap.size) (u := .slice B0 r.length e0) (v := .slice B1 q.length e1) ?_ HR0.out; assumption); (case s2 => refine Box2.reads (w := w) (g := w.heap.size) (u := .slice B0 r.length e0) (v := .slice B1 q.length e1) ?_ HR1.out; assumption); rintro e w3 ⟨rfl, hb3⟩) | ((with_reducible refine (day_ahead.calls k _ _ r _ _ q V y _ ?s1 HC0.out ?s2 HC1.out AY.out).mono ?_); (case s1 => refine Box2.reads (w := w) (g := w.heap.size) (u := .slice B0 r.length e0) (v := .slice B1 q.length e1) ?_ HR0.out; assumption); (case s2 => refine Box2.reads (w := w) (g := w.heap.size) (u := .slice B0 r.length e0) (v := .slice B1 q.length e1) ?_ HR1.out; assumption); rintro e w3 ⟨rfl, hb3⟩)))
  go_wp2
  go_ret
  rename_i hh
  exact ⟨congrArg (fun z => Ending.returned (.int .i64 z)) (show IntKind.i64.wrap (x - y) = wrap64 (x - y) by unfold wrap64; exact IntKind.wrap_i64 _), hh.2.2.2.out⟩
theorem day_Between.calls (k : Nat) (A0_0 : Option Addr) (c0_0 : Nat) (l0_0 : List Int) (A0_1 : Option Addr) (c0_1 : Nat) (l0_1 : List Int) (a1 : Int) (a2 : Int) (r : Int) (w : World) (hr0_0 : Kd.C (Kd.int .i64) w A0_0 l0_0.length l0_0) (hc0_0 : l0_0.length ≤ c0_0) (hr0_1 : Kd.C (Kd.int .i64) w A0_1 l0_1.length l0_1) (hc0_1 : l0_1.length ≤ c0_1) (h : day_Between.f k l0_0 l0_1 a1 a2 = some r) :
    Calls Try.prog 25 #[.agg #[.slice A0_0 l0_0.length c0_0, .slice A0_1 l0_1.length c0_1], .int .i64 a1, .int .i64 a2] w fun e w' => e = .returned (.int .i64 r) ∧ Below w.heap.size w w' := by
  unfold day_Between.f at h
  by_cases hlt : (mn a2 1048577) ≤ (mx a1 0)
  · rw [if_pos hlt] at h
    obtain rfl := Option.some.inj h
    generalize hu : mn a2 1048577 = U at *
    generalize hv : mx a1 0 = V at *
    unfold mn at hu
    unfold mx at hv
    have hd : decide (U ≤ V) = true := by simpa using hlt
    go_enter Try.func25, Try.ntmps25
    go_wp2
    go_ret
    exact ⟨rfl, below_alloc (Below.refl _ _) _⟩
  · rw [if_neg hlt] at h
    obtain ⟨t, A, h⟩ := Option.bind_eq_some_iff.mp h
    cases t with
    | true =>
      rw [if_pos rfl] at h
      exact between_gen k _ _ _ _ _ _ _ _ _ _ l0_0 l0_1 a1 a2 r w hr0_0 hc0_0 hr0_1 hc0_1 ⟨fun W hb => own_yes k _ _ _ _ _ _ W (Kd.C_below hr0_0 hb) hc0_0 (Kd.C_below hr0_1 hb) hc0_1 A⟩ hlt h
    | false =>
      rw [if_neg (by decide)] at h
      exact between_gen k _ _ _ _ _ _ none none 0 0 [] [] a1 a2 r w (Kd.C_nil _ _) (Nat.le_refl _) (Kd.C_nil _ _) (Nat.le_refl _) ⟨fun W hb => own_no k _ _ _ _ _ _ W (Kd.C_below hr0_0 hb) hc0_0 (Kd.C_below hr0_1 hb) hc0_1 A⟩ hlt h
end Go.Proofs.Ytjagffhmdafnmaa.X
