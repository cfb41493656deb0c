/- A lemma of this claim, proved by hand: 'own' hands back the calendar that came in, if it may be, else the empty one. -/
import Derived.Test.YtjagffhmdafnmaaX2
import Derived.Deep.RegionWith
namespace Go.Proofs.Ytjagffhmdafnmaa.X
open Go.RowKit Go.Proofs.YtjagffhmdafnmaaW.PrintWords Go.Proofs.YtjagffhmdafnmaaW.PrintLast Go.Proofs.YtjagffhmdafnmaaW.PrintMore

theorem bcell {W w1 : World} (hb : Below W.heap.size W w1) : (∀ b o, b < W.heap.size → w1.cell? ⟨b, o, none⟩ = W.cell? ⟨b, o, none⟩) ∧ (∀ b o, b < W.heap.size → w1.frozen? ⟨b, o, none⟩ = W.frozen? ⟨b, o, none⟩) :=
  ⟨fun b o h => hb.cell (p := ⟨b, o, none⟩) h, fun b o h => hb.frozen (p := ⟨b, o, none⟩) h⟩
theorem below_ret {B : Nat} {w W : World} (hb : Below B w W) {p : Addr} (hp : B ≤ p.block) (v : Value) : Below B w (W.setCell p v) := hb.setCell hp v

set_option maxHeartbeats 1000000 in
set_option maxRecDepth 100000 in
theorem own_yes (k : Nat) (A0_0 : Option Addr) (c0_0 : Nat) (l0_0 : List Int) (A0_1 : Option Addr) (c0_1 : Nat) (l0_1 : List Int) (w : World) (hr0_0 : Kd.C (Kd.int .i64) w A0_0 l0_0.length l0_0) (hc0_0 : l0_0.length ≤ c0_0) (hr0_1 : Kd.C (Kd.int .i64) w A0_1 l0_1.length l0_1) (hc0_1 : l0_1.length ≤ c0_1) (h : day_May.f k l0_0 l0_1 = some true) :
    Calls Try.prog 40 #[.agg #[.slice A0_0 l0_0.length c0_0, .slice A0_1 l0_1.length c0_1]] w fun e w' => e = .returned (.agg #[.slice A0_0 l0_0.length c0_0, .slice A0_1 l0_1.length c0_1]) ∧ Below w.heap.size w w' := by
  have HR0 := Aside0.mk hr0_0
  have HR1 := Aside0.mk hr0_1
  have HC0 := Aside0.mk hc0_0
  have HC1 := Aside0.mk hc0_1
  have A := Aside0.mk h
  clear hr0_0 hr0_1 hc0_0 hc0_1 h
  go_enter Try.func40, Try.ntmps40
  go_wp2_with fail
  refine (day_May.calls k _ _ l0_0 _ _ l0_1 true _ (Kd.C_alloc (Kd.C_alloc HR0.out _) _) HC0.out (Kd.C_alloc (Kd.C_alloc HR1.out _) _) HC1.out A.out).mono ?_
  rintro e w1 ⟨rfl, hb⟩
  obtain ⟨hc, hf⟩ := bcell hb
  have HB := Aside0.mk hb
  clear hb
  go_wp2
  exact bodyPost_ret (v := .agg #[.slice A0_0 l0_0.length c0_0, .slice A0_1 l0_1.length c0_1]) (by simp [results, Try.results40, go_sem, hc]) rfl ⟨rfl, by
    refine below_ret (below_ret (below_step (below_alloc (below_alloc (Below.refl _ _) _) _) HB.out) ?_ _) ?_ _ <;> simp⟩
set_option maxHeartbeats 1000000 in
set_option maxRecDepth 100000 in
theorem own_no (k : Nat) (A0_0 : Option Addr) (c0_0 : Nat) (l0_0 : List Int) (A0_1 : Option Addr) (c0_1 : Nat) (l0_1 : List Int) (w : World) (hr0_0 : Kd.C (Kd.int .i64) w A0_0 l0_0.length l0_0) (hc0_0 : l0_0.length ≤ c0_0) (hr0_1 : Kd.C (Kd.int .i64) w A0_1 l0_1.length l0_1) (hc0_1 : l0_1.length ≤ c0_1) (h : day_May.f k l0_0 l0_1 = some false) :
    Calls Try.prog 40 #[.agg #[.slice A0_0 l0_0.length c0_0, .slice A0_1 l0_1.length c0_1]] w fun e w' => e = .returned (.agg #[.slice none 0 0, .slice none 0 0]) ∧ Below w.heap.size w w' := by
  have HR0 := Aside0.mk hr0_0
  have HR1 := Aside0.mk hr0_1
  have HC0 := Aside0.mk hc0_0
  have HC1 := Aside0.mk hc0_1
  have A := Aside0.mk h
  clear hr0_0 hr0_1 hc0_0 hc0_1 h
  go_enter Try.func40, Try.ntmps40
  go_wp2_with fail
  refine (day_May.calls k _ _ l0_0 _ _ l0_1 false _ (Kd.C_alloc (Kd.C_alloc HR0.out _) _) HC0.out (Kd.C_alloc (Kd.C_alloc HR1.out _) _) HC1.out A.out).mono ?_
  rintro e w1 ⟨rfl, hb⟩
  obtain ⟨hc, hf⟩ := bcell hb
  have HB := Aside0.mk hb
  clear hb
  go_wp2
  exact bodyPost_ret (v := .agg #[.slice none 0 0, .slice none 0 0]) (by simp [results, Try.results40, go_sem, hc]) rfl ⟨rfl, by
    refine below_ret (below_ret (below_step (below_alloc (below_alloc (Below.refl _ _) _) _) HB.out) ?_ _) ?_ _ <;> simp⟩
end Go.Proofs.Ytjagffhmdafnmaa.X
