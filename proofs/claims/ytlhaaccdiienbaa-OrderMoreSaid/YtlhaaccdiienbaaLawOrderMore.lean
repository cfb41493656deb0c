/- OrderMore answers true for every order, days, parts and two places: a piece more than was ordered is refused, wherever it is, and what isn't of the order may not be; its arguments read afterwards as they read before. Conditions: none besides the row's own. -/
import Derived.Test.YtlhaaccdiienbaaRows
import Derived.Test.YtlhaaccdiienbaaMAll
import Derived.Test.YtlhaaccdiienbaaOpens
import Derived.WalkKit
import Derived.ProofKit
import Derived.OpenShut
import Derived.ShutString
import Derived.ChangeOld
import Derived.Below
import Derived.SizedLaws
namespace Go.Proofs.Ytlhaaccdiienbaa.orderMore
open Go.ChangeShapes Go.WideShapes Go.ChangeAt Go.RowKit
open Go.ChangeMaps (open_string shut_string)
open Go.Proofs.YtlhaaccdiienbaaW.PrintWords Go.Proofs.Ytlhaaccdiienbaa.X
set_option linter.unusedVariables false
theorem own : ownKnob Try.prog.godebug = none := by kernel_rfl
theorem laidOut : laidOutB Try.prog = true := by kernel_rfl
theorem opens9 : Opens Try.prog 9 Kd.string (fun x => x.size ≤ maxLen) := opens_string Try.underlying9 (by kernel_rfl)
theorem opens3 : Opens Try.prog 3 (Kd.int .i64) (fun x => (Lit.int .i64 x).wf = true) := opens_int Try.underlying3 (by kernel_rfl)
theorem opens2 : Opens Try.prog 2 (Kd.int .i64) (fun x => (Lit.int .i64 x).wf = true) := opens_int Try.underlying2 (by kernel_rfl)
def Wf65 (x : S65) : Prop := x.f0.size ≤ maxLen ∧ (Lit.int .i64 x.f1).wf = true ∧ (Lit.int .i64 x.f2).wf = true
theorem opens65 : Opens Try.prog 65 k65 (fun x => Wf65 x) := opens_struct (P := Try.prog) (t := 65) (β := S65) Try.underlying65 (by kernel_rfl) (opensFs_cons (off := 0) (off' := 1) rfl opens9 rfl (opensFs_cons (off := 1) (off' := 2) rfl opens3 rfl (opensFs_one (off := 2) rfl opens2))) (fun x => (x.f0, x.f1, x.f2)) (fun x => ⟨x.1, x.2.1, x.2.2⟩) (fun _ => rfl)
theorem opens22 : Opens Try.prog 22 (Kd.slice 65 k65) (fun x => (∀ y22 ∈ x, Wf65 y22)) := opens_slice Try.underlying22 (by kernel_rfl) opens65
def Wf24 (x : S24) : Prop := x.f0.size ≤ maxLen ∧ x.f1.size ≤ maxLen ∧ x.f2.size ≤ maxLen ∧ x.f3.size ≤ maxLen ∧ x.f4.size ≤ maxLen ∧ x.f5.size ≤ maxLen ∧ (Lit.int .i64 x.f6).wf = true ∧ (∀ y22 ∈ x.f7, Wf65 y22)
theorem opens24 : Opens Try.prog 24 k24 (fun x => Wf24 x) := opens_struct (P := Try.prog) (t := 24) (β := S24) Try.underlying24 (by kernel_rfl) (opensFs_cons (off := 0) (off' := 1) rfl opens9 rfl (opensFs_cons (off := 1) (off' := 2) rfl opens9 rfl (opensFs_cons (off := 2) (off' := 3) rfl opens9 rfl (opensFs_cons (off := 3) (off' := 4) rfl opens9 rfl (opensFs_cons (off := 4) (off' := 5) rfl opens9 rfl (opensFs_cons (off := 5) (off' := 6) rfl opens9 rfl (opensFs_cons (off := 6) (off' := 7) rfl opens3 rfl (opensFs_one (off := 7) rfl opens22)))))))) (fun x => (x.f0, x.f1, x.f2, x.f3, x.f4, x.f5, x.f6, x.f7)) (fun x => ⟨x.1, x.2.1, x.2.2.1, x.2.2.2.1, x.2.2.2.2.1, x.2.2.2.2.2.1, x.2.2.2.2.2.2.1, x.2.2.2.2.2.2.2⟩) (fun _ => rfl)
theorem opens32 : Opens Try.prog 32 (Kd.slice 3 (Kd.int .i64)) (fun x => (∀ y32 ∈ x, (Lit.int .i64 y32).wf = true)) := opens_slice Try.underlying32 (by kernel_rfl) opens3
theorem opens33 : Opens Try.prog 33 (Kd.slice 32 (Kd.slice 3 (Kd.int .i64))) (fun x => (∀ y33 ∈ x, (∀ y32 ∈ y33, (Lit.int .i64 y32).wf = true))) := opens_slice Try.underlying33 (by kernel_rfl) opens32
set_option maxHeartbeats 1000000 in
set_option maxRecDepth 100000 in
theorem lifted (os : Os) (started : os.Started) (H : Type) (enc : TypeId × Value → H) :
    ReturnsInHanded {} Try.checked os 9 .any (Rows.orderMoreSpec.pre6 enc Try.prog Try.f9 Rows.orderMoreRow.domain false) (Rows.orderMoreSpec.post enc Try.prog Try.f9 false true false false) := by
  refine returnsInHanded_of_change_sized (C := Try.checked) own started (by kernel_rfl) Try.func9
    (ChangeSpec.witness6 (enc := enc) (C := Try.checked) false ⟨#[], #[.agg #[.string ByteArray.empty, .string ByteArray.empty, .string ByteArray.empty, .string ByteArray.empty, .string ByteArray.empty, .string ByteArray.empty, .int .i64 0, .slice none 0 0], .slice none 0 0, .slice none 0 0, .int .i64 0, .int .i64 0], []⟩ 8 (by kernel_rfl) (by kernel_rfl) (by kernel_rfl) (by kernel_rfl)) ?_
  intro W base args ds gs before hval0 hW hcnd hsz0 _
  have hval : ∀ (j : Nat) t v, Try.f9.params[j]? = some t → args[j]? = some v → Value.okWide Try.prog W .any base t v := hval0
  have hW' := hW
  obtain ⟨p, q, hA0, hV, rfl, hfz, hnd⟩ := hW
  have hA : DataW.TrodAll enc Try.prog W 0 (fun _ => true) true Try.f9.params.toList args.toList ds p := hA0
  rw [Try.params9] at hA hval
  obtain ⟨v0, vs0, d0, ds0, p0, q0, hargs, rfl, rfl, h0, r0⟩ := trodAll_cons hA
  obtain ⟨v1, vs1, d1, ds1, p1, q1, rfl, rfl, rfl, h1, r1⟩ := trodAll_cons r0
  obtain ⟨v2, vs2, d2, ds2, p2, q2, rfl, rfl, rfl, h2, r2⟩ := trodAll_cons r1
  obtain ⟨v3, vs3, d3, ds3, p3, q3, rfl, rfl, rfl, h3, r3⟩ := trodAll_cons r2
  obtain ⟨v4, vs4, d4, ds4, p4, q4, rfl, rfl, rfl, h4, r4⟩ := trodAll_cons r3
  obtain ⟨rfl, rfl, rfl⟩ := trodAll_nil r4
  obtain rfl : args = #[v0, v1, v2, v3, v4] := by cases args; simp_all
  obtain ⟨rfl, rfl⟩ := trodVars_none hV
  obtain ⟨cs0, rfl, hs0⟩ := okWide_struct Try.underlying24 (hval 0 24 v0 rfl rfl)
  have k0 := h0
  have lt0 : ∀ x ∈ p0, x.block < W.heap.size := by obtain ⟨m, hm⟩ := k0; exact DataW.trod_lt m _ _ _ hm
  obtain ⟨fu0, hf0⟩ := h0
  obtain ⟨x0, hx0, w0⟩ := (opens24).open_ hf0
  obtain ⟨A0_7, c0_7, e0_, hc0_7, hr0_7⟩ := k24_open hx0
  obtain rfl : cs0 = #[.string x0.f0, .string x0.f1, .string x0.f2, .string x0.f3, .string x0.f4, .string x0.f5, .int .i64 x0.f6, .slice A0_7 x0.f7.length c0_7] := Array.ext' (by simpa [Value.cells] using e0_)
  obtain ⟨A1, n1, c1, rfl⟩ := okWide_slice Try.underlying32 (hval 1 32 v1 rfl rfl)
  have k1 := h1
  have lt1 : ∀ x ∈ p1, x.block < W.heap.size := by obtain ⟨m, hm⟩ := k1; exact DataW.trod_lt m _ _ _ hm
  obtain ⟨fu1, hf1⟩ := h1
  obtain ⟨l1, ⟨A1_, c1_, e1_, hc1, hr1⟩, w1⟩ := (opens32).open_ hf1
  obtain ⟨rfl, rfl, rfl⟩ : A1 = A1_ ∧ n1 = l1.length ∧ c1 = c1_ := by simpa [Value.cells] using e1_
  obtain ⟨A2, n2, c2, rfl⟩ := okWide_slice Try.underlying33 (hval 2 33 v2 rfl rfl)
  have k2 := h2
  have lt2 : ∀ x ∈ p2, x.block < W.heap.size := by obtain ⟨m, hm⟩ := k2; exact DataW.trod_lt m _ _ _ hm
  obtain ⟨fu2, hf2⟩ := h2
  obtain ⟨l2, ⟨A2_, c2_, e2_, hc2, hr2⟩, w2⟩ := (opens33).open_ hf2
  obtain ⟨rfl, rfl, rfl⟩ : A2 = A2_ ∧ n2 = l2.length ∧ c2 = c2_ := by simpa [Value.cells] using e2_
  obtain ⟨a3, rfl, rfl, rfl, w3⟩ := open_int Try.underlying3 (hval 3 3 v3 rfl rfl) h3
  obtain ⟨a4, rfl, rfl, rfl, w4⟩ := open_int Try.underlying3 (hval 4 3 v4 rfl rfl) h4
  clear hA0 hval0 hsz0
  obtain ⟨kk, hkk⟩ := Ev.rounds (g := fun k => supercargolaw19_OrderMore.f k x0.f0 x0.f1 x0.f2 x0.f3 x0.f4 x0.f5 x0.f6 x0.f7 l1 l2 a3 a4) (r := true) (orderMore_ev x0.f0 x0.f1 x0.f2 x0.f3 x0.f4 x0.f5 x0.f6 x0.f7 l1 l2 a3 a4 hr0_7.2.1 hr1.2.1 hr2.2.1)
  refine (supercargolaw19_OrderMore.calls kk x0.f0 x0.f1 x0.f2 x0.f3 x0.f4 x0.f5 x0.f6 _ _ x0.f7 _ _ l1 _ _ l2 a3 a4 true W hr0_7 hc0_7 hr1 hc1 hr2 hc2 hkk ⟨rfl⟩).mono fun e W' ⟨he, bel⟩ => ?_
  subst he
  exact ⟨_, rfl, _, _, _, [], _, [], hW', trodAll_mk1 (shut_bool Try.underlying4 _), (trodAll_cons_mk (Below.trod laidOut (by kernel_rfl) (of_decide_eq_true (by kernel_rfl)) k0 bel lt0) (trodAll_cons_mk (Below.trod laidOut (by kernel_rfl) (of_decide_eq_true (by kernel_rfl)) k1 bel lt1) (trodAll_cons_mk (Below.trod laidOut (by kernel_rfl) (of_decide_eq_true (by kernel_rfl)) k2 bel lt2) (trodAll_cons_mk (shut_int Try.underlying3 w3) (trodAll_cons_mk (shut_int Try.underlying3 w4) trodAll_mk0))))), rfl, bel.frame _, fun h => by cases h⟩
theorem over : Rows.orderMoreRow.holds Try.pinned (OpenSpec.ofChange Rows.orderMoreSpec) :=
  OpenClaim.holds_of_wide 9 Try.f9 rfl rfl rfl rfl rfl rfl rfl ⟨rfl, rfl, rfl, rfl, rfl⟩ rfl rfl rfl rfl rfl (by kernel_rfl) Try.func9 (by kernel_rfl)
    (of_decide_eq_true (by kernel_rfl)) (by unfold Func.isWrapper; first | (rw [if_pos (by decide +kernel)]; kernel_rfl) | (rw [if_neg (by decide +kernel)]; exact ⟨rfl, rfl⟩))
    (fun os started H enc _ => lifted os started H enc)
theorem proved : Rows.OrderMoreSaid := over
#print axioms proved
end Go.Proofs.Ytlhaaccdiienbaa.orderMore
namespace Go.Proofs.Ytlhaaccdiienbaa
/-- The row, under a short name, for the claim. -/
theorem orderMore_holds : Rows.OrderMoreSaid := orderMore.proved
end Go.Proofs.Ytlhaaccdiienbaa
