/- OrderLate answers true for every two numbers of days and every row of consignments: who is late on a day is late on each later one; its arguments read afterwards as they read before. Conditions: none besides the row's own. -/
import Derived.Test.YtlhaaccdiienbaaRows
import Derived.Test.YtlhaaccdiienbaaMLate
import Derived.Test.YtlhaaccdiienbaaOpens
import Derived.WalkKit
import Derived.ProofKit
import Derived.OpenShut
import Derived.ShutString
import Derived.ChangeOld
import Derived.Below
import Derived.SizedLaws
namespace Go.Proofs.Ytlhaaccdiienbaa.orderLate
open Go.ChangeShapes Go.WideShapes Go.ChangeAt Go.RowKit
open Go.ChangeMaps (open_string shut_string)
open Go.Proofs.YtlhaaccdiienbaaW.PrintWords Go.Proofs.Ytlhaaccdiienbaa.X
set_option linter.unusedVariables false
theorem own : ownKnob Try.prog.godebug = none := by kernel_rfl
theorem laidOut : laidOutB Try.prog = true := by kernel_rfl
theorem opens9 : Opens Try.prog 9 Kd.string (fun x => x.size ≤ maxLen) := opens_string Try.underlying9 (by kernel_rfl)
theorem opens3 : Opens Try.prog 3 (Kd.int .i64) (fun x => (Lit.int .i64 x).wf = true) := opens_int Try.underlying3 (by kernel_rfl)
def Wf67 (x : S67) : Prop := x.f0.size ≤ maxLen ∧ (Lit.int .i64 x.f1).wf = true
theorem opens67 : Opens Try.prog 67 k67 (fun x => Wf67 x) := opens_struct (P := Try.prog) (t := 67) (β := S67) Try.underlying67 (by kernel_rfl) (opensFs_cons (off := 0) (off' := 1) rfl opens9 rfl (opensFs_one (off := 1) rfl opens3)) (fun x => (x.f0, x.f1)) (fun x => ⟨x.1, x.2⟩) (fun _ => rfl)
theorem opens40 : Opens Try.prog 40 (Kd.slice 67 k67) (fun x => (∀ y40 ∈ x, Wf67 y40)) := opens_slice Try.underlying40 (by kernel_rfl) opens67
def Wf42 (x : S42) : Prop := x.f0.size ≤ maxLen ∧ (Lit.int .i64 x.f1).wf = true ∧ (Lit.int .i64 x.f2).wf = true ∧ (∀ y40 ∈ x.f3, Wf67 y40)
theorem opens42 : Opens Try.prog 42 k42 (fun x => Wf42 x) := opens_struct (P := Try.prog) (t := 42) (β := S42) Try.underlying42 (by kernel_rfl) (opensFs_cons (off := 0) (off' := 1) rfl opens9 rfl (opensFs_cons (off := 1) (off' := 2) rfl opens3 rfl (opensFs_cons (off := 2) (off' := 3) rfl opens3 rfl (opensFs_one (off := 3) rfl opens40)))) (fun x => (x.f0, x.f1, x.f2, x.f3)) (fun x => ⟨x.1, x.2.1, x.2.2.1, x.2.2.2⟩) (fun _ => rfl)
theorem opens34 : Opens Try.prog 34 (Kd.slice 42 k42) (fun x => (∀ y34 ∈ x, Wf42 y34)) := opens_slice Try.underlying34 (by kernel_rfl) opens42
set_option maxHeartbeats 1000000 in
set_option maxRecDepth 100000 in
theorem lifted (os : Os) (started : os.Started) (H : Type) (enc : TypeId × Value → H) :
    ReturnsInHanded {} Try.checked os 5 .any (Rows.orderLateSpec.pre6 enc Try.prog Try.f5 Rows.orderLateRow.domain false) (Rows.orderLateSpec.post enc Try.prog Try.f5 false true false false) := by
  refine returnsInHanded_of_change_sized (C := Try.checked) own started (by kernel_rfl) Try.func5
    (ChangeSpec.witness6 (enc := enc) (C := Try.checked) false ⟨#[], #[.int .i64 0, .int .i64 0, .slice none 0 0], []⟩ 8 (by kernel_rfl) (by kernel_rfl) (by kernel_rfl) (by kernel_rfl)) ?_
  intro W base args ds gs before hval0 hW hcnd hsz0 _
  have hval : ∀ (j : Nat) t v, Try.f5.params[j]? = some t → args[j]? = some v → Value.okWide Try.prog W .any base t v := hval0
  have hW' := hW
  obtain ⟨p, q, hA0, hV, rfl, hfz, hnd⟩ := hW
  have hA : DataW.TrodAll enc Try.prog W 0 (fun _ => true) true Try.f5.params.toList args.toList ds p := hA0
  rw [Try.params5] at hA hval
  obtain ⟨v0, vs0, d0, ds0, p0, q0, hargs, rfl, rfl, h0, r0⟩ := trodAll_cons hA
  obtain ⟨v1, vs1, d1, ds1, p1, q1, rfl, rfl, rfl, h1, r1⟩ := trodAll_cons r0
  obtain ⟨v2, vs2, d2, ds2, p2, q2, rfl, rfl, rfl, h2, r2⟩ := trodAll_cons r1
  obtain ⟨rfl, rfl, rfl⟩ := trodAll_nil r2
  obtain rfl : args = #[v0, v1, v2] := by cases args; simp_all
  obtain ⟨rfl, rfl⟩ := trodVars_none hV
  obtain ⟨a0, rfl, rfl, rfl, w0⟩ := open_int Try.underlying3 (hval 0 3 v0 rfl rfl) h0
  obtain ⟨a1, rfl, rfl, rfl, w1⟩ := open_int Try.underlying3 (hval 1 3 v1 rfl rfl) h1
  obtain ⟨A2, n2, c2, rfl⟩ := okWide_slice Try.underlying34 (hval 2 34 v2 rfl rfl)
  have k2 := h2
  have lt2 : ∀ x ∈ p2, x.block < W.heap.size := by obtain ⟨m, hm⟩ := k2; exact DataW.trod_lt m _ _ _ hm
  obtain ⟨fu2, hf2⟩ := h2
  obtain ⟨l2, ⟨A2_, c2_, e2_, hc2, hr2⟩, w2⟩ := (opens34).open_ hf2
  obtain ⟨rfl, rfl, rfl⟩ : A2 = A2_ ∧ n2 = l2.length ∧ c2 = c2_ := by simpa [Value.cells] using e2_
  clear hA0 hval0 hsz0
  obtain ⟨kk, hkk⟩ := Ev.rounds (g := fun k => supercargolaw19_OrderLate.f k a0 a1 l2) (r := true) (orderLate_ev a0 a1 l2)
  refine (supercargolaw19_OrderLate.calls kk a0 a1 _ _ l2 true W hr2 hc2 hkk ⟨rfl⟩).mono fun e W' ⟨he, bel⟩ => ?_
  subst he
  exact ⟨_, rfl, _, _, _, [], _, [], hW', trodAll_mk1 (shut_bool Try.underlying4 _), (trodAll_cons_mk (shut_int Try.underlying3 w0) (trodAll_cons_mk (shut_int Try.underlying3 w1) (trodAll_cons_mk (Below.trod laidOut (by kernel_rfl) (of_decide_eq_true (by kernel_rfl)) k2 bel lt2) trodAll_mk0))), rfl, bel.frame _, fun h => by cases h⟩
theorem over : Rows.orderLateRow.holds Try.pinned (OpenSpec.ofChange Rows.orderLateSpec) :=
  OpenClaim.holds_of_wide 5 Try.f5 rfl rfl rfl rfl rfl rfl rfl ⟨rfl, rfl, rfl, rfl, rfl⟩ rfl rfl rfl rfl rfl (by kernel_rfl) Try.func5 (by kernel_rfl)
    (of_decide_eq_true (by kernel_rfl)) (by unfold Func.isWrapper; first | (rw [if_pos (by decide +kernel)]; kernel_rfl) | (rw [if_neg (by decide +kernel)]; exact ⟨rfl, rfl⟩))
    (fun os started H enc _ => lifted os started H enc)
theorem proved : Rows.OrderLateSaid := over
#print axioms proved
end Go.Proofs.Ytlhaaccdiienbaa.orderLate
namespace Go.Proofs.Ytlhaaccdiienbaa
/-- The row, under a short name, for the claim. -/
theorem orderLate_holds : Rows.OrderLateSaid := orderLate.proved
end Go.Proofs.Ytlhaaccdiienbaa
