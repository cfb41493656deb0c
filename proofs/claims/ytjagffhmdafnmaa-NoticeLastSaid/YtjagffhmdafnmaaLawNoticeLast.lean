/- NoticeLast answers true for every calendar, expiry, day of shipment and term: on the last day of a credit papers shipped in time are not too late, on the next day they are; its arguments read afterwards as they read before. Conditions: none besides the row's own. -/
import Derived.Test.YtjagffhmdafnmaaRows
import Derived.Test.YtjagffhmdafnmaaMLast
import Derived.Test.YtjagffhmdafnmaaOpens
import Derived.WalkKit
import Derived.ProofKit
import Derived.OpenShut
import Derived.ShutString
import Derived.ChangeOld
import Derived.Below
import Derived.SizedLaws
namespace Go.Proofs.Ytjagffhmdafnmaa.noticeLast
open Go.ChangeShapes Go.WideShapes Go.ChangeAt Go.RowKit
open Go.ChangeMaps (open_string shut_string)
open Go.Proofs.YtjagffhmdafnmaaW.PrintWords Go.Proofs.Ytjagffhmdafnmaa.X
set_option linter.unusedVariables false
theorem own : ownKnob Try.prog.godebug = none := by kernel_rfl
theorem laidOut : laidOutB Try.prog = true := by kernel_rfl
theorem opens3 : Opens Try.prog 3 (Kd.int .i64) (fun x => (Lit.int .i64 x).wf = true) := opens_int Try.underlying3 (by kernel_rfl)
theorem opens22 : Opens Try.prog 22 (Kd.slice 3 (Kd.int .i64)) (fun x => (∀ y22 ∈ x, (Lit.int .i64 y22).wf = true)) := opens_slice Try.underlying22 (by kernel_rfl) opens3
def Wf24 (x : S24) : Prop := (∀ y22 ∈ x.f0, (Lit.int .i64 y22).wf = true) ∧ (∀ y22 ∈ x.f1, (Lit.int .i64 y22).wf = true)
theorem opens24 : Opens Try.prog 24 k24 (fun x => Wf24 x) := opens_struct (P := Try.prog) (t := 24) (β := S24) Try.underlying24 (by kernel_rfl) (opensFs_cons (off := 0) (off' := 1) rfl opens22 rfl (opensFs_one (off := 1) rfl opens22)) (fun x => (x.f0, x.f1)) (fun x => ⟨x.1, x.2⟩) (fun _ => rfl)
set_option maxHeartbeats 1000000 in
set_option maxRecDepth 100000 in
theorem lifted (os : Os) (started : os.Started) (H : Type) (enc : TypeId × Value → H) :
    ReturnsInHanded {} Try.checked os 7 .any (Rows.noticeLastSpec.pre6 enc Try.prog Try.f7 Rows.noticeLastRow.domain false) (Rows.noticeLastSpec.post enc Try.prog Try.f7 false true false false) := by
  refine returnsInHanded_of_change_sized (C := Try.checked) own started (by kernel_rfl) Try.func7
    (ChangeSpec.witness6 (enc := enc) (C := Try.checked) false ⟨#[], #[.agg #[.slice none 0 0, .slice none 0 0], .int .i64 0, .int .i64 0, .int .i64 0], []⟩ 8 (by kernel_rfl) (by kernel_rfl) (by kernel_rfl) (by kernel_rfl)) ?_
  intro W base args ds gs before hval0 hW hcnd hsz0 _
  have hval : ∀ (j : Nat) t v, Try.f7.params[j]? = some t → args[j]? = some v → Value.okWide Try.prog W .any base t v := hval0
  have hW' := hW
  obtain ⟨p, q, hA0, hV, rfl, hfz, hnd⟩ := hW
  have hA : DataW.TrodAll enc Try.prog W 0 (fun _ => true) true Try.f7.params.toList args.toList ds p := hA0
  rw [Try.params7] at hA hval
  obtain ⟨v0, vs0, d0, ds0, p0, q0, hargs, rfl, rfl, h0, r0⟩ := trodAll_cons hA
  obtain ⟨v1, vs1, d1, ds1, p1, q1, rfl, rfl, rfl, h1, r1⟩ := trodAll_cons r0
  obtain ⟨v2, vs2, d2, ds2, p2, q2, rfl, rfl, rfl, h2, r2⟩ := trodAll_cons r1
  obtain ⟨v3, vs3, d3, ds3, p3, q3, rfl, rfl, rfl, h3, r3⟩ := trodAll_cons r2
  obtain ⟨rfl, rfl, rfl⟩ := trodAll_nil r3
  obtain rfl : args = #[v0, v1, v2, v3] := by cases args; simp_all
  obtain ⟨rfl, rfl⟩ := trodVars_none hV
  obtain ⟨cs0, rfl, hs0⟩ := okWide_struct Try.underlying24 (hval 0 24 v0 rfl rfl)
  have k0 := h0
  have lt0 : ∀ x ∈ p0, x.block < W.heap.size := by obtain ⟨m, hm⟩ := k0; exact DataW.trod_lt m _ _ _ hm
  obtain ⟨fu0, hf0⟩ := h0
  obtain ⟨x0, hx0, w0⟩ := (opens24).open_ hf0
  obtain ⟨A0_0, c0_0, A0_1, c0_1, e0_, hc0_0, hr0_0, hc0_1, hr0_1⟩ := k24_open hx0
  obtain rfl : cs0 = #[.slice A0_0 x0.f0.length c0_0, .slice A0_1 x0.f1.length c0_1] := Array.ext' (by simpa [Value.cells] using e0_)
  obtain ⟨a1, rfl, rfl, rfl, w1⟩ := open_int Try.underlying3 (hval 1 3 v1 rfl rfl) h1
  obtain ⟨a2, rfl, rfl, rfl, w2⟩ := open_int Try.underlying3 (hval 2 3 v2 rfl rfl) h2
  obtain ⟨a3, rfl, rfl, rfl, w3⟩ := open_int Try.underlying3 (hval 3 3 v3 rfl rfl) h3
  clear hA0 hval0 hsz0
  obtain ⟨kk, hkk⟩ := Ev.rounds (g := fun k => supercargolaw35_NoticeLast.f k x0.f0 x0.f1 a1 a2 a3) (r := true) (noticeLast_ev x0.f0 x0.f1 hr0_0.2.1 hr0_1.2.1 a1 a2 a3)
  refine (supercargolaw35_NoticeLast.calls kk _ _ x0.f0 _ _ x0.f1 a1 a2 a3 true W hr0_0 hc0_0 hr0_1 hc0_1 hkk ⟨rfl⟩).mono fun e W' ⟨he, bel⟩ => ?_
  subst he
  exact ⟨_, rfl, _, _, _, [], _, [], hW', trodAll_mk1 (shut_bool Try.underlying4 _), (trodAll_cons_mk (Below.trod laidOut (by kernel_rfl) (of_decide_eq_true (by kernel_rfl)) k0 bel lt0) (trodAll_cons_mk (shut_int Try.underlying3 w1) (trodAll_cons_mk (shut_int Try.underlying3 w2) (trodAll_cons_mk (shut_int Try.underlying3 w3) trodAll_mk0)))), rfl, bel.frame _, fun h => by cases h⟩
theorem over : Rows.noticeLastRow.holds Try.pinned (OpenSpec.ofChange Rows.noticeLastSpec) :=
  OpenClaim.holds_of_wide 7 Try.f7 rfl rfl rfl rfl rfl rfl rfl ⟨rfl, rfl, rfl, rfl, rfl⟩ rfl rfl rfl rfl rfl (by kernel_rfl) Try.func7 (by kernel_rfl)
    (of_decide_eq_true (by kernel_rfl)) (by unfold Func.isWrapper; first | (rw [if_pos (by decide +kernel)]; kernel_rfl) | (rw [if_neg (by decide +kernel)]; exact ⟨rfl, rfl⟩))
    (fun os started H enc _ => lifted os started H enc)
theorem proved : Rows.NoticeLastSaid := over
#print axioms proved
end Go.Proofs.Ytjagffhmdafnmaa.noticeLast
namespace Go.Proofs.Ytjagffhmdafnmaa
/-- The row, under a short name, for the claim. -/
theorem noticeLast_holds : Rows.NoticeLastSaid := noticeLast.proved
end Go.Proofs.Ytjagffhmdafnmaa
