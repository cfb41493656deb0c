/- NoticeHoliday answers true for every calendar, holiday, credit and days: one holiday more makes no answer and no papers too late that weren't; its arguments read afterwards as they read before. Conditions: none besides the row's own. -/
import Derived.Test.YtjagffhmdafnmaaRows
import Derived.Test.YtjagffhmdafnmaaMHol
import Derived.Test.YtjagffhmdafnmaaOpens
import Derived.WalkKit
import Derived.ProofKit
import Derived.OpenShut
import Derived.ShutString
import Derived.ChangeOld
import Derived.Below
import Derived.SizedLaws
namespace Go.Proofs.Ytjagffhmdafnmaa.noticeHoliday
open Go.ChangeShapes Go.WideShapes Go.ChangeAt Go.RowKit
open Go.ChangeMaps (open_string shut_string)
open Go.Proofs.YtjagffhmdafnmaaW.PrintWords Go.Proofs.Ytjagffhmdafnmaa.X
set_option linter.unusedVariables false
theorem own : ownKnob Try.prog.godebug = none := by kernel_rfl
theorem laidOut : laidOutB Try.prog = true := by kernel_rfl
theorem opens3 : Opens Try.prog 3 (Kd.int .i64) (fun x => (Lit.int .i64 x).wf = true) := opens_int Try.underlying3 (by kernel_rfl)
theorem opens22 : Opens Try.prog 22 (Kd.slice 3 (Kd.int .i64)) (fun x => (∀ y22 ∈ x, (Lit.int .i64 y22).wf = true)) := opens_slice Try.underlying22 (by kernel_rfl) opens3
def Wf24 (x : S24) : Prop := (∀ y22 ∈ x.f0, (Lit.int .i64 y22).wf = true) ∧ (∀ y22 ∈ x.f1, (Lit.int .i64 y22).wf = true)
theorem opens24 : Opens Try.prog 24 k24 (fun x => Wf24 x) := opens_struct (P := Try.prog) (t := 24) (β := S24) Try.underlying24 (by kernel_rfl) (opensFs_cons (off := 0) (off' := 1) rfl opens22 rfl (opensFs_one (off := 1) rfl opens22)) (fun x => (x.f0, x.f1)) (fun x => ⟨x.1, x.2⟩) (fun _ => rfl)
theorem opens9 : Opens Try.prog 9 Kd.string (fun x => x.size ≤ maxLen) := opens_string Try.underlying9 (by kernel_rfl)
theorem opens2 : Opens Try.prog 2 (Kd.int .i64) (fun x => (Lit.int .i64 x).wf = true) := opens_int Try.underlying2 (by kernel_rfl)
def Wf39 (x : S39) : Prop := x.f0.size ≤ maxLen ∧ (Lit.int .i64 x.f1).wf = true
theorem opens39 : Opens Try.prog 39 k39 (fun x => Wf39 x) := opens_struct (P := Try.prog) (t := 39) (β := S39) Try.underlying39 (by kernel_rfl) (opensFs_cons (off := 0) (off' := 1) rfl opens9 rfl (opensFs_one (off := 1) rfl opens2)) (fun x => (x.f0, x.f1)) (fun x => ⟨x.1, x.2⟩) (fun _ => rfl)
theorem opens4 : Opens Try.prog 4 Kd.bool (fun x => True) := opens_bool Try.underlying4 (by kernel_rfl)
theorem opens40 : Opens Try.prog 40 (Kd.slice 114 kAny) (fun x => True) := opens_any Try.underlying40 (by kernel_rfl)
structure Sq42 where
  f0 : ByteArray
  f1 : ByteArray
  f2 : ByteArray
  f3 : ByteArray
  f4 : ByteArray
  f5 : ByteArray
  f6 : ByteArray
  f7 : S39
  f8 : Int
  f9 : Int
  f10 : Int
  f11 : Int
  f12 : Int
  f13 : Int
  f14 : Bool
  f15 : Bool
  f16 : (List Unit)
def kq42 : Kd Sq42 := Kd.iso (Kd.pair Kd.string (Kd.pair Kd.string (Kd.pair Kd.string (Kd.pair Kd.string (Kd.pair Kd.string (Kd.pair Kd.string (Kd.pair Kd.string (Kd.pair k39 (Kd.pair (Kd.int .i64) (Kd.pair (Kd.int .i64) (Kd.pair (Kd.int .i64) (Kd.pair (Kd.int .i64) (Kd.pair (Kd.int .i64) (Kd.pair (Kd.int .i64) (Kd.pair Kd.bool (Kd.pair Kd.bool (Kd.slice 114 kAny))))))))))))))))) (fun x : Sq42 => (x.f0, x.f1, x.f2, x.f3, x.f4, x.f5, x.f6, x.f7, x.f8, x.f9, x.f10, x.f11, x.f12, x.f13, x.f14, x.f15, x.f16))
theorem kq42_open {w : World} {x : Sq42} {cs : List Value} (h : kq42.K w x cs) : ∃ A17 c17, cs = [.string x.f0, .string x.f1, .string x.f2, .string x.f3, .string x.f4, .string x.f5, .string x.f6, .string x.f7.f0, .int .i64 x.f7.f1, .int .i64 x.f8, .int .i64 x.f9, .int .i64 x.f10, .int .i64 x.f11, .int .i64 x.f12, .int .i64 x.f13, .bool x.f14, .bool x.f15, .slice A17 x.f16.length c17] ∧ x.f16.length ≤ c17 ∧ Kd.C kAny w A17 x.f16.length x.f16 := by
  obtain ⟨_, _, rfl, rfl, ⟨_, _, rfl, rfl, ⟨_, _, rfl, rfl, ⟨_, _, rfl, rfl, ⟨_, _, rfl, rfl, ⟨_, _, rfl, rfl, ⟨_, _, rfl, rfl, ⟨_, _, rfl, s7, ⟨_, _, rfl, rfl, ⟨_, _, rfl, rfl, ⟨_, _, rfl, rfl, ⟨_, _, rfl, rfl, ⟨_, _, rfl, rfl, ⟨_, _, rfl, rfl, ⟨_, _, rfl, rfl, ⟨_, _, rfl, rfl, ⟨A17, c17, rfl, l17, g17⟩⟩⟩⟩⟩⟩⟩⟩⟩⟩⟩⟩⟩⟩⟩⟩⟩ := h
  obtain rfl := k39_open s7
  exact ⟨A17, c17, rfl, l17, g17⟩
def Wf42 (x : Sq42) : Prop := x.f0.size ≤ maxLen ∧ x.f1.size ≤ maxLen ∧ x.f2.size ≤ maxLen ∧ x.f3.size ≤ maxLen ∧ x.f4.size ≤ maxLen ∧ x.f5.size ≤ maxLen ∧ x.f6.size ≤ maxLen ∧ Wf39 x.f7 ∧ (Lit.int .i64 x.f8).wf = true ∧ (Lit.int .i64 x.f9).wf = true ∧ (Lit.int .i64 x.f10).wf = true ∧ (Lit.int .i64 x.f11).wf = true ∧ (Lit.int .i64 x.f12).wf = true ∧ (Lit.int .i64 x.f13).wf = true ∧ True ∧ True ∧ True
theorem opens42 : Opens Try.prog 42 kq42 (fun x => Wf42 x) := opens_struct (P := Try.prog) (t := 42) (β := Sq42) Try.underlying42 (by kernel_rfl) (opensFs_cons (off := 0) (off' := 1) rfl opens9 rfl (opensFs_cons (off := 1) (off' := 2) rfl opens9 rfl (opensFs_cons (off := 2) (off' := 3) rfl opens9 rfl (opensFs_cons (off := 3) (off' := 4) rfl opens9 rfl (opensFs_cons (off := 4) (off' := 5) rfl opens9 rfl (opensFs_cons (off := 5) (off' := 6) rfl opens9 rfl (opensFs_cons (off := 6) (off' := 7) rfl opens9 rfl (opensFs_cons (off := 7) (off' := 9) rfl opens39 rfl (opensFs_cons (off := 9) (off' := 10) rfl opens3 rfl (opensFs_cons (off := 10) (off' := 11) rfl opens3 rfl (opensFs_cons (off := 11) (off' := 12) rfl opens3 rfl (opensFs_cons (off := 12) (off' := 13) rfl opens3 rfl (opensFs_cons (off := 13) (off' := 14) rfl opens3 rfl (opensFs_cons (off := 14) (off' := 15) rfl opens3 rfl (opensFs_cons (off := 15) (off' := 16) rfl opens4 rfl (opensFs_cons (off := 16) (off' := 17) rfl opens4 rfl (opensFs_one (off := 17) rfl opens40))))))))))))))))) (fun x => (x.f0, x.f1, x.f2, x.f3, x.f4, x.f5, x.f6, x.f7, x.f8, x.f9, x.f10, x.f11, x.f12, x.f13, x.f14, x.f15, x.f16)) (fun x => ⟨x.1, x.2.1, x.2.2.1, x.2.2.2.1, x.2.2.2.2.1, x.2.2.2.2.2.1, x.2.2.2.2.2.2.1, x.2.2.2.2.2.2.2.1, x.2.2.2.2.2.2.2.2.1, x.2.2.2.2.2.2.2.2.2.1, x.2.2.2.2.2.2.2.2.2.2.1, x.2.2.2.2.2.2.2.2.2.2.2.1, x.2.2.2.2.2.2.2.2.2.2.2.2.1, x.2.2.2.2.2.2.2.2.2.2.2.2.2.1, x.2.2.2.2.2.2.2.2.2.2.2.2.2.2.1, x.2.2.2.2.2.2.2.2.2.2.2.2.2.2.2.1, x.2.2.2.2.2.2.2.2.2.2.2.2.2.2.2.2⟩) (fun _ => rfl)
set_option maxHeartbeats 1000000 in
set_option maxRecDepth 100000 in
theorem lifted (os : Os) (started : os.Started) (H : Type) (enc : TypeId × Value → H) :
    ReturnsInHanded {} Try.checked os 8 .any (Rows.noticeHolidaySpec.pre6 enc Try.prog Try.f8 Rows.noticeHolidayRow.domain false) (Rows.noticeHolidaySpec.post enc Try.prog Try.f8 false true false false) := by
  refine returnsInHanded_of_change_sized (C := Try.checked) own started (by kernel_rfl) Try.func8
    (ChangeSpec.witness6 (enc := enc) (C := Try.checked) false ⟨#[], #[.agg #[.slice none 0 0, .slice none 0 0], .int .i64 0, .agg #[.string ByteArray.empty, .string ByteArray.empty, .string ByteArray.empty, .string ByteArray.empty, .string ByteArray.empty, .string ByteArray.empty, .string ByteArray.empty, .string ByteArray.empty, .int .i64 0, .int .i64 0, .int .i64 0, .int .i64 0, .int .i64 0, .int .i64 0, .int .i64 0, .bool false, .bool false, .slice none 0 0], .int .i64 0, .int .i64 0, .int .i64 0], []⟩ 8 (by kernel_rfl) (by kernel_rfl) (by kernel_rfl) (by kernel_rfl)) ?_
  intro W base args ds gs before hval0 hW hcnd hsz0 _
  have hval : ∀ (j : Nat) t v, Try.f8.params[j]? = some t → args[j]? = some v → Value.okWide Try.prog W .any base t v := hval0
  have hW' := hW
  obtain ⟨p, q, hA0, hV, rfl, hfz, hnd⟩ := hW
  have hA : DataW.TrodAll enc Try.prog W 0 (fun _ => true) true Try.f8.params.toList args.toList ds p := hA0
  rw [Try.params8] at hA hval
  obtain ⟨v0, vs0, d0, ds0, p0, q0, hargs, rfl, rfl, h0, r0⟩ := trodAll_cons hA
  obtain ⟨v1, vs1, d1, ds1, p1, q1, rfl, rfl, rfl, h1, r1⟩ := trodAll_cons r0
  obtain ⟨v2, vs2, d2, ds2, p2, q2, rfl, rfl, rfl, h2, r2⟩ := trodAll_cons r1
  obtain ⟨v3, vs3, d3, ds3, p3, q3, rfl, rfl, rfl, h3, r3⟩ := trodAll_cons r2
  obtain ⟨v4, vs4, d4, ds4, p4, q4, rfl, rfl, rfl, h4, r4⟩ := trodAll_cons r3
  obtain ⟨v5, vs5, d5, ds5, p5, q5, rfl, rfl, rfl, h5, r5⟩ := trodAll_cons r4
  obtain ⟨rfl, rfl, rfl⟩ := trodAll_nil r5
  obtain rfl : args = #[v0, v1, v2, v3, v4, v5] := by cases args; simp_all
  obtain ⟨rfl, rfl⟩ := trodVars_none hV
  obtain ⟨cs0, rfl, hs0⟩ := okWide_struct Try.underlying24 (hval 0 24 v0 rfl rfl)
  have k0 := h0
  have lt0 : ∀ x ∈ p0, x.block < W.heap.size := by obtain ⟨m, hm⟩ := k0; exact DataW.trod_lt m _ _ _ hm
  obtain ⟨fu0, hf0⟩ := h0
  obtain ⟨x0, hx0, w0⟩ := (opens24).open_ hf0
  obtain ⟨A0_0, c0_0, A0_1, c0_1, e0_, hc0_0, hr0_0, hc0_1, hr0_1⟩ := k24_open hx0
  obtain rfl : cs0 = #[.slice A0_0 x0.f0.length c0_0, .slice A0_1 x0.f1.length c0_1] := Array.ext' (by simpa [Value.cells] using e0_)
  obtain ⟨a1, rfl, rfl, rfl, w1⟩ := open_int Try.underlying3 (hval 1 3 v1 rfl rfl) h1
  obtain ⟨cs2, rfl, hs2⟩ := okWide_struct Try.underlying42 (hval 2 42 v2 rfl rfl)
  have k2 := h2
  have lt2 : ∀ x ∈ p2, x.block < W.heap.size := by obtain ⟨m, hm⟩ := k2; exact DataW.trod_lt m _ _ _ hm
  obtain ⟨fu2, hf2⟩ := h2
  obtain ⟨x2, hx2, w2⟩ := (opens42).open_ hf2
  obtain ⟨A2_17, c2_17, e2_, hc2_17, hr2_17⟩ := kq42_open hx2
  obtain rfl : cs2 = #[.string x2.f0, .string x2.f1, .string x2.f2, .string x2.f3, .string x2.f4, .string x2.f5, .string x2.f6, .string x2.f7.f0, .int .i64 x2.f7.f1, .int .i64 x2.f8, .int .i64 x2.f9, .int .i64 x2.f10, .int .i64 x2.f11, .int .i64 x2.f12, .int .i64 x2.f13, .bool x2.f14, .bool x2.f15, .slice A2_17 x2.f16.length c2_17] := Array.ext' (by simpa [Value.cells] using e2_)
  obtain ⟨a3, rfl, rfl, rfl, w3⟩ := open_int Try.underlying3 (hval 3 3 v3 rfl rfl) h3
  obtain ⟨a4, rfl, rfl, rfl, w4⟩ := open_int Try.underlying3 (hval 4 3 v4 rfl rfl) h4
  obtain ⟨a5, rfl, rfl, rfl, w5⟩ := open_int Try.underlying3 (hval 5 3 v5 rfl rfl) h5
  clear hA0 hval0 hsz0
  obtain ⟨kk, hkk⟩ := Ev.rounds (g := fun k => supercargolaw35_NoticeHoliday.f k x0.f0 x0.f1 a1 x2.f0 x2.f1 x2.f2 x2.f3 x2.f4 x2.f5 x2.f6 x2.f7.f0 x2.f7.f1 x2.f8 x2.f9 x2.f10 x2.f11 x2.f12 x2.f13 x2.f14 x2.f15 x2.f16 a3 a4 a5) (r := true) (noticeHoliday_ev x0.f0 x0.f1 hr0_0.2.1 hr0_1.2.1 a1 x2.f0 x2.f1 x2.f2 x2.f3 x2.f4 x2.f5 x2.f6 x2.f7.f0 x2.f7.f1 x2.f8 x2.f9 x2.f10 x2.f11 x2.f12 x2.f13 x2.f14 x2.f15 x2.f16 a3 a4 a5)
  refine (supercargolaw35_NoticeHoliday.calls kk _ _ x0.f0 _ _ x0.f1 a1 x2.f0 x2.f1 x2.f2 x2.f3 x2.f4 x2.f5 x2.f6 x2.f7.f0 x2.f7.f1 x2.f8 x2.f9 x2.f10 x2.f11 x2.f12 x2.f13 x2.f14 x2.f15 _ _ x2.f16 a3 a4 a5 true W hr0_0 hc0_0 hr0_1 hc0_1 hr2_17 hc2_17 hkk ⟨rfl⟩).mono fun e W' ⟨he, bel⟩ => ?_
  subst he
  exact ⟨_, rfl, _, _, _, [], _, [], hW', trodAll_mk1 (shut_bool Try.underlying4 _), (trodAll_cons_mk (Below.trod laidOut (by kernel_rfl) (of_decide_eq_true (by kernel_rfl)) k0 bel lt0) (trodAll_cons_mk (shut_int Try.underlying3 w1) (trodAll_cons_mk (Below.trod laidOut (by kernel_rfl) (of_decide_eq_true (by kernel_rfl)) k2 bel lt2) (trodAll_cons_mk (shut_int Try.underlying3 w3) (trodAll_cons_mk (shut_int Try.underlying3 w4) (trodAll_cons_mk (shut_int Try.underlying3 w5) trodAll_mk0)))))), rfl, bel.frame _, fun h => by cases h⟩
theorem over : Rows.noticeHolidayRow.holds Try.pinned (OpenSpec.ofChange Rows.noticeHolidaySpec) :=
  OpenClaim.holds_of_wide 8 Try.f8 rfl rfl rfl rfl rfl rfl rfl ⟨rfl, rfl, rfl, rfl, rfl⟩ rfl rfl rfl rfl rfl (by kernel_rfl) Try.func8 (by kernel_rfl)
    (of_decide_eq_true (by kernel_rfl)) (by unfold Func.isWrapper; first | (rw [if_pos (by decide +kernel)]; kernel_rfl) | (rw [if_neg (by decide +kernel)]; exact ⟨rfl, rfl⟩))
    (fun os started H enc _ => lifted os started H enc)
theorem proved : Rows.NoticeHolidaySaid := over
#print axioms proved
end Go.Proofs.Ytjagffhmdafnmaa.noticeHoliday
namespace Go.Proofs.Ytjagffhmdafnmaa
/-- The row, under a short name, for the claim. -/
theorem noticeHoliday_holds : Rows.NoticeHolidaySaid := noticeHoliday.proved
end Go.Proofs.Ytjagffhmdafnmaa
