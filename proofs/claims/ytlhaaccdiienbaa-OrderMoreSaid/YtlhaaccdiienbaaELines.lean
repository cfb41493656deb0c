/- A lemma of this claim, proved by hand: what 'lines' answers, as a plain function (its map of goods is the call's own). -/
import Derived.Test.YtlhaaccdiienbaaEName
import Derived.Maps.Own
import Derived.Maps.Views
import Derived.StringKeys
namespace Go.Proofs.Ytlhaaccdiienbaa.X
open Go.RowKit Go.WideMaps Go.Maps Go.Proofs.YtlhaaccdiienbaaW.PrintWords Go.Proofs.YtlhaaccdiienbaaW.PrintLast Go.Proofs.YtlhaaccdiienbaaW.PrintMore

theorem bcell {W w1 : World} (hb : Below W.heap.size W w1) : (∀ b o, b < W.heap.size → w1.cell? ⟨b, o, none⟩ = W.cell? ⟨b, o, none⟩) ∧ (∀ b o, b < W.heap.size → w1.frozen? ⟨b, o, none⟩ = W.frozen? ⟨b, o, none⟩) :=
  ⟨fun b o h => hb.cell (p := ⟨b, o, none⟩) h, fun b o h => hb.frozen (p := ⟨b, o, none⟩) h⟩
theorem lawS : Keyed Try.prog 9 := string_keyed Try.underlying9
theorem zeroB (w : World) : (zeroValue 4).run Try.prog w = .ok (.bool false) w := by kernel_rfl
/-- Is there a line of this good among the first j? -/
def seenIn (l : List S65) (j : Nat) (s : ByteArray) : Bool := (l.take j).any fun x => decide (x.f0 = s)
/-- Block b is a map that tells the goods of the first j lines. -/
def SeenMap (w : World) (b n : Nat) (l : List S65) (j : Nat) : Prop :=
  ∃ D : DataW Unit, w.ownsMap Try.prog 9 (plainElem Try.prog 4) b n D ∧ IsMap D ∧ ∀ s : ByteArray, D.atKey (.string s.data.toList) (.lit (.bool false)) = .lit (.bool (seenIn l j s))
theorem SeenMap.made (w : World) (l : List S65) : SeenMap (w.alloc (.map #[] 0)) w.heap.size 0 l 0 :=
  ⟨.map [], World.ownsMap_made _ _ _ _, ⟨[], rfl⟩, fun _ => by rw [show ∀ s, seenIn l 0 s = false by simp [seenIn]]; rfl⟩
theorem SeenMap.below {w w' : World} {b n j B : Nat} {l : List S65} (h : SeenMap w b n l j) (hb : Below B w w') (hB : b < B) : SeenMap w' b n l j := by
  obtain ⟨D, ⟨es, cl, h1, h2⟩, h3⟩ := h
  exact ⟨D, ⟨es, cl, (hb.block b hB).trans h1, h2⟩, h3⟩
set_option maxRecDepth 100000 in
theorem SeenMap.look {w : World} {b n j : Nat} {l : List S65} (h : SeenMap w b n l j) (s : ByteArray) (hs : s.size ≤ maxLen) :
    (Instr.lookup 99 (.map (some b)) (.string s) false).run Try.prog w = .ok (.bool (seenIn l j s)) w := by
  obtain ⟨D, h1, hm, h2⟩ := h
  obtain ⟨v, ps, hrun, hv⟩ := h1.lookup (kl := .string s.data.toList) lawS Try.underlying99 (zeroB w) (plainElem_bool Try.underlying4 false) (keyOf_string_mk Try.underlying9 hs)
  rw [h2 s] at hv
  have : v = .bool (seenIn l j s) := by
    unfold plainElem at hv
    rw [Try.underlying4] at hv
    cases v <;> simp at hv
    rw [hv.1]
  rw [this] at hrun
  exact hrun
theorem seenIn_succ (l : List S65) (j : Nat) (hj : j < l.length) (s : ByteArray) : seenIn l (j + 1) s = (seenIn l j s || decide ((rd_T65 l (j : Int)).f0 = s)) := by
  unfold seenIn rd_T65
  rw [List.take_add_one, List.any_append, List.getElem?_eq_getElem hj, Int.toNat_natCast, List.getD_eq_getElem?_getD, List.getElem?_eq_getElem hj]
  simp
set_option maxRecDepth 100000 in
theorem SeenMap.put {w : World} {b n j : Nat} {l : List S65} (h : SeenMap w b n l j) (hn : n < maxLen) (hj : j < l.length) (s : ByteArray) (hs : s.size ≤ maxLen) (e : s = (rd_T65 l (j : Int)).f0) :
    ∃ w', (Instr.mapUpdate 99 (.map (some b)) (.string s) (.bool true)).run Try.prog w = .ok () w' ∧ SeenMap w' b (n + 1) l (j + 1) ∧ w.grownBy w' (some b) := by
  obtain ⟨D, h1, hm, h2⟩ := h
  obtain ⟨w', hrun, h3, hg⟩ := h1.update (kl := .string s.data.toList) lawS Try.underlying99 hn (keyOf_string_mk Try.underlying9 hs) (plainElem_bool Try.underlying4 true)
  refine ⟨w', hrun, ⟨_, h3, ?_, ?_⟩, hg⟩
  · obtain ⟨es, rfl⟩ := hm; exact ⟨_, rfl⟩
  · intro t
    rw [seenIn_succ l j hj, ← e]
    by_cases ht : s = t
    · subst ht
      rw [atKey_put_same hm (show WideAt.IsKeyLit (.string s.data.toList) from trivial)]
      simp
    · rw [atKey_put_other (fun e => ht (by cases s; cases t; injection e with e; exact congrArg _ (Array.toList_inj.mp e.symm))) _ _, h2 t]
      simp [ht]
/-- May a line stand at place i? -/
def lineOk (l : List S65) (i : Nat) : Bool :=
  nameB (rd_T65 l (i : Int)).f0 && (!(seenIn l i (rd_T65 l (i : Int)).f0) && ((decide (1 ≤ (rd_T65 l (i : Int)).f1) && decide ((rd_T65 l (i : Int)).f1 ≤ 1048576)) && (!(decide ((rd_T65 l (i : Int)).f2 < 0)) && !(decide (1073741824 < (rd_T65 l (i : Int)).f2)))))
def linesB (l : List S65) : Bool := (List.range l.length).all (lineOk l) && (decide (1 ≤ l.length) && decide (l.length ≤ 64))
theorem count_one (c : Int) (w : World) : Calls Try.prog 83 #[.int .i64 c] w fun e w' => e = .returned (.bool (decide (1 ≤ c) && decide (c ≤ 1048576))) ∧ w = w' := by
  cases h : decide (1 ≤ c) with
  | true =>
    go_enter Try.func83, Try.ntmps83
    go_wp2
    go_ret
    exact ⟨by first | rfl | simp, rfl⟩
  | false =>
    go_enter Try.func83, Try.ntmps83
    go_wp2
    go_ret
    exact ⟨by first | rfl | simp, rfl⟩
def order_lines.f (l0 : List S65) : Option (Bool) := some (linesB l0)
theorem linesB_no {l : List S65} {j : Nat} (hj : j < l.length) (h : lineOk l j = false) : linesB l = false := by
  unfold linesB
  have : (List.range l.length).all (lineOk l) = false := by
    rw [List.all_eq_false]; exact ⟨j, List.mem_range.mpr hj, by rw [h]; decide⟩
  rw [this, Bool.false_and]
theorem linesB_end {l : List S65} (h : ∀ q : Nat, q < l.length → lineOk l q = true) : linesB l = (decide (1 ≤ l.length) && decide (l.length ≤ 64)) := by
  unfold linesB
  have : (List.range l.length).all (lineOk l) = true := by
    rw [List.all_eq_true]; exact fun q hq => h q (List.mem_range.mp hq)
  rw [this, Bool.true_and]
theorem nameB_size {s : ByteArray} (h : nameB s = true) : s.size ≤ maxLen := by
  unfold nameB at h
  simp only [Bool.and_eq_true, decide_eq_true_eq] at h
  have := h.2.1
  unfold maxLen; omega
set_option maxHeartbeats 4000000 in
set_option maxRecDepth 100000 in
set_option linter.unusedVariables false in
theorem order_lines.calls (A0 : Option Addr) (c0 : Nat) (l0 : List S65) (r : Bool) (w : World) (hr0 : Kd.C k65 w A0 l0.length l0) (hc0 : l0.length ≤ c0) (h : order_lines.f l0 = some r) :
    Calls Try.prog 38 #[.slice A0 l0.length c0] w fun e w' => e = .returned (.bool r) ∧ Below w.heap.size w w' := by
 obtain rfl := Option.some.inj h
 clear h
 have HR := Aside0.mk hr0
 have HN := Aside0.mk hr0.2.1
 clear hr0
 have hmm := @run_makeMap Try.prog
 go_enter Try.func38, Try.ntmps38
 go_wp2
 go_loopg [9] (l0.length + 1) (fun kq v w' => ∃ j : Nat, v = .int .i64 j ∧ Aside0 (j + kq = l0.length + 1) ∧ Aside0 (∀ q : Nat, q < j → lineOk l0 q = true) ∧ Aside0 (Below w.heap.size w w') ∧ Aside0 (SeenMap w' w.heap.size j l0 j) ∧ Aside0 (w.heap.size < w'.heap.size))
 case atStart => exact ⟨0, rfl, ⟨by omega⟩, ⟨fun q hq => absurd hq (by omega)⟩, ⟨below_alloc (Below.refl _ _) _⟩, ⟨SeenMap.made w l0⟩, ⟨by simp⟩⟩
 case round => (
obtain ⟨j, rfl, HK, HQ, HB, HS, HZ⟩ := hrel
by_cases hj : j < l0.length
·(
have c0b : decide ((j : Int) < (l0.length : Int)) = true := decide_eq_true (by omega)
have c1b : decide (j < l0.length) = true := decide_eq_true hj
have p0 : (0 ≤ (j : Int)) = True := eq_true (by omega)
have q0 : ((j : Int) < (l0.length : Int)) = True := eq_true (by omega)
have hw1 : Aside0 (wrap64 ((j : Int) + 1) = ((j + 1 : Nat) : Int)) := ⟨by have := HN.out; unfold wrap64; omega⟩
obtain ⟨ad, ee, hx0, hx1, hx2⟩ := at_T65 (Kd.C_below HR.out HB.out) (j : Int) (by omega) (by omega)
cases ee
obtain ⟨x, hx⟩ : ∃ x, x = rd_T65 l0 (j : Int) := ⟨_, rfl⟩
rw [← hx] at hx0 hx1 hx2
have HX := Aside0.mk hx
clear hx
try simp only [Int.toNat_natCast] at hx0 hx1 hx2
have HJ := Aside0.mk hj
clear hj
cases hn : nameB x.f0 with
| false => (
have e : Aside0 (linesB l0 = false) := ⟨linesB_no HJ.out (by unfold lineOk; rw [← HX.out, hn]; rfl)⟩
have HNm := Aside0.mk (show mark_Name.f x.f0 = some false by unfold mark_Name.f; rw [hn])
clear hn
go_wp2_with (go_at_call 36; refine (mark_Name.calls _ _ _ HNm.out).mono ?_; rintro e w1 ⟨rfl, hb⟩)
go_ret
exact ⟨by rw [e.out]; rfl, below_step (below_alloc HB.out _) hb⟩
)
| true => (
have HNm := Aside0.mk (show mark_Name.f x.f0 = some true by unfold mark_Name.f; rw [hn])
have HNb := Aside0.mk hn
clear hn
cases hse : seenIn l0 j x.f0 with
| true => (
have HSe := Aside0.mk hse
clear hse
have e : Aside0 (linesB l0 = false) := ⟨linesB_no HJ.out (by unfold lineOk; rw [← HX.out, HNb.out, HSe.out]; rfl)⟩
go_wp2_with (go_at_call 36; refine (mark_Name.calls _ _ _ HNm.out).mono ?_; rintro e w1 ⟨rfl, hb⟩; obtain ⟨hc, hf⟩ := bcell hb; have hlook := (HS.out.below (below_step (below_alloc (Below.refl _ _) _) hb) HZ.out).look x.f0 (nameB_size HNb.out); rw [HSe.out] at hlook)
go_ret
exact ⟨by rw [e.out]; rfl, below_step (below_alloc HB.out _) hb⟩
)
| false => (
have HSe := Aside0.mk hse
clear hse
have HCt0 := count_one x.f1
cases hct : (decide (1 ≤ x.f1) && decide (x.f1 ≤ 1048576)) with
| false => (
have HCe := Aside0.mk hct
rw [hct] at HCt0
have HCt := Aside0.mk HCt0
clear hct HCt0
have e : Aside0 (linesB l0 = false) := ⟨linesB_no HJ.out (by unfold lineOk; rw [← HX.out, HNb.out, HSe.out, HCe.out]; rfl)⟩
go_wp2_with (first | (go_at_call 36; refine (mark_Name.calls _ _ _ HNm.out).mono ?_; rintro e w1 ⟨rfl, hb⟩; obtain ⟨hc, hf⟩ := bcell hb; have hlook := (HS.out.below (below_step (below_alloc (Below.refl _ _) _) hb) HZ.out).look x.f0 (nameB_size HNb.out); rw [HSe.out] at hlook) | (go_at_call 83; refine (HCt.out _).mono ?_; rintro e w2 ⟨rfl, rfl⟩))
go_ret
exact ⟨by rw [e.out]; rfl, below_step (below_alloc HB.out _) hb⟩
)
| true => (
have HCe := Aside0.mk hct
rw [hct] at HCt0
have HCt := Aside0.mk HCt0
clear hct HCt0
cases hp1 : decide (x.f2 < 0) with
| true => (
have e : Aside0 (linesB l0 = false) := ⟨linesB_no HJ.out (by unfold lineOk; rw [← HX.out, HNb.out, HSe.out, HCe.out, hp1]; rfl)⟩
go_wp2_with (first | (go_at_call 36; refine (mark_Name.calls _ _ _ HNm.out).mono ?_; rintro e w1 ⟨rfl, hb⟩; obtain ⟨hc, hf⟩ := bcell hb; have hlook := (HS.out.below (below_step (below_alloc (Below.refl _ _) _) hb) HZ.out).look x.f0 (nameB_size HNb.out); rw [HSe.out] at hlook) | (go_at_call 83; refine (HCt.out _).mono ?_; rintro e w2 ⟨rfl, rfl⟩))
go_ret
exact ⟨by rw [e.out]; rfl, below_step (below_alloc HB.out _) hb⟩
)
| false => (
cases hp2 : decide (1073741824 < x.f2) with
| true => (
have e : Aside0 (linesB l0 = false) := ⟨linesB_no HJ.out (by unfold lineOk; rw [← HX.out, HNb.out, HSe.out, HCe.out, hp1, hp2]; rfl)⟩
go_wp2_with (first | (go_at_call 36; refine (mark_Name.calls _ _ _ HNm.out).mono ?_; rintro e w1 ⟨rfl, hb⟩; obtain ⟨hc, hf⟩ := bcell hb; have hlook := (HS.out.below (below_step (below_alloc (Below.refl _ _) _) hb) HZ.out).look x.f0 (nameB_size HNb.out); rw [HSe.out] at hlook) | (go_at_call 83; refine (HCt.out _).mono ?_; rintro e w2 ⟨rfl, rfl⟩))
go_ret
exact ⟨by rw [e.out]; rfl, below_step (below_alloc HB.out _) hb⟩
)
| false => (
have e : Aside0 (lineOk l0 j = true) := ⟨by unfold lineOk; rw [← HX.out, HNb.out, HSe.out, HCe.out, hp1, hp2]; rfl⟩
go_wp2_with (first | (go_at_call 36; refine (mark_Name.calls _ _ _ HNm.out).mono ?_; rintro e w1 ⟨rfl, hb⟩; obtain ⟨hc, hf⟩ := bcell hb; have hlook := (HS.out.below (below_step (below_alloc (Below.refl _ _) _) hb) HZ.out).look x.f0 (nameB_size HNb.out); rw [HSe.out] at hlook; obtain ⟨w3, hput, HS3, hg3⟩ := SeenMap.put (HS.out.below (below_step (below_alloc (Below.refl _ _) _) hb) HZ.out) (by have := HJ.out; have := HN.out; unfold maxLen; omega) HJ.out x.f0 (nameB_size HNb.out) (by rw [HX.out]); have HS4 := Aside0.mk HS3; have HG4 := Aside0.mk hg3; clear HS3 hg3; have HBb := Aside0.mk hb; clear hb) | (go_at_call 83; refine (HCt.out _).mono ?_; rintro e w2 ⟨rfl, rfl⟩))
go_roundg (gk - 1)
case measure => have := HK.out; have := HJ.out; omega
case rel => (
refine ⟨j + 1, by first | rfl | (rw [hw1.out]), ⟨by have := HK.out; have := HJ.out; omega⟩, ⟨?_⟩, ⟨?_⟩, ⟨HS4.out⟩, ⟨?_⟩⟩
·(
intro q hq2
by_cases hqj : q = j
·subst hqj; exact e.out
·exact HQ.out q (by omega)
)
·(
have hB2 := below_step (below_alloc HB.out _) HBb.out
exact hB2.grown HG4.out hB2.size (fun j hj => by cases hj; exact Nat.le_refl _)
)
·(
have h1 := HG4.out.size
have h2 := HBb.out.size
have h3 := HZ.out
simp only [World.alloc, Array.size_push] at h2
omega
)
)
)
)
)
)
)
)
·(
have c0b : decide ((j : Int) < (l0.length : Int)) = false := decide_eq_false (by omega)
have c1b : decide (j < l0.length) = false := decide_eq_false hj
have e : Aside0 (linesB l0 = (decide (1 ≤ l0.length) && decide (l0.length ≤ 64))) := ⟨linesB_end (fun q hq => HQ.out q (by omega))⟩
clear hj
by_cases h1 : 1 ≤ l0.length
·(
have d1 : decide ((1 : Int) ≤ (l0.length : Int)) = true := decide_eq_true (by omega)
have d2 : Aside0 (decide ((l0.length : Int) ≤ 64) = decide (l0.length ≤ 64)) := ⟨by rw [decide_eq_decide]; omega⟩
go_wp2
go_ret
refine ⟨?_, HB.out⟩
rw [e.out, decide_eq_true h1, Bool.true_and, ← d2.out]
rfl
)
·(
have d1 : decide ((1 : Int) ≤ (l0.length : Int)) = false := decide_eq_false (by omega)
go_wp2
go_ret
refine ⟨?_, HB.out⟩
rw [e.out, decide_eq_false h1]
rfl
)
)
)
end Go.Proofs.Ytlhaaccdiienbaa.X
