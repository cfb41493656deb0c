/- Lemmas of this claim, proved by hand: 'of', 'found' and their closures. -/
import Derived.Test.YtlhaaccdiienbaaEAsk
namespace Go.Proofs.Ytlhaaccdiienbaa.X
open Go.RowKit Go.WideMaps Go.Maps Go.Proofs.YtlhaaccdiienbaaW.PrintWords Go.Proofs.YtlhaaccdiienbaaW.PrintLast Go.Proofs.YtlhaaccdiienbaaW.PrintMore
set_option linter.unusedVariables false

/-- May a lot not be? -/
def lotBad (x : S67) : Bool := !(nameB x.f0) || !(decide (1 ≤ x.f1) && decide (x.f1 ≤ 1048576))
set_option maxRecDepth 100000 in
theorem lot_one (x : S67) (w : World) : Calls Try.prog 160 #[.agg #[.string x.f0, .int .i64 x.f1]] w fun e w' => e = .returned (.bool (lotBad x)) ∧ Below w.heap.size w w' := by
  unfold lotBad
  have hu67 := Try.underlying67
  have HC := Aside0.mk (fun w => count_one x.f1 w)
  generalize (decide (1 ≤ x.f1) && decide (x.f1 ≤ 1048576)) = cb at *
  cases hn : nameB x.f0 with
  | false =>
    have HNm := Aside0.mk (show mark_Name.f x.f0 = some false by unfold mark_Name.f; rw [hn])
    clear hn
    go_enter Try.func160, Try.ntmps160
    go_wp2_with (go_at_call 36; refine (mark_Name.calls _ _ _ HNm.out).mono ?_; rintro e w1 ⟨rfl, hb⟩; obtain ⟨hc, hf⟩ := bcell hb; have HB := Aside0.mk (below_step (w := w) (below_alloc (Below.refl _ _) _) hb); clear hb)
    go_ret
    exact ⟨rfl, HB.out⟩
  | true =>
    have HNm := Aside0.mk (show mark_Name.f x.f0 = some true by unfold mark_Name.f; rw [hn])
    clear hn
    go_enter Try.func160, Try.ntmps160
    go_wp2_with (first | (go_at_call 36; refine (mark_Name.calls _ _ _ HNm.out).mono ?_; rintro e w1 ⟨rfl, hb⟩; obtain ⟨hc, hf⟩ := bcell hb; have HB := Aside0.mk (below_step (w := w) (below_alloc (Below.refl _ _) _) hb); clear hb) | (go_at_call 83; refine (HC.out _).mono ?_; rintro e w2 ⟨rfl, rfl⟩))
    go_ret
    exact ⟨rfl, HB.out⟩
set_option maxHeartbeats 4000000 in
set_option maxRecDepth 100000 in
theorem lot_index  (A0 : Option Addr) (c0 : Nat) (l0 : List S67) (p : S67 → Bool) (w : World) (hr0 : Kd.C k67 w A0 l0.length l0) (hc0 : l0.length ≤ c0) (hp : Aside0 (∀ (W : World), Below w.heap.size w W → ∀ (j : Nat), j < l0.length → Calls Try.prog 160 #[.agg #[.string (rd_T67 l0 (j : Int)).f0, .int .i64 (rd_T67 l0 (j : Int)).f1]] W fun e W' => e = .returned (.bool (p (rd_T67 l0 (j : Int)))) ∧ Below W.heap.size W W')) :
    Calls Try.prog 161 #[.slice A0 l0.length c0, .func (.func 160) #[] #[]] w (IdxPost (l0.any p) w) := by
  have HR0 := Aside0.mk hr0
  have HC0 := Aside0.mk hc0
  have HN := Aside0.mk hr0.2.1
  clear hr0 hc0
  go_enter Try.func161, Try.ntmps161
  go_wp2
  go_loopg [8] (l0.length + 1) (fun kq v w' => ∃ j : Nat, v = .int .i64 j ∧ Aside0 (j + kq = l0.length + 1) ∧ Aside0 (∀ q : Nat, q < j → p (rd_T67 l0 (q : Int)) = false) ∧ Aside0 (Below w.heap.size w w'))
  case atStart => exact ⟨0, rfl, ⟨by omega⟩, ⟨fun q hq => absurd hq (by omega)⟩, ⟨Below.refl _ _⟩⟩
  case round =>
    obtain ⟨j, rfl, HK, HQ, HB⟩ := hrel
    by_cases hj : j < l0.length
    · have c0b : decide ((j : Int) < (l0.length : Int)) = true := decide_eq_true (by omega)
      have p0 : (0 ≤ (j : Int)) = True := eq_true (by omega)
      have q0 : ((j : Int) < (l0.length : Int)) = True := eq_true (by omega)
      have hw1 : Aside0 (wrap64 ((j : Int) + 1) = ((j + 1 : Nat) : Int)) := ⟨by have := HN.out; unfold wrap64; omega⟩
      obtain ⟨ad, ee, hx0, hx1⟩ := at_T67 (Kd.C_below HR0.out HB.out) (j : Int) (by omega) (by omega)
      cases ee
      try simp only [Int.toNat_natCast] at hx0 hx1
      have hq := Aside0.mk (hp.out wr HB.out j hj)
      have HJ := Aside0.mk hj
      clear hj
      cases hb : p (rd_T67 l0 (j : Int)) with
      | true =>
        rw [hb] at hq
        have HBB := Aside0.mk hb
        clear hb
        go_wp2_with (go_at_call 160; refine hq.out.mono ?_; rintro e w2 ⟨rfl, hb2⟩)
        go_ret
        refine ⟨(j : Int), rfl, ?_, below_step HB.out hb2⟩
        have h1 : l0.any p = true := by
          rw [List.any_eq_true]
          refine ⟨rd_T67 l0 (j : Int), ?_, HBB.out⟩
          have := HJ.out
          simp only [rd_T67, Int.toNat_natCast, List.getD_eq_getElem?_getD, List.getElem?_eq_getElem this, Option.getD_some]
          exact List.getElem_mem this
        rw [h1, decide_eq_true_iff]
        omega
      | false =>
        rw [hb] at hq
        have HBB := Aside0.mk hb
        clear hb
        go_wp2_with (go_at_call 160; refine hq.out.mono ?_; rintro e w2 ⟨rfl, hb2⟩)
        go_roundg (gk - 1)
        case measure => have := HK.out; have := HJ.out; omega
        case rel =>
          refine ⟨j + 1, by first | rfl | (rw [hw1.out]), ⟨by have := HK.out; have := HJ.out; omega⟩, ⟨?_⟩, ⟨below_step HB.out hb2⟩⟩
          intro q hq2
          by_cases hqj : q = j
          · subst hqj; exact HBB.out
          · exact HQ.out q (by omega)
    · have c0b : decide ((j : Int) < (l0.length : Int)) = false := decide_eq_false (by omega)
      have c1b : decide (j < l0.length) = false := decide_eq_false hj
      have HJ := Aside0.mk hj
      clear hj
      go_wp2
      go_ret
      refine ⟨-1, rfl, ?_, HB.out⟩
      have h1 : l0.any p = false := by
        rw [List.any_eq_false]
        intro x hx
        obtain ⟨q, hq, rfl⟩ := List.getElem_of_mem hx
        have := HQ.out q (by have := HJ.out; omega)
        simp only [rd_T67, Int.toNat_natCast, List.getD_eq_getElem?_getD, List.getElem?_eq_getElem hq, Option.getD_some] at this
        rw [this]; decide
      rw [h1]
      rfl
set_option maxHeartbeats 4000000 in
set_option maxRecDepth 100000 in
theorem lot_contains  (A0 : Option Addr) (c0 : Nat) (l0 : List S67) (p : S67 → Bool) (w : World) (hr0 : Kd.C k67 w A0 l0.length l0) (hc0 : l0.length ≤ c0) (hp : Aside0 (∀ (W : World), Below w.heap.size w W → ∀ (j : Nat), j < l0.length → Calls Try.prog 160 #[.agg #[.string (rd_T67 l0 (j : Int)).f0, .int .i64 (rd_T67 l0 (j : Int)).f1]] W fun e W' => e = .returned (.bool (p (rd_T67 l0 (j : Int)))) ∧ Below W.heap.size W W')) :
    Calls Try.prog 129 #[.slice A0 l0.length c0, .func (.func 160) #[] #[]] w fun e w' => e = .returned (.bool (l0.any p)) ∧ Below w.heap.size w w' := by
  have HI := Aside0.mk (lot_index  A0 c0 l0 p w hr0 hc0 hp)
  clear hr0 hc0 hp
  generalize hg : l0.any p = b at *
  have HG := Aside0.mk hg
  clear hg
  go_enter Try.func129, Try.ntmps129
  go_wp2_with fail
  refine HI.out.mono ?_
  rintro e w1 ⟨z, rfl, hz, hb⟩
  have HZ := Aside0.mk hz
  clear hz
  go_wp2
  go_ret
  exact ⟨by have := HZ.out; subst this; rfl, hb⟩

/-- Is a consignment one of the order of a number? -/
def ofB (num : ByteArray) (c : S42) : Bool := decide (c.f0.toList = num.toList) && !(c.f3.any lotBad)
set_option maxHeartbeats 4000000 in
set_option maxRecDepth 100000 in
theorem of_calls (a0_0 : ByteArray) (a0_1 : ByteArray) (a0_2 : ByteArray) (a0_3 : ByteArray) (a0_4 : ByteArray) (a0_5 : ByteArray) (a0_6 : Int) (A0_7 : Option Addr) (c0_7 : Nat) (l0_7 : List S65) (c : S42) (A : Option Addr) (d : Nat) (w : World) (hr : Kd.C k67 w A c.f3.length c.f3) (hd : c.f3.length ≤ d) :
    Calls Try.prog 128 #[.agg #[.string a0_0, .string a0_1, .string a0_2, .string a0_3, .string a0_4, .string a0_5, .int .i64 a0_6, .slice A0_7 l0_7.length c0_7], .agg #[.string c.f0, .int .i64 c.f1, .int .i64 c.f2, .slice A c.f3.length d]] w fun e w' => e = .returned (.bool (ofB a0_0 c)) ∧ Below w.heap.size w w' := by
  unfold ofB
  have hu24 := Try.underlying24
  have hu42 := Try.underlying42
  have HL := Aside0.mk (fun (W : World) (hb : Below w.heap.size w W) => lot_contains A d c.f3 lotBad W (Kd.C_below hr hb) hd ⟨fun V _ j _ => lot_one _ V⟩)
  generalize c.f3.any lotBad = b at *
  clear hr hd
  by_cases h : c.f0.toList = a0_0.toList
  · have e1 : (c.f0.toList == a0_0.toList) = true := beq_iff_eq.mpr h
    rw [decide_eq_true h]
    clear h
    go_enter Try.func128, Try.ntmps128
    go_wp2_with (go_at_call 129; refine (HL.out _ (by repeat (first | exact Below.refl _ _ | apply below_alloc))).mono ?_; rintro e w1 ⟨rfl, hb⟩; have HB := Aside0.mk (below_step (w := w) (by repeat (first | exact Below.refl _ _ | apply below_alloc)) hb); clear hb)
    go_ret
    exact ⟨rfl, HB.out⟩
  · have e1 : (c.f0.toList == a0_0.toList) = false := beq_eq_false_iff_ne.mpr h
    rw [decide_eq_false h]
    clear h
    go_enter Try.func128, Try.ntmps128
    go_wp2
    go_ret
    exact ⟨rfl, by repeat (first | exact Below.refl _ _ | apply below_alloc)⟩
set_option maxRecDepth 100000 in
theorem notof_one (g0 : Nat) (a0_0 : ByteArray) (a0_1 : ByteArray) (a0_2 : ByteArray) (a0_3 : ByteArray) (a0_4 : ByteArray) (a0_5 : ByteArray) (a0_6 : Int) (A0_7 : Option Addr) (c0_7 : Nat) (l0_7 : List S65) (c : S42) (A : Option Addr) (d : Nat) (w : World) (hB0 : w.heap[g0]? = some (.cells #[.string a0_0, .string a0_1, .string a0_2, .string a0_3, .string a0_4, .string a0_5, .int .i64 a0_6, .slice A0_7 l0_7.length c0_7] 24 (0, 0))) (hr : Kd.C k67 w A c.f3.length c.f3) (hd : c.f3.length ≤ d) :
    Calls Try.prog 127 #[.agg #[.string c.f0, .int .i64 c.f1, .int .i64 c.f2, .slice A c.f3.length d], .pointer (some ⟨g0, 0, none⟩)] w fun e w' => e = .returned (.bool (!ofB a0_0 c)) ∧ Below w.heap.size w w' := by
  have hu24 := Try.underlying24
  have hu42 := Try.underlying42
  have HL := Aside0.mk (fun (W : World) (hb : Below w.heap.size w W) => of_calls a0_0 a0_1 a0_2 a0_3 a0_4 a0_5 a0_6 A0_7 c0_7 l0_7 c A d W (Kd.C_below hr hb) hd)
  have hlt := blk_lt hB0
  have hne : g0 ≠ w.heap.size := Nat.ne_of_lt hlt
  have x0 : w.cell? ⟨g0, 0, none⟩ = some (.string a0_0) := (blk_cell hB0 0).trans rfl
  have x1 : w.cell? ⟨g0, 1, none⟩ = some (.string a0_1) := (blk_cell hB0 1).trans rfl
  have x2 : w.cell? ⟨g0, 2, none⟩ = some (.string a0_2) := (blk_cell hB0 2).trans rfl
  have x3 : w.cell? ⟨g0, 3, none⟩ = some (.string a0_3) := (blk_cell hB0 3).trans rfl
  have x4 : w.cell? ⟨g0, 4, none⟩ = some (.string a0_4) := (blk_cell hB0 4).trans rfl
  have x5 : w.cell? ⟨g0, 5, none⟩ = some (.string a0_5) := (blk_cell hB0 5).trans rfl
  have x6 : w.cell? ⟨g0, 6, none⟩ = some (.int .i64 a0_6) := (blk_cell hB0 6).trans rfl
  have x7 : w.cell? ⟨g0, 7, none⟩ = some (.slice A0_7 l0_7.length c0_7) := (blk_cell hB0 7).trans rfl
  generalize ofB a0_0 c = b at *
  clear hr hd hB0
  go_enter Try.func127, Try.ntmps127
  go_wp2_with (go_at_call 128; refine (HL.out _ (by repeat (first | exact Below.refl _ _ | apply below_alloc))).mono ?_; rintro e w1 ⟨rfl, hb⟩; have HB := Aside0.mk (below_step (w := w) (by repeat (first | exact Below.refl _ _ | apply below_alloc)) hb); clear hb)
  go_ret
  exact ⟨rfl, HB.out⟩
set_option maxHeartbeats 4000000 in
set_option maxRecDepth 100000 in
theorem con_index (q0 : Addr) (A0 : Option Addr) (c0 : Nat) (l0 : List S42) (p : S42 → Bool) (w : World) (hr0 : Kd.C k42 w A0 l0.length l0) (hc0 : l0.length ≤ c0) (hp : Aside0 (∀ (W : World), Below w.heap.size w W → ∀ (j : Nat), j < l0.length → ∀ (S3 : Option Addr) (d3 : Nat), Kd.C k67 W S3 (rd_T42 l0 (j : Int)).f3.length (rd_T42 l0 (j : Int)).f3 → (rd_T42 l0 (j : Int)).f3.length ≤ d3 → Calls Try.prog 127 #[.agg #[.string (rd_T42 l0 (j : Int)).f0, .int .i64 (rd_T42 l0 (j : Int)).f1, .int .i64 (rd_T42 l0 (j : Int)).f2, .slice S3 (rd_T42 l0 (j : Int)).f3.length d3], .pointer (some q0)] W fun e W' => e = .returned (.bool (p (rd_T42 l0 (j : Int)))) ∧ Below W.heap.size W W')) :
    Calls Try.prog 159 #[.slice A0 l0.length c0, .func (.func 127) #[] #[.pointer (some q0)]] w (IdxPost (l0.any p) w) := by
  have HR0 := Aside0.mk hr0
  have HC0 := Aside0.mk hc0
  have HN := Aside0.mk hr0.2.1
  clear hr0 hc0
  go_enter Try.func159, Try.ntmps159
  go_wp2
  go_loopg [8] (l0.length + 1) (fun kq v w' => ∃ j : Nat, v = .int .i64 j ∧ Aside0 (j + kq = l0.length + 1) ∧ Aside0 (∀ q : Nat, q < j → p (rd_T42 l0 (q : Int)) = false) ∧ Aside0 (Below w.heap.size w w'))
  case atStart => exact ⟨0, rfl, ⟨by omega⟩, ⟨fun q hq => absurd hq (by omega)⟩, ⟨Below.refl _ _⟩⟩
  case round =>
    obtain ⟨j, rfl, HK, HQ, HB⟩ := hrel
    by_cases hj : j < l0.length
    · have c0b : decide ((j : Int) < (l0.length : Int)) = true := decide_eq_true (by omega)
      have p0 : (0 ≤ (j : Int)) = True := eq_true (by omega)
      have q0 : ((j : Int) < (l0.length : Int)) = True := eq_true (by omega)
      have hw1 : Aside0 (wrap64 ((j : Int) + 1) = ((j + 1 : Nat) : Int)) := ⟨by have := HN.out; unfold wrap64; omega⟩
      obtain ⟨ad, S3, d3, ee, hx0, hx1, hx2, hx3, hl3, hg3⟩ := at_T42 (Kd.C_below HR0.out HB.out) (j : Int) (by omega) (by omega)
      cases ee
      try simp only [Int.toNat_natCast] at hx0 hx1 hx2 hx3
      have hq := Aside0.mk (hp.out wr HB.out j hj _ _ hg3 hl3)
      have HJ := Aside0.mk hj
      clear hj
      cases hb : p (rd_T42 l0 (j : Int)) with
      | true =>
        rw [hb] at hq
        have HBB := Aside0.mk hb
        clear hb
        go_wp2_with (go_at_call 127; refine hq.out.mono ?_; rintro e w2 ⟨rfl, hb2⟩)
        go_ret
        refine ⟨(j : Int), rfl, ?_, below_step HB.out hb2⟩
        have h1 : l0.any p = true := by
          rw [List.any_eq_true]
          refine ⟨rd_T42 l0 (j : Int), ?_, HBB.out⟩
          have := HJ.out
          simp only [rd_T42, Int.toNat_natCast, List.getD_eq_getElem?_getD, List.getElem?_eq_getElem this, Option.getD_some]
          exact List.getElem_mem this
        rw [h1, decide_eq_true_iff]
        omega
      | false =>
        rw [hb] at hq
        have HBB := Aside0.mk hb
        clear hb
        go_wp2_with (go_at_call 127; refine hq.out.mono ?_; rintro e w2 ⟨rfl, hb2⟩)
        go_roundg (gk - 1)
        case measure => have := HK.out; have := HJ.out; omega
        case rel =>
          refine ⟨j + 1, by first | rfl | (rw [hw1.out]), ⟨by have := HK.out; have := HJ.out; omega⟩, ⟨?_⟩, ⟨below_step HB.out hb2⟩⟩
          intro q hq2
          by_cases hqj : q = j
          · subst hqj; exact HBB.out
          · exact HQ.out q (by omega)
    · have c0b : decide ((j : Int) < (l0.length : Int)) = false := decide_eq_false (by omega)
      have c1b : decide (j < l0.length) = false := decide_eq_false hj
      have HJ := Aside0.mk hj
      clear hj
      go_wp2
      go_ret
      refine ⟨-1, rfl, ?_, HB.out⟩
      have h1 : l0.any p = false := by
        rw [List.any_eq_false]
        intro x hx
        obtain ⟨q, hq, rfl⟩ := List.getElem_of_mem hx
        have := HQ.out q (by have := HJ.out; omega)
        simp only [rd_T42, Int.toNat_natCast, List.getD_eq_getElem?_getD, List.getElem?_eq_getElem hq, Option.getD_some] at this
        rw [this]; decide
      rw [h1]
      rfl
set_option maxHeartbeats 4000000 in
set_option maxRecDepth 100000 in
theorem con_contains (q0 : Addr) (A0 : Option Addr) (c0 : Nat) (l0 : List S42) (p : S42 → Bool) (w : World) (hr0 : Kd.C k42 w A0 l0.length l0) (hc0 : l0.length ≤ c0) (hp : Aside0 (∀ (W : World), Below w.heap.size w W → ∀ (j : Nat), j < l0.length → ∀ (S3 : Option Addr) (d3 : Nat), Kd.C k67 W S3 (rd_T42 l0 (j : Int)).f3.length (rd_T42 l0 (j : Int)).f3 → (rd_T42 l0 (j : Int)).f3.length ≤ d3 → Calls Try.prog 127 #[.agg #[.string (rd_T42 l0 (j : Int)).f0, .int .i64 (rd_T42 l0 (j : Int)).f1, .int .i64 (rd_T42 l0 (j : Int)).f2, .slice S3 (rd_T42 l0 (j : Int)).f3.length d3], .pointer (some q0)] W fun e W' => e = .returned (.bool (p (rd_T42 l0 (j : Int)))) ∧ Below W.heap.size W W')) :
    Calls Try.prog 126 #[.slice A0 l0.length c0, .func (.func 127) #[] #[.pointer (some q0)]] w fun e w' => e = .returned (.bool (l0.any p)) ∧ Below w.heap.size w w' := by
  have HI := Aside0.mk (con_index q0 A0 c0 l0 p w hr0 hc0 hp)
  clear hr0 hc0 hp
  generalize hg : l0.any p = b at *
  have HG := Aside0.mk hg
  clear hg
  go_enter Try.func126, Try.ntmps126
  go_wp2_with fail
  refine HI.out.mono ?_
  rintro e w1 ⟨z, rfl, hz, hb⟩
  have HZ := Aside0.mk hz
  clear hz
  go_wp2
  go_ret
  exact ⟨by have := HZ.out; subst this; rfl, hb⟩

/-- The line of a good among the first j (the last one; the zero line if there is none). -/
def lineIn (l : List S65) (j : Nat) (s : ByteArray) : S65 := ((l.take j).reverse.find? (fun x => decide (x.f0 = s))).getD z65
def lineV (x : S65) : Value := .agg #[.string x.f0, .int .i64 x.f1, .int .i64 x.f2]
theorem field_1 (a : ByteArray) (c d : Int) (W : World) : (Instr.field 65 (.agg #[.string a, .int .i64 c, .int .i64 d]) 1).run Try.prog W = .ok (.int .i64 c) W := by kernel_rfl
theorem field_2 (a : ByteArray) (c d : Int) (W : World) : (Instr.field 65 (.agg #[.string a, .int .i64 c, .int .i64 d]) 2).run Try.prog W = .ok (.int .i64 d) W := by kernel_rfl
theorem zeroL (w : World) : (zeroValue 65).run Try.prog w = .ok (lineV z65) w := by kernel_rfl
def anyElem (v : Value) : Option (DataW Value × List MemPlace) := some (.held v, [])
/-- Block b is a map that tells of each good a line. -/
def LineMap (w : World) (b n : Nat) (f : ByteArray → S65) : Prop :=
  ∃ D : DataW Value, w.ownsMap Try.prog 9 anyElem b n D ∧ IsMap D ∧ ∀ s : ByteArray, D.atKey (.string s.data.toList) (.held (lineV z65)) = .held (lineV (f s))
set_option maxRecDepth 100000 in
theorem LineMap.made (w : World) (l : List S65) : LineMap (w.alloc (.map #[] 0)) w.heap.size 0 (lineIn l 0) :=
  ⟨.map [], World.ownsMap_made _ _ _ _, ⟨[], rfl⟩, fun _ => by rw [show ∀ s, lineIn l 0 s = z65 by simp [lineIn]]; rfl⟩
theorem LineMap.below {w w' : World} {b n B : Nat} {f : ByteArray → S65} (h : LineMap w b n f) (hb : Below B w w') (hB : b < B) : LineMap w' b n f := by
  obtain ⟨D, ⟨es, cl, h1, h2⟩, h3⟩ := h
  exact ⟨D, ⟨es, cl, (hb.block b hB).trans h1, h2⟩, h3⟩
theorem LineMap.lt {w : World} {b n : Nat} {f : ByteArray → S65} (h : LineMap w b n f) : b < w.heap.size := by
  obtain ⟨D, h1, _⟩ := h
  exact h1.lt
set_option maxRecDepth 100000 in
theorem LineMap.look {w : World} {b n : Nat} {f : ByteArray → S65} (h : LineMap w b n f) (s : ByteArray) (hs : s.size ≤ maxLen) :
    (Instr.lookup 111 (.map (some b)) (.string s) false).run Try.prog w = .ok (.agg #[.string (f s).f0, .int .i64 (f s).f1, .int .i64 (f s).f2]) w := by
  obtain ⟨D, h1, hm, h2⟩ := h
  obtain ⟨v, ps, hrun, hv⟩ := h1.lookup (kl := .string s.data.toList) lawS Try.underlying111 (zeroL w) rfl (keyOf_string_mk Try.underlying9 hs)
  rw [h2 s] at hv
  injection hv with hv
  injection hv with hv _
  injection hv with hv
  rw [hv] at hrun
  exact hrun
set_option maxRecDepth 100000 in
theorem LineMap.put {w : World} {b n : Nat} {f : ByteArray → S65} (h : LineMap w b n f) (hn : n < maxLen) (s : ByteArray) (x : S65) (hs : s.size ≤ maxLen) :
    ∃ w', (Instr.mapUpdate 111 (.map (some b)) (.string s) (.agg #[.string x.f0, .int .i64 x.f1, .int .i64 x.f2])).run Try.prog w = .ok () w' ∧ LineMap w' b (n + 1) (fun t => if t = s then x else f t) ∧ w.grownBy w' (some b) := by
  obtain ⟨D, h1, hm, h2⟩ := h
  obtain ⟨w', hrun, h3, hg⟩ := h1.update (kl := .string s.data.toList) (val := .agg #[.string x.f0, .int .i64 x.f1, .int .i64 x.f2]) lawS Try.underlying111 hn (keyOf_string_mk Try.underlying9 hs) rfl
  refine ⟨w', hrun, ⟨_, h3, ?_, ?_⟩, hg⟩
  · obtain ⟨es, rfl⟩ := hm; exact ⟨_, rfl⟩
  · intro t
    show _ = DataW.held (lineV (if t = s then x else f t))
    by_cases ht : t = s
    · subst ht
      rw [atKey_put_same hm (show WideAt.IsKeyLit (.string t.data.toList) from trivial), if_pos rfl]
      rfl
    · rw [atKey_put_other (fun e => ht (by cases s; cases t; injection e with e; exact congrArg _ (Array.toList_inj.mp e))) _ _, h2 t, if_neg ht]
theorem lineIn_succ (l : List S65) (j : Nat) (hj : j < l.length) : lineIn l (j + 1) = fun t => if t = (rd_T65 l (j : Int)).f0 then rd_T65 l (j : Int) else lineIn l j t := by
  funext t
  have e : rd_T65 l (j : Int) = l[j] := by simp only [rd_T65, Int.toNat_natCast, List.getD_eq_getElem?_getD, List.getElem?_eq_getElem hj, Option.getD_some]
  unfold lineIn
  rw [e, List.take_add_one, List.getElem?_eq_getElem hj, Option.toList_some, List.reverse_append, List.reverse_singleton, List.singleton_append, List.find?_cons]
  by_cases h : l[j].f0 = t
  · subst h; simp
  · rw [decide_eq_false h, if_neg (fun q => h q.symm)]
set_option maxRecDepth 100000 in
theorem noline_one (q : Addr) (b n : Nat) (f : ByteArray → S65) (x : S67) (w : World) (hq : w.cell? q = some (.map (some b))) (hm : LineMap w b n f) (hs : x.f0.size ≤ maxLen) :
    Calls Try.prog 130 #[.agg #[.string x.f0, .int .i64 x.f1], .pointer (some q)] w fun e w' => e = .returned (.bool ((f x.f0).f1 == 0)) ∧ Below w.heap.size w w' := by
  have hfl := field_1 (f x.f0).f0 (f x.f0).f1 (f x.f0).f2
  have hu67 := Try.underlying67
  have hlook := (hm.below (below_alloc (Below.refl w.heap.size w) (.cells #[.string x.f0, .int .i64 x.f1] 67)) hm.lt).look x.f0 hs
  have hq1 := fun o : Obj => pw_cell_below (below_alloc (Below.refl w.heap.size w) o) hq
  generalize f x.f0 = y at *
  clear hm hs
  go_enter Try.func130, Try.ntmps130
  go_wp2
  go_ret
  exact ⟨rfl, by repeat (first | exact Below.refl _ _ | apply below_alloc)⟩
set_option maxHeartbeats 4000000 in
set_option maxRecDepth 100000 in
theorem noline_index (q0 : Addr) (A0 : Option Addr) (c0 : Nat) (l0 : List S67) (p : S67 → Bool) (w : World) (hr0 : Kd.C k67 w A0 l0.length l0) (hc0 : l0.length ≤ c0) (hp : Aside0 (∀ (W : World), Below w.heap.size w W → ∀ (j : Nat), j < l0.length → Calls Try.prog 130 #[.agg #[.string (rd_T67 l0 (j : Int)).f0, .int .i64 (rd_T67 l0 (j : Int)).f1], .pointer (some q0)] W fun e W' => e = .returned (.bool (p (rd_T67 l0 (j : Int)))) ∧ Below W.heap.size W W')) :
    Calls Try.prog 161 #[.slice A0 l0.length c0, .func (.func 130) #[] #[.pointer (some q0)]] w (IdxPost (l0.any p) w) := by
  have HR0 := Aside0.mk hr0
  have HC0 := Aside0.mk hc0
  have HN := Aside0.mk hr0.2.1
  clear hr0 hc0
  go_enter Try.func161, Try.ntmps161
  go_wp2
  go_loopg [8] (l0.length + 1) (fun kq v w' => ∃ j : Nat, v = .int .i64 j ∧ Aside0 (j + kq = l0.length + 1) ∧ Aside0 (∀ q : Nat, q < j → p (rd_T67 l0 (q : Int)) = false) ∧ Aside0 (Below w.heap.size w w'))
  case atStart => exact ⟨0, rfl, ⟨by omega⟩, ⟨fun q hq => absurd hq (by omega)⟩, ⟨Below.refl _ _⟩⟩
  case round =>
    obtain ⟨j, rfl, HK, HQ, HB⟩ := hrel
    by_cases hj : j < l0.length
    · have c0b : decide ((j : Int) < (l0.length : Int)) = true := decide_eq_true (by omega)
      have p0 : (0 ≤ (j : Int)) = True := eq_true (by omega)
      have q0 : ((j : Int) < (l0.length : Int)) = True := eq_true (by omega)
      have hw1 : Aside0 (wrap64 ((j : Int) + 1) = ((j + 1 : Nat) : Int)) := ⟨by have := HN.out; unfold wrap64; omega⟩
      obtain ⟨ad, ee, hx0, hx1⟩ := at_T67 (Kd.C_below HR0.out HB.out) (j : Int) (by omega) (by omega)
      cases ee
      try simp only [Int.toNat_natCast] at hx0 hx1
      have hq := Aside0.mk (hp.out wr HB.out j hj)
      have HJ := Aside0.mk hj
      clear hj
      cases hb : p (rd_T67 l0 (j : Int)) with
      | true =>
        rw [hb] at hq
        have HBB := Aside0.mk hb
        clear hb
        go_wp2_with (go_at_call 130; refine hq.out.mono ?_; rintro e w2 ⟨rfl, hb2⟩)
        go_ret
        refine ⟨(j : Int), rfl, ?_, below_step HB.out hb2⟩
        have h1 : l0.any p = true := by
          rw [List.any_eq_true]
          refine ⟨rd_T67 l0 (j : Int), ?_, HBB.out⟩
          have := HJ.out
          simp only [rd_T67, Int.toNat_natCast, List.getD_eq_getElem?_getD, List.getElem?_eq_getElem this, Option.getD_some]
          exact List.getElem_mem this
        rw [h1, decide_eq_true_iff]
        omega
      | false =>
        rw [hb] at hq
        have HBB := Aside0.mk hb
        clear hb
        go_wp2_with (go_at_call 130; refine hq.out.mono ?_; rintro e w2 ⟨rfl, hb2⟩)
        go_roundg (gk - 1)
        case measure => have := HK.out; have := HJ.out; omega
        case rel =>
          refine ⟨j + 1, by first | rfl | (rw [hw1.out]), ⟨by have := HK.out; have := HJ.out; omega⟩, ⟨?_⟩, ⟨below_step HB.out hb2⟩⟩
          intro q hq2
          by_cases hqj : q = j
          · subst hqj; exact HBB.out
          · exact HQ.out q (by omega)
    · have c0b : decide ((j : Int) < (l0.length : Int)) = false := decide_eq_false (by omega)
      have c1b : decide (j < l0.length) = false := decide_eq_false hj
      have HJ := Aside0.mk hj
      clear hj
      go_wp2
      go_ret
      refine ⟨-1, rfl, ?_, HB.out⟩
      have h1 : l0.any p = false := by
        rw [List.any_eq_false]
        intro x hx
        obtain ⟨q, hq, rfl⟩ := List.getElem_of_mem hx
        have := HQ.out q (by have := HJ.out; omega)
        simp only [rd_T67, Int.toNat_natCast, List.getD_eq_getElem?_getD, List.getElem?_eq_getElem hq, Option.getD_some] at this
        rw [this]; decide
      rw [h1]
      rfl
set_option maxHeartbeats 4000000 in
set_option maxRecDepth 100000 in
theorem noline_contains (q0 : Addr) (A0 : Option Addr) (c0 : Nat) (l0 : List S67) (p : S67 → Bool) (w : World) (hr0 : Kd.C k67 w A0 l0.length l0) (hc0 : l0.length ≤ c0) (hp : Aside0 (∀ (W : World), Below w.heap.size w W → ∀ (j : Nat), j < l0.length → Calls Try.prog 130 #[.agg #[.string (rd_T67 l0 (j : Int)).f0, .int .i64 (rd_T67 l0 (j : Int)).f1], .pointer (some q0)] W fun e W' => e = .returned (.bool (p (rd_T67 l0 (j : Int)))) ∧ Below W.heap.size W W')) :
    Calls Try.prog 129 #[.slice A0 l0.length c0, .func (.func 130) #[] #[.pointer (some q0)]] w fun e w' => e = .returned (.bool (l0.any p)) ∧ Below w.heap.size w w' := by
  have HI := Aside0.mk (noline_index q0 A0 c0 l0 p w hr0 hc0 hp)
  clear hr0 hc0 hp
  generalize hg : l0.any p = b at *
  have HG := Aside0.mk hg
  clear hg
  go_enter Try.func129, Try.ntmps129
  go_wp2_with fail
  refine HI.out.mono ?_
  rintro e w1 ⟨z, rfl, hz, hb⟩
  have HZ := Aside0.mk hz
  clear hz
  go_wp2
  go_ret
  exact ⟨by have := HZ.out; subst this; rfl, hb⟩
end Go.Proofs.Ytlhaaccdiienbaa.X
