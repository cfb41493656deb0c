/- Lemmas of this claim, proved by hand: what 'Cut' asks, one closure after the other. -/
import Derived.Test.YtlhaaccdiienbaaEClosures
namespace Go.Proofs.Ytlhaaccdiienbaa.X
open Go.RowKit Go.Proofs.YtlhaaccdiienbaaW.PrintWords Go.Proofs.YtlhaaccdiienbaaW.PrintLast Go.Proofs.YtlhaaccdiienbaaW.PrintMore
set_option linter.unusedVariables false
theorem store_func {P : Program} {w : World} {a : Addr} {m : Mode} (fn : Fn) (x y : Array Value) : (store a (.func fn x y) m).run P w = stored P w a (.func fn x y) m := run_store P w a _ m rfl
attribute [local go_sem] store_func

set_option maxHeartbeats 8000000 in
set_option maxRecDepth 100000 in
theorem ask_six (g0 g1 g2 b : Nat) (w : World) (b1 b2 b3 b4 b5 b6 : Bool) (hk : w.heap[b]? = some (.cells #[Value.func (.func 44) #[] #[.pointer (some ⟨g0, 0, none⟩), .pointer (some ⟨g2, 0, none⟩), .pointer (some ⟨g1, 0, none⟩)], .int .i64 1, Value.func (.func 45) #[] #[.pointer (some ⟨g1, 0, none⟩)], .int .i64 1, Value.func (.func 48) #[] #[.pointer (some ⟨g2, 0, none⟩), .pointer (some ⟨g0, 0, none⟩)], .int .i64 1, Value.func (.func 52) #[] #[.pointer (some ⟨g1, 0, none⟩)], .int .i64 6, Value.func (.func 54) #[] #[.pointer (some ⟨g2, 0, none⟩)], .int .i64 4, Value.func (.func 57) #[] #[.pointer (some ⟨g0, 0, none⟩), .pointer (some ⟨g2, 0, none⟩)], .int .i64 3] 84 (0, 0)))
    (h1 : ∀ W, Below w.heap.size w W → Calls Try.prog 44 #[.pointer (some ⟨g0, 0, none⟩), .pointer (some ⟨g2, 0, none⟩), .pointer (some ⟨g1, 0, none⟩)] W fun e w' => e = .returned (.bool b1) ∧ Below W.heap.size W w')
    (h2 : b1 = false → ∀ W, Below w.heap.size w W → Calls Try.prog 45 #[.pointer (some ⟨g1, 0, none⟩)] W fun e w' => e = .returned (.bool b2) ∧ Below W.heap.size W w')
    (h3 : b1 = false → b2 = false → ∀ W, Below w.heap.size w W → Calls Try.prog 48 #[.pointer (some ⟨g2, 0, none⟩), .pointer (some ⟨g0, 0, none⟩)] W fun e w' => e = .returned (.bool b3) ∧ Below W.heap.size W w')
    (h4 : b1 = false → b2 = false → b3 = false → ∀ W, Below w.heap.size w W → Calls Try.prog 52 #[.pointer (some ⟨g1, 0, none⟩)] W fun e w' => e = .returned (.bool b4) ∧ Below W.heap.size W w')
    (h5 : b1 = false → b2 = false → b3 = false → b4 = false → ∀ W, Below w.heap.size w W → Calls Try.prog 54 #[.pointer (some ⟨g2, 0, none⟩)] W fun e w' => e = .returned (.bool b5) ∧ Below W.heap.size W w')
    (h6 : b1 = false → b2 = false → b3 = false → b4 = false → b5 = false → ∀ W, Below w.heap.size w W → Calls Try.prog 57 #[.pointer (some ⟨g0, 0, none⟩), .pointer (some ⟨g2, 0, none⟩)] W fun e w' => e = .returned (.bool b6) ∧ Below W.heap.size W w') :
    Calls Try.prog 43 #[.slice (some ⟨b, 0, none⟩) 6 6] w fun e w' => e = .returned (.int .i64 (if b1 = true then 1 else if b2 = true then 1 else if b3 = true then 1 else if b4 = true then 6 else if b5 = true then 4 else if b6 = true then 3 else 0)) ∧ Below w.heap.size w w' := by
  have hu84 := Try.underlying84
  have HK := Aside0.mk hk
  have HBa := Aside0.mk (Below.refl w.heap.size w)
  have H1 := Aside0.mk h1
  have H2 := Aside0.mk h2
  have H3 := Aside0.mk h3
  have H4 := Aside0.mk h4
  have H5 := Aside0.mk h5
  have H6 := Aside0.mk h6
  clear hk h1 h2 h3 h4 h5 h6
  go_enter Try.func43, Try.ntmps43
  go_wp2
  refine wp_loop_rounds 7 ?_
  have hxa : w.cell? ⟨b, 0, none⟩ = some (Value.func (.func 44) #[] #[.pointer (some ⟨g0, 0, none⟩), .pointer (some ⟨g2, 0, none⟩), .pointer (some ⟨g1, 0, none⟩)]) := (blk_cell (blk_below HK.out HBa.out) 0).trans rfl
  have hxb : w.cell? ⟨b, 1, none⟩ = some (.int .i64 1) := (blk_cell (blk_below HK.out HBa.out) 1).trans rfl
  rw [rounds_succ]
  go_wp2_with fail
  refine (H1.out (w.alloc (.cells #[Value.func (.func 44) #[] #[.pointer (some ⟨g0, 0, none⟩), .pointer (some ⟨g2, 0, none⟩), .pointer (some ⟨g1, 0, none⟩)], .int .i64 1] 84)) (below_alloc HBa.out _)).mono ?_
  rintro e u1 ⟨rfl, hb⟩
  obtain ⟨hc, hf⟩ := bcell hb
  have HBb := Aside0.mk (below_step (below_alloc HBa.out _) hb)
  clear hb hxa hxb 
  cases b1 with
  | true =>
    go_wp2
    go_ret
    exact ⟨rfl, HBb.out⟩
  | false =>
    go_wp2
    clear hc hf
    have hxa : u1.cell? ⟨b, 2, none⟩ = some (Value.func (.func 45) #[] #[.pointer (some ⟨g1, 0, none⟩)]) := (blk_cell (blk_below HK.out HBb.out) 2).trans rfl
    have hxb : u1.cell? ⟨b, 3, none⟩ = some (.int .i64 1) := (blk_cell (blk_below HK.out HBb.out) 3).trans rfl
    rw [rounds_succ]
    go_wp2_with fail
    refine (H2.out (by trivial) (u1.alloc (.cells #[Value.func (.func 45) #[] #[.pointer (some ⟨g1, 0, none⟩)], .int .i64 1] 84)) (below_alloc HBb.out _)).mono ?_
    rintro e u2 ⟨rfl, hb⟩
    obtain ⟨hc, hf⟩ := bcell hb
    have HBc := Aside0.mk (below_step (below_alloc HBb.out _) hb)
    clear hb hxa hxb HBb
    cases b2 with
    | true =>
      go_wp2
      go_ret
      exact ⟨rfl, HBc.out⟩
    | false =>
      go_wp2
      clear hc hf
      have hxa : u2.cell? ⟨b, 4, none⟩ = some (Value.func (.func 48) #[] #[.pointer (some ⟨g2, 0, none⟩), .pointer (some ⟨g0, 0, none⟩)]) := (blk_cell (blk_below HK.out HBc.out) 4).trans rfl
      have hxb : u2.cell? ⟨b, 5, none⟩ = some (.int .i64 1) := (blk_cell (blk_below HK.out HBc.out) 5).trans rfl
      rw [rounds_succ]
      go_wp2_with fail
      refine (H3.out (by trivial) (by trivial) (u2.alloc (.cells #[Value.func (.func 48) #[] #[.pointer (some ⟨g2, 0, none⟩), .pointer (some ⟨g0, 0, none⟩)], .int .i64 1] 84)) (below_alloc HBc.out _)).mono ?_
      rintro e u3 ⟨rfl, hb⟩
      obtain ⟨hc, hf⟩ := bcell hb
      have HBd := Aside0.mk (below_step (below_alloc HBc.out _) hb)
      clear hb hxa hxb HBc
      cases b3 with
      | true =>
        go_wp2
        go_ret
        exact ⟨rfl, HBd.out⟩
      | false =>
        go_wp2
        clear hc hf
        have hxa : u3.cell? ⟨b, 6, none⟩ = some (Value.func (.func 52) #[] #[.pointer (some ⟨g1, 0, none⟩)]) := (blk_cell (blk_below HK.out HBd.out) 6).trans rfl
        have hxb : u3.cell? ⟨b, 7, none⟩ = some (.int .i64 6) := (blk_cell (blk_below HK.out HBd.out) 7).trans rfl
        rw [rounds_succ]
        go_wp2_with fail
        refine (H4.out (by trivial) (by trivial) (by trivial) (u3.alloc (.cells #[Value.func (.func 52) #[] #[.pointer (some ⟨g1, 0, none⟩)], .int .i64 6] 84)) (below_alloc HBd.out _)).mono ?_
        rintro e u4 ⟨rfl, hb⟩
        obtain ⟨hc, hf⟩ := bcell hb
        have HBe := Aside0.mk (below_step (below_alloc HBd.out _) hb)
        clear hb hxa hxb HBd
        cases b4 with
        | true =>
          go_wp2
          go_ret
          exact ⟨rfl, HBe.out⟩
        | false =>
          go_wp2
          clear hc hf
          have hxa : u4.cell? ⟨b, 8, none⟩ = some (Value.func (.func 54) #[] #[.pointer (some ⟨g2, 0, none⟩)]) := (blk_cell (blk_below HK.out HBe.out) 8).trans rfl
          have hxb : u4.cell? ⟨b, 9, none⟩ = some (.int .i64 4) := (blk_cell (blk_below HK.out HBe.out) 9).trans rfl
          rw [rounds_succ]
          go_wp2_with fail
          refine (H5.out (by trivial) (by trivial) (by trivial) (by trivial) (u4.alloc (.cells #[Value.func (.func 54) #[] #[.pointer (some ⟨g2, 0, none⟩)], .int .i64 4] 84)) (below_alloc HBe.out _)).mono ?_
          rintro e u5 ⟨rfl, hb⟩
          obtain ⟨hc, hf⟩ := bcell hb
          have HBf := Aside0.mk (below_step (below_alloc HBe.out _) hb)
          clear hb hxa hxb HBe
          cases b5 with
          | true =>
            go_wp2
            go_ret
            exact ⟨rfl, HBf.out⟩
          | false =>
            go_wp2
            clear hc hf
            have hxa : u5.cell? ⟨b, 10, none⟩ = some (Value.func (.func 57) #[] #[.pointer (some ⟨g0, 0, none⟩), .pointer (some ⟨g2, 0, none⟩)]) := (blk_cell (blk_below HK.out HBf.out) 10).trans rfl
            have hxb : u5.cell? ⟨b, 11, none⟩ = some (.int .i64 3) := (blk_cell (blk_below HK.out HBf.out) 11).trans rfl
            rw [rounds_succ]
            go_wp2_with fail
            refine (H6.out (by trivial) (by trivial) (by trivial) (by trivial) (by trivial) (u5.alloc (.cells #[Value.func (.func 57) #[] #[.pointer (some ⟨g0, 0, none⟩), .pointer (some ⟨g2, 0, none⟩)], .int .i64 3] 84)) (below_alloc HBf.out _)).mono ?_
            rintro e u6 ⟨rfl, hb⟩
            obtain ⟨hc, hf⟩ := bcell hb
            have HBg := Aside0.mk (below_step (below_alloc HBf.out _) hb)
            clear hb hxa hxb HBf
            cases b6 with
            | true =>
              go_wp2
              go_ret
              exact ⟨rfl, HBg.out⟩
            | false =>
              go_wp2
              clear hc hf
              rw [rounds_succ]
              go_wp2
              go_ret
              exact ⟨rfl, HBg.out⟩

/-- What the first closure asks. -/
def badShape (m : Bool) (l1 : List Int) (l2 : List (List Int)) : Bool := !m || (!(decide (l2.length = l1.length)) || (decide (l2.length < 1) || decide (64 < l2.length)))
set_option maxHeartbeats 8000000 in
set_option maxRecDepth 100000 in
theorem cut_1 (g0 g1 g2 : Nat) (k : Nat) (a0_0 : ByteArray) (a0_1 : ByteArray) (a0_2 : ByteArray) (a0_3 : ByteArray) (a0_4 : ByteArray) (a0_5 : ByteArray) (a0_6 : Int) (A0_7 : Option Addr) (c0_7 : Nat) (l0_7 : List S65) (A1 : Option Addr) (c1 : Nat) (l1 : List Int) (A2 : Option Addr) (c2 : Nat) (l2 : List (List Int)) (m : Bool) (w : World) (hB0 : w.heap[g0]? = some (.cells #[.string a0_0, .string a0_1, .string a0_2, .string a0_3, .string a0_4, .string a0_5, .int .i64 a0_6, .slice A0_7 l0_7.length c0_7] 24 (0, 0))) (hB1 : w.heap[g1]? = some (.cells #[.slice A1 l1.length c1] 32 (0, 0))) (hB2 : w.heap[g2]? = some (.cells #[.slice A2 l2.length c2] 33 (0, 0))) (hr0_7 : Kd.C k65 w A0_7 l0_7.length l0_7) (hc0_7 : l0_7.length ≤ c0_7) (hr1 : Kd.C (Kd.int .i64) w A1 l1.length l1) (hc1 : l1.length ≤ c1) (hr2 : Kd.C (Kd.slice 3 (Kd.int .i64)) w A2 l2.length l2) (hc2 : l2.length ≤ c2) (h : order_May.f k a0_0 a0_1 a0_2 a0_3 a0_4 a0_5 a0_6 l0_7 = some m) :
    Calls Try.prog 44 #[.pointer (some ⟨g0, 0, none⟩), .pointer (some ⟨g2, 0, none⟩), .pointer (some ⟨g1, 0, none⟩)] w fun e w' => e = .returned (.bool (badShape m l1 l2)) ∧ Below w.heap.size w w' := by
  unfold badShape
  have HR0 := Aside0.mk hr0_7
  have HC0 := Aside0.mk hc0_7
  have HB0 := Aside0.mk hB0
  have HB1 := Aside0.mk hB1
  have HB2 := Aside0.mk hB2
  have HM := Aside0.mk h
  have x0 : w.cell? ⟨g0, 0, none⟩ = some (.string a0_0) := (blk_cell hB0 0).trans rfl
  have x1 : w.cell? ⟨g0, 1, none⟩ = some (.string a0_1) := (blk_cell hB0 1).trans rfl
  have x2 : w.cell? ⟨g0, 2, none⟩ = some (.string a0_2) := (blk_cell hB0 2).trans rfl
  have x3 : w.cell? ⟨g0, 3, none⟩ = some (.string a0_3) := (blk_cell hB0 3).trans rfl
  have x4 : w.cell? ⟨g0, 4, none⟩ = some (.string a0_4) := (blk_cell hB0 4).trans rfl
  have x5 : w.cell? ⟨g0, 5, none⟩ = some (.string a0_5) := (blk_cell hB0 5).trans rfl
  have x6 : w.cell? ⟨g0, 6, none⟩ = some (.int .i64 a0_6) := (blk_cell hB0 6).trans rfl
  have x7 : w.cell? ⟨g0, 7, none⟩ = some (.slice A0_7 l0_7.length c0_7) := (blk_cell hB0 7).trans rfl
  clear hr0_7 hc0_7 hr1 hc1 hr2 hc2 hB0 hB1 hB2 h
  cases m with
  | false =>
    go_enter Try.func44, Try.ntmps44
    go_wp2_with (go_at_call 15; refine (order_May.calls k a0_0 a0_1 a0_2 a0_3 a0_4 a0_5 a0_6 _ _ l0_7 _ _ HR0.out HC0.out HM.out).mono ?_; rintro e w1 ⟨rfl, hb⟩; have HB := Aside0.mk hb; clear hb)
    go_ret
    exact ⟨by rfl, HB.out⟩
  | true =>
    by_cases c1_ : l2.length = l1.length
    · have d1 : ((l2.length : Int) != (l1.length : Int)) = false := by rw [bne_eq_false_iff_eq]; omega
      rw [decide_eq_true c1_]
      by_cases c2_ : l2.length < 1
      · have d2 : decide ((l2.length : Int) < 1) = true := decide_eq_true (by omega)
        rw [decide_eq_true c2_]
        clear c1_ c2_
        go_enter Try.func44, Try.ntmps44
        go_wp2_with (go_at_call 15; refine (order_May.calls k a0_0 a0_1 a0_2 a0_3 a0_4 a0_5 a0_6 _ _ l0_7 _ _ HR0.out HC0.out HM.out).mono ?_; rintro e w1 ⟨rfl, hb⟩; have HB := Aside0.mk hb; have z1 : w1.cell? ⟨g1, 0, none⟩ = some (.slice A1 l1.length c1) := (blk_cell (blk_below HB1.out hb) 0).trans rfl; have z2 : w1.cell? ⟨g2, 0, none⟩ = some (.slice A2 l2.length c2) := (blk_cell (blk_below HB2.out hb) 0).trans rfl; clear hb)
        go_ret
        exact ⟨by rfl, HB.out⟩
      · have d2 : decide ((l2.length : Int) < 1) = false := decide_eq_false (by omega)
        rw [decide_eq_false c2_]
        have d3 : decide ((64 : Int) < (l2.length : Int)) = decide (64 < l2.length) := by rw [decide_eq_decide]; omega
        rw [← d3]
        clear c1_ c2_ d3
        go_enter Try.func44, Try.ntmps44
        go_wp2_with (go_at_call 15; refine (order_May.calls k a0_0 a0_1 a0_2 a0_3 a0_4 a0_5 a0_6 _ _ l0_7 _ _ HR0.out HC0.out HM.out).mono ?_; rintro e w1 ⟨rfl, hb⟩; have HB := Aside0.mk hb; have z1 : w1.cell? ⟨g1, 0, none⟩ = some (.slice A1 l1.length c1) := (blk_cell (blk_below HB1.out hb) 0).trans rfl; have z2 : w1.cell? ⟨g2, 0, none⟩ = some (.slice A2 l2.length c2) := (blk_cell (blk_below HB2.out hb) 0).trans rfl; clear hb)
        go_ret
        exact ⟨by rfl, HB.out⟩
    · have d1 : ((l2.length : Int) != (l1.length : Int)) = true := by rw [bne_iff_ne]; omega
      rw [decide_eq_false c1_]
      clear c1_
      go_enter Try.func44, Try.ntmps44
      go_wp2_with (go_at_call 15; refine (order_May.calls k a0_0 a0_1 a0_2 a0_3 a0_4 a0_5 a0_6 _ _ l0_7 _ _ HR0.out HC0.out HM.out).mono ?_; rintro e w1 ⟨rfl, hb⟩; have HB := Aside0.mk hb; have z1 : w1.cell? ⟨g1, 0, none⟩ = some (.slice A1 l1.length c1) := (blk_cell (blk_below HB1.out hb) 0).trans rfl; have z2 : w1.cell? ⟨g2, 0, none⟩ = some (.slice A2 l2.length c2) := (blk_cell (blk_below HB2.out hb) 0).trans rfl; clear hb)
      go_ret
      exact ⟨by rfl, HB.out⟩
theorem cut_2 (g1 : Nat) (A1 : Option Addr) (c1 : Nat) (l1 : List Int) (w : World) (hB1 : w.heap[g1]? = some (.cells #[.slice A1 l1.length c1] 32 (0, 0))) (hr1 : Kd.C (Kd.int .i64) w A1 l1.length l1) (hc1 : l1.length ≤ c1) :
    Calls Try.prog 45 #[.pointer (some ⟨g1, 0, none⟩)] w fun e w' => e = .returned (.bool (l1.any notDay)) ∧ Below w.heap.size w w' := by
  have HD := Aside0.mk (date_contains A1 c1 l1 notDay w hr1 hc1 ⟨fun W _ j _ => date_one _ W⟩)
  have x0 : w.cell? ⟨g1, 0, none⟩ = some (.slice A1 l1.length c1) := (blk_cell hB1 0).trans rfl
  clear hr1 hc1 hB1
  generalize l1.any notDay = b at *
  go_enter Try.func45, Try.ntmps45
  go_wp2_with fail
  refine HD.out.mono ?_
  rintro e w1 ⟨rfl, hb⟩
  go_wp2
  go_ret
  exact ⟨rfl, hb⟩
theorem cut_3 (g0 g2 : Nat) (a0_0 : ByteArray) (a0_1 : ByteArray) (a0_2 : ByteArray) (a0_3 : ByteArray) (a0_4 : ByteArray) (a0_5 : ByteArray) (a0_6 : Int) (A0_7 : Option Addr) (c0_7 : Nat) (l0_7 : List S65) (A2 : Option Addr) (c2 : Nat) (l2 : List (List Int)) (w : World) (hn : 0 < l0_7.length) (hB0 : w.heap[g0]? = some (.cells #[.string a0_0, .string a0_1, .string a0_2, .string a0_3, .string a0_4, .string a0_5, .int .i64 a0_6, .slice A0_7 l0_7.length c0_7] 24 (0, 0))) (hB2 : w.heap[g2]? = some (.cells #[.slice A2 l2.length c2] 33 (0, 0))) (hr2 : Kd.C (Kd.slice 3 (Kd.int .i64)) w A2 l2.length l2) (hc2 : l2.length ≤ c2) :
    Calls Try.prog 48 #[.pointer (some ⟨g2, 0, none⟩), .pointer (some ⟨g0, 0, none⟩)] w fun e w' => e = .returned (.bool (l2.any (badPart l0_7.length))) ∧ Below w.heap.size w w' := by
  have HD := Aside0.mk (part_contains ⟨g0, 0, none⟩ A2 c2 l2 (badPart l0_7.length) w hr2 hc2 ⟨fun W hb j _ S0 d0 hrS _ => part_one ⟨g0, 0, none⟩ A0_7 c0_7 l0_7 S0 d0 _ W hn ((blk_cell (blk_below hB0 hb) 7).trans rfl) hrS⟩)
  have x0 : w.cell? ⟨g2, 0, none⟩ = some (.slice A2 l2.length c2) := (blk_cell hB2 0).trans rfl
  clear hr2 hc2 hB2 hB0
  generalize l2.any (badPart l0_7.length) = b at *
  have hmf : ∀ (fn : Fn) (first cap : Array Value) (w : World), (Instr.makeFunc fn first cap).run Try.prog w = .ok (.func fn first cap) w := fun _ _ _ _ => rfl
  go_enter Try.func48, Try.ntmps48
  go_wp2_with fail
  refine HD.out.mono ?_
  rintro e w1 ⟨rfl, hb⟩
  go_wp2
  go_ret
  exact ⟨rfl, hb⟩
theorem cut_4 (g1 : Nat) (k : Nat) (A1 : Option Addr) (c1 : Nat) (l1 : List Int) (s : Bool) (w : World) (hB1 : w.heap[g1]? = some (.cells #[.slice A1 l1.length c1] 32 (0, 0))) (hr1 : Kd.C (Kd.int .i64) w A1 l1.length l1) (hc1 : l1.length ≤ c1) (h : slices_IsSorted_int_int.f k l1 = some s) :
    Calls Try.prog 52 #[.pointer (some ⟨g1, 0, none⟩)] w fun e w' => e = .returned (.bool (!s)) ∧ Below w.heap.size w w' := by
  have HD := Aside0.mk (slices_IsSorted_int_int.calls k A1 c1 l1 s w hr1 hc1 h)
  have x0 : w.cell? ⟨g1, 0, none⟩ = some (.slice A1 l1.length c1) := (blk_cell hB1 0).trans rfl
  clear hr1 hc1 hB1 h
  go_enter Try.func52, Try.ntmps52
  go_wp2_with fail
  refine HD.out.mono ?_
  rintro e w1 ⟨rfl, hb⟩
  go_wp2
  go_ret
  exact ⟨rfl, hb.below⟩
theorem cut_5 (g2 : Nat) (A2 : Option Addr) (c2 : Nat) (l2 : List (List Int)) (w : World) (hn : ∀ j : Nat, j < l2.length → 0 < (rd_L5 l2 (j : Int)).length) (hB2 : w.heap[g2]? = some (.cells #[.slice A2 l2.length c2] 33 (0, 0))) (hr2 : Kd.C (Kd.slice 3 (Kd.int .i64)) w A2 l2.length l2) (hc2 : l2.length ≤ c2) :
    Calls Try.prog 54 #[.pointer (some ⟨g2, 0, none⟩)] w fun e w' => e = .returned (.bool (l2.any noneIn)) ∧ Below w.heap.size w w' := by
  have HD := Aside0.mk (most_contains A2 c2 l2 noneIn w hr2 hc2 ⟨fun W hb j hj S0 d0 hrS _ => most_one S0 d0 _ W (hn j hj) hrS⟩)
  have x0 : w.cell? ⟨g2, 0, none⟩ = some (.slice A2 l2.length c2) := (blk_cell hB2 0).trans rfl
  clear hr2 hc2 hB2
  generalize l2.any noneIn = b at *
  go_enter Try.func54, Try.ntmps54
  go_wp2_with fail
  refine HD.out.mono ?_
  rintro e w1 ⟨rfl, hb⟩
  go_wp2
  go_ret
  exact ⟨rfl, hb⟩
theorem cut_6 (g0 g2 : Nat) (k : Nat) (a0_0 : ByteArray) (a0_1 : ByteArray) (a0_2 : ByteArray) (a0_3 : ByteArray) (a0_4 : ByteArray) (a0_5 : ByteArray) (a0_6 : Int) (A0_7 : Option Addr) (c0_7 : Nat) (l0_7 : List S65) (A2 : Option Addr) (c2 : Nat) (l2 : List (List Int)) (h_ : Bool) (w : World) (hB0 : w.heap[g0]? = some (.cells #[.string a0_0, .string a0_1, .string a0_2, .string a0_3, .string a0_4, .string a0_5, .int .i64 a0_6, .slice A0_7 l0_7.length c0_7] 24 (0, 0))) (hB2 : w.heap[g2]? = some (.cells #[.slice A2 l2.length c2] 33 (0, 0))) (hr0_7 : Kd.C k65 w A0_7 l0_7.length l0_7) (hc0_7 : l0_7.length ≤ c0_7) (hr2 : Kd.C (Kd.slice 3 (Kd.int .i64)) w A2 l2.length l2) (hc2 : l2.length ≤ c2) (h : order_whole.f k a0_0 a0_1 a0_2 a0_3 a0_4 a0_5 a0_6 l0_7 l2 = some h_) :
    Calls Try.prog 57 #[.pointer (some ⟨g0, 0, none⟩), .pointer (some ⟨g2, 0, none⟩)] w fun e w' => e = .returned (.bool (!h_)) ∧ Below w.heap.size w w' := by
  have HD := Aside0.mk (order_whole.calls k a0_0 a0_1 a0_2 a0_3 a0_4 a0_5 a0_6 A0_7 c0_7 l0_7 A2 c2 l2 h_ w hr0_7 hc0_7 hr2 hc2 h)
  have x0 : w.cell? ⟨g0, 0, none⟩ = some (.string a0_0) := (blk_cell hB0 0).trans rfl
  have x1 : w.cell? ⟨g0, 1, none⟩ = some (.string a0_1) := (blk_cell hB0 1).trans rfl
  have x2 : w.cell? ⟨g0, 2, none⟩ = some (.string a0_2) := (blk_cell hB0 2).trans rfl
  have x3 : w.cell? ⟨g0, 3, none⟩ = some (.string a0_3) := (blk_cell hB0 3).trans rfl
  have x4 : w.cell? ⟨g0, 4, none⟩ = some (.string a0_4) := (blk_cell hB0 4).trans rfl
  have x5 : w.cell? ⟨g0, 5, none⟩ = some (.string a0_5) := (blk_cell hB0 5).trans rfl
  have x6 : w.cell? ⟨g0, 6, none⟩ = some (.int .i64 a0_6) := (blk_cell hB0 6).trans rfl
  have x7 : w.cell? ⟨g0, 7, none⟩ = some (.slice A0_7 l0_7.length c0_7) := (blk_cell hB0 7).trans rfl
  have x20 : w.cell? ⟨g2, 0, none⟩ = some (.slice A2 l2.length c2) := (blk_cell hB2 0).trans rfl
  clear hr0_7 hc0_7 hr2 hc2 hB2 hB0 h
  go_enter Try.func57, Try.ntmps57
  go_wp2_with fail
  refine HD.out.mono ?_
  rintro e w1 ⟨rfl, hb⟩
  go_wp2
  go_ret
  exact ⟨rfl, hb⟩

theorem may_lines : ∀ (k : Nat) (x15 : List ByteArray) (x16 x17 : Int) (y0 y1 y2 y3 y4 y5 : ByteArray) (y6 : Int) (y7 : List S65), order_May.l0 k x15 x16 x17 y0 y1 y2 y3 y4 y5 y6 y7 = some true → linesB y7 = true
  | 0, _, _, _, _, _, _, _, _, _, _, _ => fun h => by simp [order_May.l0] at h
  | k + 1, x15, x16, x17, y0, y1, y2, y3, y4, y5, y6, y7 => fun h => by
    rw [order_May.l0] at h
    by_cases c1 : x17 < x16
    · rw [if_pos c1] at h
      by_cases c2 : 0 ≤ x17
      · rw [if_pos c2] at h
        by_cases c3 : x17 < (x15.length : Int)
        · rw [if_pos c3] at h
          obtain ⟨n, _, h⟩ := Option.bind_eq_some_iff.mp h
          cases n with
          | true => rw [if_pos rfl] at h; exact may_lines k _ _ _ _ _ _ _ _ _ _ _ h
          | false => rw [if_neg (by decide)] at h; cases h
        · rw [if_neg c3] at h; cases h
      · rw [if_neg c2] at h; cases h
    · rw [if_neg c1] at h
      by_cases c2 : y1.toList = y2.toList
      · rw [if_pos c2] at h; cases h
      · rw [if_neg c2] at h
        obtain ⟨n, _, h⟩ := Option.bind_eq_some_iff.mp h
        cases n with
        | false => rw [if_neg (by decide)] at h; cases h
        | true =>
          rw [if_pos rfl] at h
          by_cases c3 : y6 ≥ 0
          · rw [if_pos c3] at h
            by_cases c4 : y6 ≤ 7
            · rw [if_pos c4] at h
              obtain ⟨m, hm, h⟩ := Option.bind_eq_some_iff.mp h
              cases Option.some.inj h
              exact Option.some.inj hm
            · rw [if_neg c4] at h; cases h
          · rw [if_neg c3] at h; cases h
theorem may_pos {k : Nat} {a0_0 a0_1 a0_2 a0_3 a0_4 a0_5 : ByteArray} {a0_6 : Int} {l0_7 : List S65} (h : order_May.f k a0_0 a0_1 a0_2 a0_3 a0_4 a0_5 a0_6 l0_7 = some true) : 0 < l0_7.length := by
  have := may_lines _ _ _ _ _ _ _ _ _ _ _ _ h
  unfold linesB at this
  simp only [Bool.and_eq_true, decide_eq_true_eq] at this
  exact this.2.1
def order_ask.f (k : Nat) (a0_0 : ByteArray) (a0_1 : ByteArray) (a0_2 : ByteArray) (a0_3 : ByteArray) (a0_4 : ByteArray) (a0_5 : ByteArray) (a0_6 : Int) (l0_7 : List S65) (l1 : List Int) (l2 : List (List Int)) : Option Int :=
  (order_May.f k a0_0 a0_1 a0_2 a0_3 a0_4 a0_5 a0_6 l0_7).bind fun m => if badShape m l1 l2 = true then some 1 else if l1.any notDay = true then some 1 else if l2.any (badPart l0_7.length) = true then some 1 else (slices_IsSorted_int_int.f k l1).bind fun s => if s = true then (if l2.any noneIn = true then some 4 else (order_whole.f k a0_0 a0_1 a0_2 a0_3 a0_4 a0_5 a0_6 l0_7 l2).bind fun h => if h = true then some 0 else some 3) else some 6
theorem order_ask.mono : ∀ a0_0 a0_1 a0_2 a0_3 a0_4 a0_5 a0_6 l0_7 l1 l2 k, LeO (order_ask.f k a0_0 a0_1 a0_2 a0_3 a0_4 a0_5 a0_6 l0_7 l1 l2) (order_ask.f (k + 1) a0_0 a0_1 a0_2 a0_3 a0_4 a0_5 a0_6 l0_7 l1 l2) := by
  intro a0_0 a0_1 a0_2 a0_3 a0_4 a0_5 a0_6 l0_7 l1 l2 k
  unfold order_ask.f
  repeat' first
      | (with_reducible exact order_May.mono _ _ _ _ _ _ _ _ _)
      | (with_reducible exact slices_IsSorted_int_int.mono _ _)
      | (with_reducible exact order_whole.mono _ _ _ _ _ _ _ _ _ _)
      | (with_reducible exact LeO.refl _)
      | (with_reducible exact LeO.none _)
      | (with_reducible refine LeO.ite ?_ ?_)
      | (with_reducible refine LeO.bind ?_ (fun _ => ?_))
theorem any_rd {l2 : List (List Int)} {p : List Int → Bool} (h : l2.any p = false) (j : Nat) (hj : j < l2.length) : p (rd_L5 l2 (j : Int)) = false := by
  rw [List.any_eq_false] at h
  have : rd_L5 l2 (j : Int) = l2[j] := by simp only [rd_L5, Int.toNat_natCast, List.getD_eq_getElem?_getD, List.getElem?_eq_getElem hj, Option.getD_some]
  rw [this]
  exact Bool.eq_false_iff.mpr (h _ (List.getElem_mem hj))
/-- What 'Cut' asks: the error, or none. -/
theorem ask_cut (g0 g1 g2 b : Nat) (k : Nat) (a0_0 : ByteArray) (a0_1 : ByteArray) (a0_2 : ByteArray) (a0_3 : ByteArray) (a0_4 : ByteArray) (a0_5 : ByteArray) (a0_6 : Int) (A0_7 : Option Addr) (c0_7 : Nat) (l0_7 : List S65) (A1 : Option Addr) (c1 : Nat) (l1 : List Int) (A2 : Option Addr) (c2 : Nat) (l2 : List (List Int)) (r : Int) (w : World) (hB0 : w.heap[g0]? = some (.cells #[.string a0_0, .string a0_1, .string a0_2, .string a0_3, .string a0_4, .string a0_5, .int .i64 a0_6, .slice A0_7 l0_7.length c0_7] 24 (0, 0))) (hB1 : w.heap[g1]? = some (.cells #[.slice A1 l1.length c1] 32 (0, 0))) (hB2 : w.heap[g2]? = some (.cells #[.slice A2 l2.length c2] 33 (0, 0))) (hk : w.heap[b]? = some (.cells #[Value.func (.func 44) #[] #[.pointer (some ⟨g0, 0, none⟩), .pointer (some ⟨g2, 0, none⟩), .pointer (some ⟨g1, 0, none⟩)], .int .i64 1, Value.func (.func 45) #[] #[.pointer (some ⟨g1, 0, none⟩)], .int .i64 1, Value.func (.func 48) #[] #[.pointer (some ⟨g2, 0, none⟩), .pointer (some ⟨g0, 0, none⟩)], .int .i64 1, Value.func (.func 52) #[] #[.pointer (some ⟨g1, 0, none⟩)], .int .i64 6, Value.func (.func 54) #[] #[.pointer (some ⟨g2, 0, none⟩)], .int .i64 4, Value.func (.func 57) #[] #[.pointer (some ⟨g0, 0, none⟩), .pointer (some ⟨g2, 0, none⟩)], .int .i64 3] 84 (0, 0))) (hr0_7 : Kd.C k65 w A0_7 l0_7.length l0_7) (hc0_7 : l0_7.length ≤ c0_7) (hr1 : Kd.C (Kd.int .i64) w A1 l1.length l1) (hc1 : l1.length ≤ c1) (hr2 : Kd.C (Kd.slice 3 (Kd.int .i64)) w A2 l2.length l2) (hc2 : l2.length ≤ c2) (h : order_ask.f k a0_0 a0_1 a0_2 a0_3 a0_4 a0_5 a0_6 l0_7 l1 l2 = some r) :
    Calls Try.prog 43 #[.slice (some ⟨b, 0, none⟩) 6 6] w fun e w' => e = .returned (.int .i64 r) ∧ Below w.heap.size w w' := by
  unfold order_ask.f at h
  obtain ⟨m, hm, h⟩ := Option.bind_eq_some_iff.mp h
  have F1 : ∀ W, Below w.heap.size w W → Calls Try.prog 44 #[.pointer (some ⟨g0, 0, none⟩), .pointer (some ⟨g2, 0, none⟩), .pointer (some ⟨g1, 0, none⟩)] W fun e w' => e = .returned (.bool (badShape m l1 l2)) ∧ Below W.heap.size W w' := fun W hb =>
    cut_1 g0 g1 g2 k a0_0 a0_1 a0_2 a0_3 a0_4 a0_5 a0_6 A0_7 c0_7 l0_7 A1 c1 l1 A2 c2 l2 m W (blk_below hB0 hb) (blk_below hB1 hb) (blk_below hB2 hb) (Kd.C_below hr0_7 hb) hc0_7 (Kd.C_below hr1 hb) hc1 (Kd.C_below hr2 hb) hc2 hm
  have F2 : ∀ W, Below w.heap.size w W → Calls Try.prog 45 #[.pointer (some ⟨g1, 0, none⟩)] W fun e w' => e = .returned (.bool (l1.any notDay)) ∧ Below W.heap.size W w' := fun W hb =>
    cut_2 g1 A1 c1 l1 W (blk_below hB1 hb) (Kd.C_below hr1 hb) hc1
  cases e1 : badShape m l1 l2 with
  | true =>
    rw [if_pos e1] at h
    obtain rfl := Option.some.inj h
    exact ask_six g0 g1 g2 b w true true true true true true hk (by rw [← e1]; exact F1) (fun q => by cases q) (fun q => by cases q) (fun q => by cases q) (fun q => by cases q) (fun q => by cases q)
  | false =>
    rw [if_neg (by rw [e1]; decide)] at h
    have mt : m = true := by
      unfold badShape at e1
      cases m with
      | true => rfl
      | false => simp at e1
    subst mt
    have hpos := may_pos hm
    have F3 : ∀ W, Below w.heap.size w W → Calls Try.prog 48 #[.pointer (some ⟨g2, 0, none⟩), .pointer (some ⟨g0, 0, none⟩)] W fun e w' => e = .returned (.bool (l2.any (badPart l0_7.length))) ∧ Below W.heap.size W w' := fun W hb =>
      cut_3 g0 g2 a0_0 a0_1 a0_2 a0_3 a0_4 a0_5 a0_6 A0_7 c0_7 l0_7 A2 c2 l2 W hpos (blk_below hB0 hb) (blk_below hB2 hb) (Kd.C_below hr2 hb) hc2
    rw [e1] at F1
    cases e2 : l1.any notDay with
    | true =>
      rw [if_pos e2] at h
      obtain rfl := Option.some.inj h
      exact ask_six g0 g1 g2 b w false true true true true true hk F1 (fun _ => by rw [← e2]; exact F2) (fun _ q => by cases q) (fun _ q => by cases q) (fun _ q => by cases q) (fun _ q => by cases q)
    | false =>
      rw [if_neg (by rw [e2]; decide)] at h
      rw [e2] at F2
      cases e3 : l2.any (badPart l0_7.length) with
      | true =>
        rw [if_pos e3] at h
        obtain rfl := Option.some.inj h
        exact ask_six g0 g1 g2 b w false false true true true true hk F1 (fun _ => F2) (fun _ _ => by rw [← e3]; exact F3) (fun _ _ q => by cases q) (fun _ _ q => by cases q) (fun _ _ q => by cases q)
      | false =>
        rw [if_neg (by rw [e3]; decide)] at h
        rw [e3] at F3
        obtain ⟨s, hs, h⟩ := Option.bind_eq_some_iff.mp h
        have F4 : ∀ W, Below w.heap.size w W → Calls Try.prog 52 #[.pointer (some ⟨g1, 0, none⟩)] W fun e w' => e = .returned (.bool (!s)) ∧ Below W.heap.size W w' := fun W hb =>
          cut_4 g1 k A1 c1 l1 s W (blk_below hB1 hb) (Kd.C_below hr1 hb) hc1 hs
        have F5 : ∀ W, Below w.heap.size w W → Calls Try.prog 54 #[.pointer (some ⟨g2, 0, none⟩)] W fun e w' => e = .returned (.bool (l2.any noneIn)) ∧ Below W.heap.size W w' := fun W hb =>
          cut_5 g2 A2 c2 l2 W (fun j hj => by
            have := any_rd e3 j hj
            unfold badPart at this
            rw [Bool.or_eq_false_iff, Bool.not_eq_false', decide_eq_true_eq] at this
            omega) (blk_below hB2 hb) (Kd.C_below hr2 hb) hc2
        cases s with
        | false =>
          rw [if_neg (by decide)] at h
          obtain rfl := Option.some.inj h
          exact ask_six g0 g1 g2 b w false false false true true true hk F1 (fun _ => F2) (fun _ _ => F3) (fun _ _ _ => F4) (fun _ _ _ q => by cases q) (fun _ _ _ q => by cases q)
        | true =>
          rw [if_pos rfl] at h
          cases e5 : l2.any noneIn with
          | true =>
            rw [if_pos e5] at h
            obtain rfl := Option.some.inj h
            exact ask_six g0 g1 g2 b w false false false false true true hk F1 (fun _ => F2) (fun _ _ => F3) (fun _ _ _ => F4) (fun _ _ _ _ => by rw [← e5]; exact F5) (fun _ _ _ _ q => by cases q)
          | false =>
            rw [if_neg (by rw [e5]; decide)] at h
            rw [e5] at F5
            obtain ⟨v, hv, h⟩ := Option.bind_eq_some_iff.mp h
            have F6 : ∀ W, Below w.heap.size w W → Calls Try.prog 57 #[.pointer (some ⟨g0, 0, none⟩), .pointer (some ⟨g2, 0, none⟩)] W fun e w' => e = .returned (.bool (!v)) ∧ Below W.heap.size W w' := fun W hb =>
              cut_6 g0 g2 k a0_0 a0_1 a0_2 a0_3 a0_4 a0_5 a0_6 A0_7 c0_7 l0_7 A2 c2 l2 v W (blk_below hB0 hb) (blk_below hB2 hb) (Kd.C_below hr0_7 hb) hc0_7 (Kd.C_below hr2 hb) hc2 hv
            cases v with
            | true =>
              rw [if_pos rfl] at h
              obtain rfl := Option.some.inj h
              exact ask_six g0 g1 g2 b w false false false false false false hk F1 (fun _ => F2) (fun _ _ => F3) (fun _ _ _ => F4) (fun _ _ _ _ => F5) (fun _ _ _ _ _ => F6)
            | false =>
              rw [if_neg (by decide)] at h
              obtain rfl := Option.some.inj h
              exact ask_six g0 g1 g2 b w false false false false false true hk F1 (fun _ => F2) (fun _ _ => F3) (fun _ _ _ => F4) (fun _ _ _ _ => F5) (fun _ _ _ _ _ => F6)
end Go.Proofs.Ytlhaaccdiienbaa.X
