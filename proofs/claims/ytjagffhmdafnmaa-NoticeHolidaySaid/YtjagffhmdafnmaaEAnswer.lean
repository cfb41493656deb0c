/- A lemma of this claim, proved by hand: what 'Answer' answers, as a plain function. -/
import Derived.Test.YtjagffhmdafnmaaX9
import Derived.Test.YtjagffhmdafnmaaMA
import Derived.Test.YtjagffhmdafnmaaEFunc
import Derived.Deep.RegionHeld3
import Derived.LoopN
namespace Go.Proofs.Ytjagffhmdafnmaa.X
open Go.RowKit Go.Proofs.YtjagffhmdafnmaaW.PrintWords Go.Proofs.YtjagffhmdafnmaaW.PrintLast Go.Proofs.YtjagffhmdafnmaaW.PrintMore

/-- Are two faults the same? -/
def eqF (x y : S36) : Bool := (x.f0 == y.f0 && (x.f1 == y.f1 && (x.f2.toList == y.f2.toList && (x.f3 == y.f3))))
theorem rdT_nat (l : List S36) (i : Nat) : rd_T36 l (i : Int) = l.getD i z36 := by simp [rd_T36]
theorem faults_loop (l : List S36) (x : S36) (hl : l.length ≤ 9223372036854775807) : ∀ d i : Nat, i + d = l.length → (∀ j, j < i → eqF x (l.getD j z36) = false) → ∃ z : Int, Ev (fun k => api_Fault_48.l0 k l l.length i x.f0 x.f1 x.f2 x.f3) z ∧ decide (z ≥ 0) = l.any (eqF x) := by
  intro d
  induction d with
  | zero =>
    intro i hi ho
    refine ⟨-1, ?_, ?_⟩
    · refine Ev.step (fun k => by rw [api_Fault_48.l0]) ?_
      simp only [if_neg (show ¬ ((i : Int) < (l.length : Int)) by omega)]
      exact Ev.now _
    · rw [show decide ((-1 : Int) ≥ 0) = false from rfl]
      symm
      rw [List.any_eq_false]
      intro y hy
      obtain ⟨j, hj, rfl⟩ := List.getElem_of_mem hy
      have := ho j (by omega)
      rw [List.getD_eq_getElem?_getD] at this
      simp [hj] at this
      simp [this]
  | succ d ih =>
    intro i hi ho
    have hlt : i < l.length := by omega
    cases hx : eqF x (l.getD i z36) with
    | true =>
      refine ⟨(i : Int), ?_, ?_⟩
      · refine Ev.step (fun k => by rw [api_Fault_48.l0]) ?_
        simp only [if_pos (show ((i : Int) < (l.length : Int)) by omega), if_pos (show (0 : Int) ≤ i by omega), rdT_nat]
        rw [eqF] at hx
        simp only [hx, if_true]
        exact Ev.now _
      · have : l.any (eqF x) = true := by
          rw [List.any_eq_true]
          refine ⟨l.getD i z36, ?_, hx⟩
          rw [List.getD_eq_getElem?_getD]; simp [hlt]
        rw [this, decide_eq_true_iff]
        omega
    | false =>
      obtain ⟨z, hz, hm⟩ := ih (i + 1) (by omega) (by
        intro j hj
        by_cases e : j = i
        · subst e; exact hx
        · exact ho j (by omega))
      refine ⟨z, ?_, hm⟩
      refine Ev.step (fun k => by rw [api_Fault_48.l0]) ?_
      rw [eqF] at hx
      simp only [if_pos (show ((i : Int) < (l.length : Int)) by omega), if_pos (show (0 : Int) ≤ i by omega), rdT_nat, hx, wrap_succ hlt hl]
      exact hz
theorem faults_ev (l : List S36) (x : S36) (hl : l.length ≤ 9223372036854775807) : Ev (fun k => api_Fault_34.f k l x.f0 x.f1 x.f2 x.f3) (l.any (eqF x)) := by
  unfold api_Fault_34.f api_Fault_48.f
  obtain ⟨z, hz, hm⟩ := faults_loop l x hl l.length 0 (by omega) (fun j hj => by omega)
  refine Ev.bind hz ?_
  rw [hm]
  exact Ev.now _

/-- Does something that was told count? -/
def counts (l3 l4 : List S36) : Bool := l4.any (fun x => l3.any (eqF x))
def notice_Answer.f (k : Nat) (l0_0 : List Int) (l0_1 : List Int) (a1 : Int) (a2 : Int) (l3 : List (S36)) (l4 : List (S36)) : Option (Int) :=
  if l3.length = 0 then some 0 else (notice_Deadline.f k l0_0 l0_1 a1).bind fun bt => if bt.2 = true then (if bt.1 < a2 then some 2 else if a2 < a1 then some 2 else if counts l3 l4 = true then some 1 else some 2) else some 2
theorem notice_Answer.mono : ∀ a0 a1 a2 a3 a4 a5 k, LeO (notice_Answer.f k a0 a1 a2 a3 a4 a5) (notice_Answer.f (k + 1) a0 a1 a2 a3 a4 a5) := by
  intro a0 a1 a2 a3 a4 a5 k
  unfold notice_Answer.f
  repeat' first
      | (with_reducible exact notice_Deadline.mono _ _ _ _)
      | (with_reducible exact LeO.refl _)
      | (with_reducible exact LeO.none _)
      | (with_reducible refine LeO.ite ?_ ?_)
      | (with_reducible refine LeO.bind ?_ (fun _ => ?_))

/-- The closure that asks whether a fault is among those that there are. -/
theorem told_one (q0 : Addr) (A3 : Option Addr) (c3 : Nat) (l3 : List S36) (x : S36) (w : World) (hq : w.cell? q0 = some (.slice A3 l3.length c3)) (hr : Kd.C k36 w A3 l3.length l3) (hc : l3.length ≤ c3) :
    Calls Try.prog 33 #[.agg #[.int .i64 x.f0, .int .i64 x.f1, .string x.f2, .int .i64 x.f3], .pointer (some q0)] w fun e w' => e = .returned (.bool (l3.any (eqF x))) ∧ Below w.heap.size w w' := by
  obtain ⟨k, hk⟩ := Ev.rounds (faults_ev l3 x hr.2.1)
  have HR := Aside0.mk hr
  have HC := Aside0.mk hc
  have HK := Aside0.mk hk
  have hq1 := fun o : Obj => pw_cell_below (below_alloc (Below.refl w.heap.size w) o) hq
  clear hr hc hk
  go_enter Try.func33, Try.ntmps33
  go_wp2_with fail
  refine (api_Fault_34.calls k _ _ l3 _ _ _ _ _ _ (Kd.C_alloc HR.out _) HC.out HK.out).mono ?_
  rintro e w1 ⟨rfl, hb⟩
  go_wp2
  go_ret
  exact ⟨rfl, below_step (below_alloc (Below.refl _ _) _) hb⟩
/-- The closure that asks whether something that was told counts. -/
theorem told_all (q0 q1 : Addr) (A3 A4 : Option Addr) (c3 c4 : Nat) (l3 l4 : List S36) (w : World) (hq0 : w.cell? q0 = some (.slice A4 l4.length c4)) (hq1 : w.cell? q1 = some (.slice A3 l3.length c3)) (hr3 : Kd.C k36 w A3 l3.length l3) (hc3 : l3.length ≤ c3) (hr4 : Kd.C k36 w A4 l4.length l4) (hc4 : l4.length ≤ c4) :
    Calls Try.prog 31 #[.pointer (some q0), .pointer (some q1)] w fun e w' => e = .returned (.bool (!counts l3 l4)) ∧ Below w.heap.size w w' := by
  have HP : Aside0 (∀ (W : World), Below w.heap.size w W → ∀ (j : Nat), j < l4.length → Calls Try.prog 33 #[.agg #[.int .i64 ((rd_T36 l4 (j : Int)).f0), .int .i64 ((rd_T36 l4 (j : Int)).f1), .string ((rd_T36 l4 (j : Int)).f2), .int .i64 ((rd_T36 l4 (j : Int)).f3)], .pointer (some q1)] W fun e W' => e = .returned (.bool ((fun x => l3.any (eqF x)) (rd_T36 l4 (j : Int)))) ∧ Below W.heap.size W W') :=
    ⟨fun W hb j _ => told_one q1 A3 c3 l3 (rd_T36 l4 (j : Int)) W (pw_cell_below hb hq1) (Kd.C_below hr3 hb) hc3⟩
  have HT := Aside0.mk (told_contains q1 A4 c4 l4 (fun x => l3.any (eqF x)) w hr4 hc4 HP)
  have HE : Aside0 (l4.any (fun x => l3.any (eqF x)) = counts l3 l4) := ⟨rfl⟩
  have HH : Aside0 (Calls Try.prog 32 #[.slice A4 l4.length c4, .func (.func 33) #[] #[.pointer (some q1)]] w fun e w' => e = .returned (.bool (counts l3 l4)) ∧ Below w.heap.size w w') := HT
  generalize counts l3 l4 = b at *
  have hmf : ∀ (fn : Fn) (first cap : Array Value) (w : World), (Instr.makeFunc fn first cap).run Try.prog w = .ok (.func fn first cap) w := fun _ _ _ _ => rfl
  clear hr3 hc3 hr4 hc4 HP HT HE hq1
  go_enter Try.func31, Try.ntmps31
  go_wp2_with fail
  refine HH.out.mono ?_
  rintro e w1 ⟨rfl, hb⟩
  go_wp2
  go_ret
  exact ⟨rfl, hb⟩
theorem five_1 (w : World) (A C D E : Obj) (t : TypeId) (v : Value) : (((((w.alloc A).alloc (.cells #[v] t)).alloc C).alloc D).alloc E).cell? ⟨w.heap.size + 1, 0, none⟩ = some v := by
  rw [show w.heap.size + 1 = (w.alloc A).heap.size by simp]
  exact (blk_cell (blk_alloc (blk_alloc (blk_alloc (blk_new (w.alloc A) (.cells #[v] t (0, 0))) C) D) E) 0).trans rfl
theorem five_2 (w : World) (A B D E : Obj) (t : TypeId) (v : Value) : (((((w.alloc A).alloc B).alloc (.cells #[v] t)).alloc D).alloc E).cell? ⟨w.heap.size + 1 + 1, 0, none⟩ = some v := by
  rw [show w.heap.size + 1 + 1 = ((w.alloc A).alloc B).heap.size by simp]
  exact (blk_cell (blk_alloc (blk_alloc (blk_new ((w.alloc A).alloc B) (.cells #[v] t (0, 0))) D) E) 0).trans rfl
theorem five_3 (w : World) (A B C E : Obj) (t : TypeId) (v : Value) : (((((w.alloc A).alloc B).alloc C).alloc (.cells #[v] t)).alloc E).cell? ⟨w.heap.size + 1 + 1 + 1, 0, none⟩ = some v := by
  rw [show w.heap.size + 1 + 1 + 1 = (((w.alloc A).alloc B).alloc C).heap.size by simp]
  exact (blk_cell (blk_alloc (blk_new (((w.alloc A).alloc B).alloc C) (.cells #[v] t (0, 0))) E) 0).trans rfl
theorem five_4 (w : World) (A B C D : Obj) (t : TypeId) (v : Value) : (((((w.alloc A).alloc B).alloc C).alloc D).alloc (.cells #[v] t)).cell? ⟨w.heap.size + 1 + 1 + 1 + 1, 0, none⟩ = some v := by
  rw [show w.heap.size + 1 + 1 + 1 + 1 = ((((w.alloc A).alloc B).alloc C).alloc D).heap.size by simp]
  exact (blk_cell (blk_new ((((w.alloc A).alloc B).alloc C).alloc D) (.cells #[v] t (0, 0))) 0).trans rfl
theorem none_one (q : Addr) (b : Bool) (w : World) (hq : w.cell? q = some (.bool b)) : Calls Try.prog 29 #[.pointer (some q)] w fun e w' => e = .returned (.bool (!b)) ∧ w = w' := by
  go_enter Try.func29, Try.ntmps29
  go_wp2
  go_ret
  exact ⟨rfl, rfl⟩
theorem time_one (q0 q1 q2 : Addr) (x y z : Int) (w : World) (h0 : w.cell? q0 = some (.int .i64 x)) (h1 : w.cell? q1 = some (.int .i64 y)) (h2 : w.cell? q2 = some (.int .i64 z)) : Calls Try.prog 30 #[.pointer (some q0), .pointer (some q1), .pointer (some q2)] w fun e w' => e = .returned (.bool (decide (y < x) || decide (x < z))) ∧ w = w' := by
  by_cases c : y < x
  · have d1 : decide (y < x) = true := decide_eq_true c
    rw [d1, Bool.true_or]
    clear c
    go_enter Try.func30, Try.ntmps30
    go_wp2
    go_ret
    exact ⟨rfl, rfl⟩
  · have d1 : decide (y < x) = false := decide_eq_false c
    rw [d1, Bool.false_or]
    clear c
    go_enter Try.func30, Try.ntmps30
    go_wp2
    go_ret
    exact ⟨rfl, rfl⟩
set_option maxHeartbeats 8000000 in
set_option maxRecDepth 100000 in
theorem notice_Answer.calls (k : Nat) (A0_0 : Option Addr) (c0_0 : Nat) (l0_0 : List Int) (A0_1 : Option Addr) (c0_1 : Nat) (l0_1 : List Int) (a1 : Int) (a2 : Int) (A3 : Option Addr) (c3 : Nat) (l3 : List (S36)) (A4 : Option Addr) (c4 : Nat) (l4 : List (S36)) (r : Int) (w : World) (hr0_0 : Kd.C (Kd.int .i64) w A0_0 l0_0.length l0_0) (hc0_0 : l0_0.length ≤ c0_0) (hr0_1 : Kd.C (Kd.int .i64) w A0_1 l0_1.length l0_1) (hc0_1 : l0_1.length ≤ c0_1) (hr3 : Kd.C k36 w A3 l3.length l3) (hc3 : l3.length ≤ c3) (hr4 : Kd.C k36 w A4 l4.length l4) (hc4 : l4.length ≤ c4) (h : notice_Answer.f k l0_0 l0_1 a1 a2 l3 l4 = some r) :
    Calls Try.prog 19 #[.agg #[.slice A0_0 l0_0.length c0_0, .slice A0_1 l0_1.length c0_1], .int .i64 a1, .int .i64 a2, .slice A3 l3.length c3, .slice A4 l4.length c4] w fun e w' => e = .returned (.int .i64 r) ∧ Below w.heap.size w w' := by
  unfold notice_Answer.f at h
  have HR0 := Aside0.mk hr0_0
  have HR1 := Aside0.mk hr0_1
  have HC0 := Aside0.mk hc0_0
  have HC1 := Aside0.mk hc0_1
  have HR3 := Aside0.mk hr3
  have HR4 := Aside0.mk hr4
  have HC3 := Aside0.mk hc3
  have HC4 := Aside0.mk hc4
  clear hr0_0 hr0_1 hc0_0 hc0_1 hr3 hc3 hr4 hc4
  by_cases hl : l3.length = 0
  · rw [if_pos hl] at h
    obtain rfl := Option.some.inj h
    have c0b : ((l3.length : Int) == 0) = true := beq_iff_eq.mpr (by omega)
    have HL := Aside0.mk hl
    clear hl h
    go_enter Try.func19, Try.ntmps19
    go_wp2
    go_ret
    exact ⟨rfl, by repeat (first | exact Below.refl _ _ | apply below_alloc)⟩
  · rw [if_neg hl] at h
    obtain ⟨⟨by_, is_⟩, AD, h⟩ := Option.bind_eq_some_iff.mp h
    have HD := Aside0.mk AD
    have HH := Aside0.mk h
    have c0b : ((l3.length : Int) == 0) = false := beq_eq_false_iff_ne.mpr (by omega)
    have hmf : ∀ (fn : Fn) (first cap : Array Value) (w : World), (Instr.makeFunc fn first cap).run Try.prog w = .ok (.func fn first cap) w := fun _ _ _ _ => rfl
    clear hl h AD
    go_enter Try.func19, Try.ntmps19
    go_wp2_with fail
    refine (notice_Deadline.calls k _ _ l0_0 _ _ l0_1 a1 by_ is_ _ (Kd.C_below HR0.out (by repeat (first | exact Below.refl _ _ | apply below_alloc))) HC0.out (Kd.C_below HR1.out (by repeat (first | exact Below.refl _ _ | apply below_alloc))) HC1.out HD.out).mono ?_
    rintro e w1 ⟨rfl, hb⟩
    obtain ⟨hc, hf⟩ := bcell hb
    have HB := Aside0.mk (below_step (w := w) (by repeat (first | exact Below.refl _ _ | apply below_alloc)) hb)
    have hz : w.heap.size + 4 < w1.heap.size := by have := hb.size; simp at this; omega
    clear hb
    go_wp2
    have g0 : (((w1.alloc (.cells #[.int .i64 by_] 3)).alloc (.cells #[.bool is_] 4)).alloc (.cells #[Value.func (.func 29) #[] #[.pointer (some ⟨w1.heap.size + 1, 0, none⟩)], Value.func (.func 30) #[] #[.pointer (some ⟨w.heap.size + 1 + 1, 0, none⟩), .pointer (some ⟨w1.heap.size, 0, none⟩), .pointer (some ⟨w.heap.size + 1, 0, none⟩)], Value.func (.func 31) #[] #[.pointer (some ⟨w.heap.size + 1 + 1 + 1 + 1, 0, none⟩), .pointer (some ⟨w.heap.size + 1 + 1 + 1, 0, none⟩)]] 25)).cell? ⟨w1.heap.size, 0, none⟩ = some (.int .i64 by_) := by go_simp
    have g1 : (((w1.alloc (.cells #[.int .i64 by_] 3)).alloc (.cells #[.bool is_] 4)).alloc (.cells #[Value.func (.func 29) #[] #[.pointer (some ⟨w1.heap.size + 1, 0, none⟩)], Value.func (.func 30) #[] #[.pointer (some ⟨w.heap.size + 1 + 1, 0, none⟩), .pointer (some ⟨w1.heap.size, 0, none⟩), .pointer (some ⟨w.heap.size + 1, 0, none⟩)], Value.func (.func 31) #[] #[.pointer (some ⟨w.heap.size + 1 + 1 + 1 + 1, 0, none⟩), .pointer (some ⟨w.heap.size + 1 + 1 + 1, 0, none⟩)]] 25)).cell? ⟨w1.heap.size + 1, 0, none⟩ = some (.bool is_) := by go_simp
    have g2 : (((w1.alloc (.cells #[.int .i64 by_] 3)).alloc (.cells #[.bool is_] 4)).alloc (.cells #[Value.func (.func 29) #[] #[.pointer (some ⟨w1.heap.size + 1, 0, none⟩)], Value.func (.func 30) #[] #[.pointer (some ⟨w.heap.size + 1 + 1, 0, none⟩), .pointer (some ⟨w1.heap.size, 0, none⟩), .pointer (some ⟨w.heap.size + 1, 0, none⟩)], Value.func (.func 31) #[] #[.pointer (some ⟨w.heap.size + 1 + 1 + 1 + 1, 0, none⟩), .pointer (some ⟨w.heap.size + 1 + 1 + 1, 0, none⟩)]] 25)).cell? ⟨w1.heap.size + 1 + 1, 0, none⟩ = some (Value.func (.func 29) #[] #[.pointer (some ⟨w1.heap.size + 1, 0, none⟩)]) := by go_simp
    have g3 : (((w1.alloc (.cells #[.int .i64 by_] 3)).alloc (.cells #[.bool is_] 4)).alloc (.cells #[Value.func (.func 29) #[] #[.pointer (some ⟨w1.heap.size + 1, 0, none⟩)], Value.func (.func 30) #[] #[.pointer (some ⟨w.heap.size + 1 + 1, 0, none⟩), .pointer (some ⟨w1.heap.size, 0, none⟩), .pointer (some ⟨w.heap.size + 1, 0, none⟩)], Value.func (.func 31) #[] #[.pointer (some ⟨w.heap.size + 1 + 1 + 1 + 1, 0, none⟩), .pointer (some ⟨w.heap.size + 1 + 1 + 1, 0, none⟩)]] 25)).cell? ⟨w1.heap.size + 1 + 1, 1, none⟩ = some (Value.func (.func 30) #[] #[.pointer (some ⟨w.heap.size + 1 + 1, 0, none⟩), .pointer (some ⟨w1.heap.size, 0, none⟩), .pointer (some ⟨w.heap.size + 1, 0, none⟩)]) := by go_simp
    have g4 : (((w1.alloc (.cells #[.int .i64 by_] 3)).alloc (.cells #[.bool is_] 4)).alloc (.cells #[Value.func (.func 29) #[] #[.pointer (some ⟨w1.heap.size + 1, 0, none⟩)], Value.func (.func 30) #[] #[.pointer (some ⟨w.heap.size + 1 + 1, 0, none⟩), .pointer (some ⟨w1.heap.size, 0, none⟩), .pointer (some ⟨w.heap.size + 1, 0, none⟩)], Value.func (.func 31) #[] #[.pointer (some ⟨w.heap.size + 1 + 1 + 1 + 1, 0, none⟩), .pointer (some ⟨w.heap.size + 1 + 1 + 1, 0, none⟩)]] 25)).cell? ⟨w1.heap.size + 1 + 1, 2, none⟩ = some (Value.func (.func 31) #[] #[.pointer (some ⟨w.heap.size + 1 + 1 + 1 + 1, 0, none⟩), .pointer (some ⟨w.heap.size + 1 + 1 + 1, 0, none⟩)]) := by go_simp
    have eg5 : w1.cell? ⟨w.heap.size + 1, 0, none⟩ = some (.int .i64 a1) := (hc _ _ (by simp)).trans (five_1 _ _ _ _ _ _ _)
    have g5 : (((w1.alloc (.cells #[.int .i64 by_] 3)).alloc (.cells #[.bool is_] 4)).alloc (.cells #[Value.func (.func 29) #[] #[.pointer (some ⟨w1.heap.size + 1, 0, none⟩)], Value.func (.func 30) #[] #[.pointer (some ⟨w.heap.size + 1 + 1, 0, none⟩), .pointer (some ⟨w1.heap.size, 0, none⟩), .pointer (some ⟨w.heap.size + 1, 0, none⟩)], Value.func (.func 31) #[] #[.pointer (some ⟨w.heap.size + 1 + 1 + 1 + 1, 0, none⟩), .pointer (some ⟨w.heap.size + 1 + 1 + 1, 0, none⟩)]] 25)).cell? ⟨w.heap.size + 1, 0, none⟩ = some (.int .i64 a1) := pw_cell_below (below_alloc (below_alloc (below_alloc (Below.refl _ _) _) _) _) eg5
    clear eg5
    have eg6 : w1.cell? ⟨w.heap.size + 1 + 1, 0, none⟩ = some (.int .i64 a2) := (hc _ _ (by simp)).trans (five_2 _ _ _ _ _ _ _)
    have g6 : (((w1.alloc (.cells #[.int .i64 by_] 3)).alloc (.cells #[.bool is_] 4)).alloc (.cells #[Value.func (.func 29) #[] #[.pointer (some ⟨w1.heap.size + 1, 0, none⟩)], Value.func (.func 30) #[] #[.pointer (some ⟨w.heap.size + 1 + 1, 0, none⟩), .pointer (some ⟨w1.heap.size, 0, none⟩), .pointer (some ⟨w.heap.size + 1, 0, none⟩)], Value.func (.func 31) #[] #[.pointer (some ⟨w.heap.size + 1 + 1 + 1 + 1, 0, none⟩), .pointer (some ⟨w.heap.size + 1 + 1 + 1, 0, none⟩)]] 25)).cell? ⟨w.heap.size + 1 + 1, 0, none⟩ = some (.int .i64 a2) := pw_cell_below (below_alloc (below_alloc (below_alloc (Below.refl _ _) _) _) _) eg6
    clear eg6
    have eg7 : w1.cell? ⟨w.heap.size + 1 + 1 + 1, 0, none⟩ = some (.slice A3 l3.length c3) := (hc _ _ (by simp)).trans (five_3 _ _ _ _ _ _ _)
    have g7 : (((w1.alloc (.cells #[.int .i64 by_] 3)).alloc (.cells #[.bool is_] 4)).alloc (.cells #[Value.func (.func 29) #[] #[.pointer (some ⟨w1.heap.size + 1, 0, none⟩)], Value.func (.func 30) #[] #[.pointer (some ⟨w.heap.size + 1 + 1, 0, none⟩), .pointer (some ⟨w1.heap.size, 0, none⟩), .pointer (some ⟨w.heap.size + 1, 0, none⟩)], Value.func (.func 31) #[] #[.pointer (some ⟨w.heap.size + 1 + 1 + 1 + 1, 0, none⟩), .pointer (some ⟨w.heap.size + 1 + 1 + 1, 0, none⟩)]] 25)).cell? ⟨w.heap.size + 1 + 1 + 1, 0, none⟩ = some (.slice A3 l3.length c3) := pw_cell_below (below_alloc (below_alloc (below_alloc (Below.refl _ _) _) _) _) eg7
    clear eg7
    have eg8 : w1.cell? ⟨w.heap.size + 1 + 1 + 1 + 1, 0, none⟩ = some (.slice A4 l4.length c4) := (hc _ _ (by simp)).trans (five_4 _ _ _ _ _ _ _)
    have g8 : (((w1.alloc (.cells #[.int .i64 by_] 3)).alloc (.cells #[.bool is_] 4)).alloc (.cells #[Value.func (.func 29) #[] #[.pointer (some ⟨w1.heap.size + 1, 0, none⟩)], Value.func (.func 30) #[] #[.pointer (some ⟨w.heap.size + 1 + 1, 0, none⟩), .pointer (some ⟨w1.heap.size, 0, none⟩), .pointer (some ⟨w.heap.size + 1, 0, none⟩)], Value.func (.func 31) #[] #[.pointer (some ⟨w.heap.size + 1 + 1 + 1 + 1, 0, none⟩), .pointer (some ⟨w.heap.size + 1 + 1 + 1, 0, none⟩)]] 25)).cell? ⟨w.heap.size + 1 + 1 + 1 + 1, 0, none⟩ = some (.slice A4 l4.length c4) := pw_cell_below (below_alloc (below_alloc (below_alloc (Below.refl _ _) _) _) _) eg8
    clear eg8
    have HB3 : Aside0 (Below w.heap.size w (((w1.alloc (.cells #[.int .i64 by_] 3)).alloc (.cells #[.bool is_] 4)).alloc (.cells #[Value.func (.func 29) #[] #[.pointer (some ⟨w1.heap.size + 1, 0, none⟩)], Value.func (.func 30) #[] #[.pointer (some ⟨w.heap.size + 1 + 1, 0, none⟩), .pointer (some ⟨w1.heap.size, 0, none⟩), .pointer (some ⟨w.heap.size + 1, 0, none⟩)], Value.func (.func 31) #[] #[.pointer (some ⟨w.heap.size + 1 + 1 + 1 + 1, 0, none⟩), .pointer (some ⟨w.heap.size + 1 + 1 + 1, 0, none⟩)]] 25))) := ⟨by repeat (first | exact HB.out | apply below_alloc)⟩
    generalize ((w1.alloc (.cells #[.int .i64 by_] 3)).alloc (.cells #[.bool is_] 4)).alloc (.cells #[Value.func (.func 29) #[] #[.pointer (some ⟨w1.heap.size + 1, 0, none⟩)], Value.func (.func 30) #[] #[.pointer (some ⟨w.heap.size + 1 + 1, 0, none⟩), .pointer (some ⟨w1.heap.size, 0, none⟩), .pointer (some ⟨w.heap.size + 1, 0, none⟩)], Value.func (.func 31) #[] #[.pointer (some ⟨w.heap.size + 1 + 1 + 1 + 1, 0, none⟩), .pointer (some ⟨w.heap.size + 1 + 1 + 1, 0, none⟩)]] 25) = W3 at *
    clear HB hz hc hf
    have HH2 := HH.out
    clear HH
    cases is_ with
    | false =>
      rw [if_neg (by decide)] at HH2
      obtain rfl := Option.some.inj HH2
      clear HH2
      refine wp_loop_rounds 4 ?_
      rw [rounds_succ]
      go_wp2_with fail
      refine (none_one _ _ _ g1).mono ?_
      rintro e w2 ⟨rfl, rfl⟩
      go_wp2
      go_ret
      exact ⟨rfl, HB3.out⟩
    | true =>
      rw [if_pos rfl] at HH2
      by_cases h1 : by_ < a2
      · rw [if_pos h1] at HH2
        obtain rfl := Option.some.inj HH2
        have d1 : decide (by_ < a2) = true := decide_eq_true h1
        clear HH2 h1
        refine wp_loop_rounds 4 ?_
        rw [rounds_succ]
        go_wp2_with fail
        refine (none_one _ _ _ g1).mono ?_
        rintro e w2 ⟨rfl, rfl⟩
        go_wp2
        rw [rounds_succ]
        go_wp2_with fail
        refine (time_one _ _ _ _ _ _ _ g6 g0 g5).mono ?_
        rintro e w2 ⟨rfl, rfl⟩
        go_wp2
        go_ret
        exact ⟨rfl, HB3.out⟩
      · rw [if_neg h1] at HH2
        have d1 : decide (by_ < a2) = false := decide_eq_false h1
        by_cases h2 : a2 < a1
        · rw [if_pos h2] at HH2
          obtain rfl := Option.some.inj HH2
          have d2 : decide (a2 < a1) = true := decide_eq_true h2
          clear HH2 h1 h2
          refine wp_loop_rounds 4 ?_
          rw [rounds_succ]
          go_wp2_with fail
          refine (none_one _ _ _ g1).mono ?_
          rintro e w2 ⟨rfl, rfl⟩
          go_wp2
          rw [rounds_succ]
          go_wp2_with fail
          refine (time_one _ _ _ _ _ _ _ g6 g0 g5).mono ?_
          rintro e w2 ⟨rfl, rfl⟩
          go_wp2
          go_ret
          exact ⟨rfl, HB3.out⟩
        · rw [if_neg h2] at HH2
          have d2 : decide (a2 < a1) = false := decide_eq_false h2
          clear h1 h2
          have HT := Aside0.mk (told_all _ _ A3 A4 c3 c4 l3 l4 _ g8 g7 (Kd.C_below HR3.out HB3.out) HC3.out (Kd.C_below HR4.out HB3.out) HC4.out)
          generalize counts l3 l4 = b at *
          cases b with
          | true =>
            rw [if_pos rfl] at HH2
            obtain rfl := Option.some.inj HH2
            clear HH2
            refine wp_loop_rounds 4 ?_
            rw [rounds_succ]
            go_wp2_with fail
            refine (none_one _ _ _ g1).mono ?_
            rintro e w2 ⟨rfl, rfl⟩
            go_wp2
            rw [rounds_succ]
            go_wp2_with fail
            refine (time_one _ _ _ _ _ _ _ g6 g0 g5).mono ?_
            rintro e w2 ⟨rfl, rfl⟩
            go_wp2
            rw [rounds_succ]
            go_wp2_with fail
            refine HT.out.mono ?_
            rintro e w2 ⟨rfl, hb2⟩
            go_wp2
            rw [rounds_succ]
            go_wp2
            go_ret
            exact ⟨rfl, below_step HB3.out hb2⟩
          | false =>
            rw [if_neg (by decide)] at HH2
            obtain rfl := Option.some.inj HH2
            clear HH2
            refine wp_loop_rounds 4 ?_
            rw [rounds_succ]
            go_wp2_with fail
            refine (none_one _ _ _ g1).mono ?_
            rintro e w2 ⟨rfl, rfl⟩
            go_wp2
            rw [rounds_succ]
            go_wp2_with fail
            refine (time_one _ _ _ _ _ _ _ g6 g0 g5).mono ?_
            rintro e w2 ⟨rfl, rfl⟩
            go_wp2
            rw [rounds_succ]
            go_wp2_with fail
            refine HT.out.mono ?_
            rintro e w2 ⟨rfl, hb2⟩
            go_wp2
            go_ret
            exact ⟨rfl, below_step HB3.out hb2⟩
end Go.Proofs.Ytjagffhmdafnmaa.X
