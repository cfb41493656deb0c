/- Lemmas of this claim, proved by hand: 'found', 'Value'. -/
import Derived.Test.YtlhaaccdiienbaaEFound
namespace Go.Proofs.Ytlhaaccdiienbaa.X
open Go.RowKit Go.WideMaps Go.Maps Go.Proofs.YtlhaaccdiienbaaW.PrintWords Go.Proofs.YtlhaaccdiienbaaW.PrintLast Go.Proofs.YtlhaaccdiienbaaW.PrintMore
set_option linter.unusedVariables false

theorem may_names {k : Nat} {a0_0 a0_1 a0_2 a0_3 a0_4 a0_5 : ByteArray} {a0_6 : Int} {l0_7 : List S65} (h : order_May.f k a0_0 a0_1 a0_2 a0_3 a0_4 a0_5 a0_6 l0_7 = some true) (j : Nat) (hj : j < l0_7.length) : nameB (rd_T65 l0_7 (j : Int)).f0 = true := by
  have := may_lines _ _ _ _ _ _ _ _ _ _ _ _ h
  unfold linesB at this
  rw [Bool.and_eq_true, List.all_eq_true] at this
  have := this.1 j (List.mem_range.mpr hj)
  unfold lineOk at this
  rw [Bool.and_eq_true] at this
  exact this.1
/-- The error of a search for consignments' lines. -/
def foundE (m : Bool) (num : ByteArray) (l : List S65) (cs : List S42) : Int :=
  if m = false then 1 else if cs.any (fun c => !ofB num c) = true then 1 else if cs.any (fun c => c.f3.any (fun x => (lineIn l l.length x.f0).f1 == 0)) = true then 4 else 0
def FoundPost (r : Int) (l : List S65) (w : World) (e : Ending) (w' : World) : Prop :=
  ∃ v, e = .returned (.tuple #[v, .int .i64 r]) ∧ Below w.heap.size w w' ∧ (r = 0 → ∃ b, v = .map (some b) ∧ w.heap.size ≤ b ∧ LineMap w' b l.length (lineIn l l.length))
theorem of_names {num : ByteArray} {c : S42} (h : ofB num c = true) (j : Nat) (hj : j < c.f3.length) : (rd_T67 c.f3 (j : Int)).f0.size ≤ maxLen := by
  unfold ofB at h
  rw [Bool.and_eq_true, Bool.not_eq_true', List.any_eq_false] at h
  have e : rd_T67 c.f3 (j : Int) = c.f3[j] := by simp only [rd_T67, Int.toNat_natCast, List.getD_eq_getElem?_getD, List.getElem?_eq_getElem hj, Option.getD_some]
  have := h.2 _ (List.getElem_mem hj)
  rw [e]
  unfold lotBad at this
  simp only [Bool.or_eq_true, Bool.not_eq_true', not_or, Bool.not_eq_false] at this
  exact nameB_size this.1
theorem rd42 (l : List S42) (j : Nat) (hj : j < l.length) : rd_T42 l (j : Int) = l[j] := by simp only [rd_T42, Int.toNat_natCast, List.getD_eq_getElem?_getD, List.getElem?_eq_getElem hj, Option.getD_some]
set_option maxHeartbeats 8000000 in
set_option maxRecDepth 100000 in
theorem found_calls (k : Nat) (a0_0 : ByteArray) (a0_1 : ByteArray) (a0_2 : ByteArray) (a0_3 : ByteArray) (a0_4 : ByteArray) (a0_5 : ByteArray) (a0_6 : Int) (A0_7 : Option Addr) (c0_7 : Nat) (l0_7 : List S65) (A1 : Option Addr) (c1 : Nat) (l1 : List S42) (m : Bool) (w : World) (hr0_7 : Kd.C k65 w A0_7 l0_7.length l0_7) (hc0_7 : l0_7.length ≤ c0_7) (hr1 : Kd.C k42 w A1 l1.length l1) (hc1 : l1.length ≤ c1) (h : order_May.f k a0_0 a0_1 a0_2 a0_3 a0_4 a0_5 a0_6 l0_7 = some m) :
    Calls Try.prog 73 #[.agg #[.string a0_0, .string a0_1, .string a0_2, .string a0_3, .string a0_4, .string a0_5, .int .i64 a0_6, .slice A0_7 l0_7.length c0_7], .slice A1 l1.length c1] w (FoundPost (foundE m a0_0 l0_7 l1) l0_7 w) := by
  have hu24 := Try.underlying24
  have hu42 := Try.underlying42
  have hu65 := Try.underlying65
  have hmf : ∀ (fn : Fn) (first cap : Array Value) (w : World), (Instr.makeFunc fn first cap).run Try.prog w = .ok (.func fn first cap) w := fun _ _ _ _ => rfl
  have hmm := @run_makeMap Try.prog
  have HR0 := Aside0.mk hr0_7
  have HC0 := Aside0.mk hc0_7
  have HR1 := Aside0.mk hr1
  have HC1 := Aside0.mk hc1
  have HM := Aside0.mk h
  have HN0 := Aside0.mk hr0_7.2.1
  have HN1 := Aside0.mk hr1.2.1
  clear hr0_7 hc0_7 hr1 hc1 h
  cases m with
  | false =>
    have hE : Aside0 (foundE false a0_0 l0_7 l1 = 1) := ⟨by unfold foundE; rw [if_pos rfl]⟩
    rw [hE.out]
    go_enter Try.func73, Try.ntmps73
    go_wp2_with fail
    refine (order_May.calls k a0_0 a0_1 a0_2 a0_3 a0_4 a0_5 a0_6 _ _ l0_7 _ _ (Kd.C_alloc HR0.out _) HC0.out HM.out).mono ?_
    rintro e w1 ⟨rfl, hb⟩
    have HB := Aside0.mk (below_step (w := w) (by repeat (first | exact Below.refl _ _ | apply below_alloc)) hb)
    clear hb
    go_wp2
    refine bodyPost_ret (results_tmp2 rfl _ _ _) rfl ?_
    exact ⟨_, rfl, HB.out, fun q => by cases q⟩
  | true =>
    have HA := Aside0.mk (fun (W : World) (hb : Below (w.alloc (.cells #[.string a0_0, .string a0_1, .string a0_2, .string a0_3, .string a0_4, .string a0_5, .int .i64 a0_6, .slice A0_7 l0_7.length c0_7] 24)).heap.size (w.alloc (.cells #[.string a0_0, .string a0_1, .string a0_2, .string a0_3, .string a0_4, .string a0_5, .int .i64 a0_6, .slice A0_7 l0_7.length c0_7] 24)) W) => con_contains ⟨w.heap.size, 0, none⟩ A1 c1 l1 (fun c => !ofB a0_0 c) W (Kd.C_below (Kd.C_alloc HR1.out _) hb) HC1.out
      ⟨fun V hb2 j hj S3 d3 hr hd => notof_one w.heap.size a0_0 a0_1 a0_2 a0_3 a0_4 a0_5 a0_6 A0_7 c0_7 l0_7 (rd_T42 l1 (j : Int)) S3 d3 V (blk_below (blk_below (blk_new w (.cells #[.string a0_0, .string a0_1, .string a0_2, .string a0_3, .string a0_4, .string a0_5, .int .i64 a0_6, .slice A0_7 l0_7.length c0_7] 24 (0, 0))) hb) hb2) hr hd⟩)
    cases e1 : l1.any (fun c => !ofB a0_0 c) with
    | true =>
      have hE : Aside0 (foundE true a0_0 l0_7 l1 = 1) := ⟨by unfold foundE; rw [if_neg (by decide), if_pos e1]⟩
      rw [hE.out]
      rw [e1] at HA
      clear e1
      go_enter Try.func73, Try.ntmps73
      go_wp2_with fail
      refine (order_May.calls k a0_0 a0_1 a0_2 a0_3 a0_4 a0_5 a0_6 _ _ l0_7 _ _ (Kd.C_alloc HR0.out _) HC0.out HM.out).mono ?_
      rintro e w1 ⟨rfl, hb⟩
      have HX := Aside0.mk hb
      have HB := Aside0.mk (below_step (w := w) (by repeat (first | exact Below.refl _ _ | apply below_alloc)) hb)
      clear hb
      go_wp2_with fail
      refine (HA.out w1 HX.out).mono ?_
      rintro e w2 ⟨rfl, hb⟩
      have HB2 := Aside0.mk (below_step HB.out hb)
      clear hb
      go_wp2
      refine bodyPost_ret (results_tmp2 rfl _ _ _) rfl ?_
      exact ⟨_, rfl, HB2.out, fun q => by cases q⟩
    | false =>
      rw [e1] at HA
      have HOf := Aside0.mk e1
      have HE : Aside0 (foundE true a0_0 l0_7 l1 = if l1.any (fun c => c.f3.any (fun x => (lineIn l0_7 l0_7.length x.f0).f1 == 0)) = true then 4 else 0) := ⟨by unfold foundE; rw [if_neg (by decide), if_neg (by rw [e1]; decide)]⟩
      clear e1
      generalize foundE true a0_0 l0_7 l1 = R at *
      go_enter Try.func73, Try.ntmps73
      go_wp2_with fail
      refine (order_May.calls k a0_0 a0_1 a0_2 a0_3 a0_4 a0_5 a0_6 _ _ l0_7 _ _ (Kd.C_alloc HR0.out _) HC0.out HM.out).mono ?_
      rintro e w1 ⟨rfl, hb⟩
      have HX := Aside0.mk hb
      have HB := Aside0.mk (below_step (w := w) (by repeat (first | exact Below.refl _ _ | apply below_alloc)) hb)
      have HK0 := Aside0.mk (blk_below (blk_new w (.cells #[.string a0_0, .string a0_1, .string a0_2, .string a0_3, .string a0_4, .string a0_5, .int .i64 a0_6, .slice A0_7 l0_7.length c0_7] 24 (0, 0))) hb)
      clear hb
      go_wp2_with fail
      refine (HA.out w1 HX.out).mono ?_
      rintro e w2 ⟨rfl, hb⟩
      have HB2 := Aside0.mk (below_step HB.out hb)
      have HK := Aside0.mk (blk_below HK0.out hb)
      clear hb HX HB HK0 HA
      have x7 : ∀ o1 o2 : Obj, ((w2.alloc o1).alloc o2).cell? ⟨w.heap.size, 7, none⟩ = some (.slice A0_7 l0_7.length c0_7) := fun o1 o2 => (blk_cell (blk_alloc (blk_alloc HK.out _) _) 7).trans rfl
      have HG := Aside0.mk (blk_lt HK.out)
      have HB3 : Aside0 (Below w.heap.size w ((w2.alloc (.map #[] 0)).alloc (.cells #[.map (some w2.heap.size)] 111))) := ⟨by repeat (first | exact HB2.out | apply below_alloc)⟩
      have HK3 : Aside0 (((w2.alloc (.map #[] 0)).alloc (.cells #[.map (some w2.heap.size)] 111)).heap[w.heap.size]? = some (.cells #[.string a0_0, .string a0_1, .string a0_2, .string a0_3, .string a0_4, .string a0_5, .int .i64 a0_6, .slice A0_7 l0_7.length c0_7] 24 (0, 0))) := ⟨blk_alloc (blk_alloc HK.out _) _⟩
      have HQ3 : Aside0 (((w2.alloc (.map #[] 0)).alloc (.cells #[.map (some w2.heap.size)] 111)).heap[w2.heap.size + 1]? = some (.cells #[.map (some w2.heap.size)] 111 (0, 0))) := ⟨by
        have := blk_new (w2.alloc (.map #[] 0)) (.cells #[.map (some w2.heap.size)] 111 (0, 0))
        rwa [show (w2.alloc (.map #[] 0)).heap.size = w2.heap.size + 1 by simp] at this⟩
      have HM3 : Aside0 (LineMap ((w2.alloc (.map #[] 0)).alloc (.cells #[.map (some w2.heap.size)] 111)) w2.heap.size 0 (lineIn l0_7 0)) := ⟨(LineMap.made w2 l0_7).below (below_alloc (Below.refl _ _) _) (by simp)⟩
      go_wp2
      clear HB2 HK x7
      go_loopg [23] (l0_7.length + 1) (fun kq v wr => ∃ j : Nat, v = .int .i64 j ∧ Aside0 (j + kq = l0_7.length + 1) ∧ Aside0 (j ≤ l0_7.length) ∧ Aside0 (Below w.heap.size w wr) ∧ Aside0 (wr.heap[w2.heap.size + 1]? = some (.cells #[.map (some w2.heap.size)] 111 (0, 0))) ∧ Aside0 (LineMap wr w2.heap.size j (lineIn l0_7 j)))
      case atStart => exact ⟨0, rfl, ⟨by omega⟩, ⟨by omega⟩, HB3, HQ3, HM3⟩
      case round =>
        obtain ⟨j, rfl, HJK, HJL, HB, HQ, HLM⟩ := hrel
        clear HB3 HK3 HQ3 HM3
        by_cases hj : j < l0_7.length
        · have c0b : decide ((j : Int) < (l0_7.length : Int)) = true := decide_eq_true (by omega)
          have c1b : decide (j < l0_7.length) = true := decide_eq_true hj
          have p0 : (0 ≤ (j : Int)) = True := eq_true (by omega)
          have q0 : ((j : Int) < (l0_7.length : Int)) = True := eq_true (by omega)
          have hw1 : Aside0 (wrap64 ((j : Int) + 1) = ((j + 1 : Nat) : Int)) := ⟨by have := HN0.out; unfold wrap64; omega⟩
          obtain ⟨ad, ee, hx0, hx1, hx2⟩ := at_T65 (Kd.C_below HR0.out HB.out) (j : Int) (by omega) (by omega)
          cases ee
          have HS := Aside0.mk (nameB_size (may_names HM.out j hj))
          have HST := Aside0.mk (lineIn_succ l0_7 j hj)
          obtain ⟨x, hx⟩ : ∃ x, x = rd_T65 l0_7 (j : Int) := ⟨_, rfl⟩
          rw [← hx] at hx0 hx1 hx2 HS HST
          clear hx
          try simp only [Int.toNat_natCast] at hx0 hx1 hx2
          have hq1 : ∀ o : Obj, (wr.alloc o).cell? ⟨w2.heap.size + 1, 0, none⟩ = some (.map (some w2.heap.size)) := fun o => pw_cell_below (below_alloc (Below.refl _ _) o) ((blk_cell HQ.out 0).trans rfl)
          obtain ⟨w4, hput, HM4, hg4⟩ := LineMap.put (HLM.out.below (below_alloc (Below.refl _ _) (.cells #[.string x.f0, .int .i64 x.f1, .int .i64 x.f2] 65)) HLM.out.lt) (by have := HN0.out; unfold maxLen; omega) x.f0 x HS.out
          have HG4 := Aside0.mk hg4
          have HM5 := Aside0.mk HM4
          have HJ := Aside0.mk hj
          clear hg4 HM4 hj
          go_wp2
          go_roundg (gk - 1)
          case measure => have := HJK.out; have := HJ.out; omega
          case rel =>
            refine ⟨j + 1, by first | rfl | (rw [hw1.out]), ⟨by have := HJK.out; have := HJ.out; omega⟩, ⟨HJ.out⟩, ⟨?_⟩, ⟨?_⟩, ⟨?_⟩⟩
            · have hB2 := below_alloc HB.out (.cells #[.string x.f0, .int .i64 x.f1, .int .i64 x.f2] 65)
              exact hB2.grown HG4.out hB2.size (fun j hj => by cases hj; exact Nat.le_of_lt HG.out)
            · have h1 := blk_alloc HQ.out (.cells #[.string x.f0, .int .i64 x.f1, .int .i64 x.f2] 65)
              exact (HG4.out.block _ (blk_lt h1) (by intro e; injection e with e; omega)).trans h1
            · rw [HST.out]; exact HM5.out
        · have c0b : decide ((j : Int) < (l0_7.length : Int)) = false := decide_eq_false (by omega)
          have c1b : decide (j < l0_7.length) = false := decide_eq_false hj
          have ej : j = l0_7.length := by have := HJL.out; omega
          have HLM2 : Aside0 (LineMap wr w2.heap.size l0_7.length (lineIn l0_7 l0_7.length)) := ⟨by rw [← ej]; exact HLM.out⟩
          clear hj ej HLM HJK HJL
          go_wp2
          have HBs := HB
          have HQs := HQ
          have HMs := HLM2
          clear HB HQ HLM2
          go_loopg [34] (l1.length + 1) (fun kq v wr => ∃ j : Nat, v = .int .i64 j ∧ Aside0 (j + kq = l1.length + 1) ∧ Aside0 (∀ q : Nat, q < j → (rd_T42 l1 (q : Int)).f3.any (fun x => (lineIn l0_7 l0_7.length x.f0).f1 == 0) = false) ∧ Aside0 (Below w.heap.size w wr) ∧ Aside0 (wr.heap[w2.heap.size + 1]? = some (.cells #[.map (some w2.heap.size)] 111 (0, 0))) ∧ Aside0 (LineMap wr w2.heap.size l0_7.length (lineIn l0_7 l0_7.length)))
          case atStart => exact ⟨0, rfl, ⟨by omega⟩, ⟨fun q hq => absurd hq (by omega)⟩, HBs, HQs, HMs⟩
          case round =>
            obtain ⟨i, rfl, HJK, HAll, HB, HQ, HLM⟩ := hrel
            clear HBs HQs HMs
            by_cases hi : i < l1.length
            · have c2b : decide ((i : Int) < (l1.length : Int)) = true := decide_eq_true (by omega)
              have c3b : decide (i < l1.length) = true := decide_eq_true hi
              have p0 : (0 ≤ (i : Int)) = True := eq_true (by omega)
              have q0 : ((i : Int) < (l1.length : Int)) = True := eq_true (by omega)
              have hw1 : Aside0 (wrap64 ((i : Int) + 1) = ((i + 1 : Nat) : Int)) := ⟨by have := HN1.out; unfold wrap64; omega⟩
              obtain ⟨ad, S3, d3, ee, hx0, hx1, hx2, hx3, hl3, hg3⟩ := at_T42 (Kd.C_below HR1.out HB.out) (i : Int) (by omega) (by omega)
              cases ee
              have HOC : Aside0 (ofB a0_0 (rd_T42 l1 (i : Int)) = true) := ⟨by
                have := HOf.out
                rw [List.any_eq_false] at this
                have := this _ (List.getElem_mem hi)
                rw [rd42 l1 i hi]
                simpa using this⟩
              have HCall : Aside0 (∀ o : Obj, Calls Try.prog 129 #[.slice S3 (rd_T42 l1 (i : Int)).f3.length d3, .func (.func 130) #[] #[.pointer (some ⟨w2.heap.size + 1, 0, none⟩)]] (wr.alloc o) fun e w' => e = .returned (.bool ((rd_T42 l1 (i : Int)).f3.any (fun x => (lineIn l0_7 l0_7.length x.f0).f1 == 0))) ∧ Below (wr.alloc o).heap.size (wr.alloc o) w') :=
                ⟨fun o => noline_contains ⟨w2.heap.size + 1, 0, none⟩ S3 d3 _ (fun x => (lineIn l0_7 l0_7.length x.f0).f1 == 0) _ (Kd.C_alloc hg3 _) hl3 ⟨fun V hb2 q hq => noline_one ⟨w2.heap.size + 1, 0, none⟩ w2.heap.size l0_7.length _ (rd_T67 (rd_T42 l1 (i : Int)).f3 (q : Int)) V ((blk_cell (blk_below (blk_alloc HQ.out o) hb2) 0).trans rfl) ((HLM.out.below (below_alloc (Below.refl _ _) o) HLM.out.lt).below hb2 (Nat.lt_of_lt_of_le HLM.out.lt (below_alloc (Below.refl wr.heap.size wr) o).size)) (of_names HOC.out q hq)⟩⟩
              have HR42 : Aside0 (rd_T42 l1 (i : Int) ∈ l1) := ⟨by rw [rd42 l1 i hi]; exact List.getElem_mem hi⟩
              generalize hcc : rd_T42 l1 (i : Int) = c at *
              have HCC := Aside0.mk hcc
              clear hcc
              try simp only [Int.toNat_natCast] at hx0 hx1 hx2 hx3
              have HI := Aside0.mk hi
              clear hi hg3 hl3
              cases hb_ : c.f3.any (fun x => (lineIn l0_7 l0_7.length x.f0).f1 == 0) with
              | true =>
                rw [hb_] at HCall
                have HBB := Aside0.mk hb_
                have HEx : Aside0 ((if l1.any (fun c => c.f3.any (fun x => (lineIn l0_7 l0_7.length x.f0).f1 == 0)) = true then (4 : Int) else 0) = 4) := ⟨by
                  rw [if_pos (List.any_eq_true.mpr ⟨c, HR42.out, hb_⟩)]⟩
                clear hb_
                go_wp2_with (go_at_call 129; refine (HCall.out _).mono ?_; rintro e w5 ⟨rfl, hb5⟩; have HB5 := Aside0.mk (below_step (below_alloc HB.out _) hb5); clear hb5)
                refine bodyPost_ret (results_tmp2 rfl _ _ _) rfl ?_
                rw [HE.out, HEx.out]
                exact ⟨_, rfl, HB5.out, fun q => by cases q⟩
              | false =>
                rw [hb_] at HCall
                have HBB := Aside0.mk hb_
                clear hb_
                go_wp2_with (go_at_call 129; refine (HCall.out _).mono ?_; rintro e w5 ⟨rfl, hb5⟩; have HB5 := Aside0.mk hb5; clear hb5)
                go_roundg (gk - 1)
                case measure => have := HJK.out; have := HI.out; omega
                case rel =>
                  refine ⟨i + 1, by first | rfl | (rw [hw1.out]), ⟨by have := HJK.out; have := HI.out; omega⟩, ⟨?_⟩, ⟨below_step (below_alloc HB.out _) HB5.out⟩, ⟨blk_below (blk_alloc HQ.out _) HB5.out⟩, ⟨(HLM.out.below (below_alloc (Below.refl _ _) _) HLM.out.lt).below HB5.out (Nat.lt_of_lt_of_le HLM.out.lt (below_alloc (Below.refl wr.heap.size wr) _).size)⟩⟩
                  intro q hq2
                  by_cases hqj : q = i
                  · subst hqj; rw [HCC.out]; exact HBB.out
                  · exact HAll.out q (by omega)
            · have c2b : decide ((i : Int) < (l1.length : Int)) = false := decide_eq_false (by omega)
              have c3b : decide (i < l1.length) = false := decide_eq_false hi
              have HEx : Aside0 ((if l1.any (fun c => c.f3.any (fun x => (lineIn l0_7 l0_7.length x.f0).f1 == 0)) = true then (4 : Int) else 0) = 0) := ⟨by
                rw [if_neg]
                rw [Bool.not_eq_true, List.any_eq_false]
                intro c hc
                obtain ⟨q, hq, rfl⟩ := List.getElem_of_mem hc
                have := HAll.out q (by omega)
                rw [rd42 l1 q hq] at this
                rw [this]; decide⟩
              have hq1 : wr.cell? ⟨w2.heap.size + 1, 0, none⟩ = some (.map (some w2.heap.size)) := (blk_cell HQ.out 0).trans rfl
              clear hi
              go_wp2
              refine bodyPost_ret (results_tmp2 rfl _ _ _) rfl ?_
              rw [HE.out, HEx.out]
              exact ⟨_, rfl, HB.out, fun _ => ⟨w2.heap.size, rfl, Nat.le_of_lt HG.out, HLM.out⟩⟩

theorem one_C (w : World) (b : Nat) (c : S42) (A : Option Addr) (d : Nat) (hB : w.heap[b]? = some (.cells #[.string c.f0, .int .i64 c.f1, .int .i64 c.f2, .slice A c.f3.length d] 42 (0, 0))) (hr : Kd.C k67 w A c.f3.length c.f3) (hd : c.f3.length ≤ d) : Kd.C k42 w (some ⟨b, 0, none⟩) [c].length [c] := by
  refine ⟨rfl, by simp, fun _ => ⟨_, rfl, fun j p hj => ?_⟩⟩
  cases j with
  | succ j => simp at hj
  | zero =>
    obtain rfl := Option.some.inj hj
    refine ⟨_, rfl, k42_mk w c hd hr, fun i u hu => ?_⟩
    rw [Nat.zero_mul, Nat.zero_add, add_plain]
    exact (blk_cell hB i).trans (by rw [List.getElem?_toArray]; exact hu)
/-- The worth of lots, one after the other. -/
def valueL (F : ByteArray → S65) : List S67 → Int → Int × Int
  | [], n => (n, 0)
  | x :: r, n => if 1099511627776 < wrap64 (n + wrap64 (x.f1 * (F x.f0).f2)) then (0, 3) else valueL F r (wrap64 (n + wrap64 (x.f1 * (F x.f0).f2)))
def order_Value.f (k : Nat) (a0_0 : ByteArray) (a0_1 : ByteArray) (a0_2 : ByteArray) (a0_3 : ByteArray) (a0_4 : ByteArray) (a0_5 : ByteArray) (a0_6 : Int) (l0_7 : List S65) (a1_0 : ByteArray) (a1_1 : Int) (a1_2 : Int) (l1_3 : List S67) : Option (Int × Int) :=
  (order_May.f k a0_0 a0_1 a0_2 a0_3 a0_4 a0_5 a0_6 l0_7).bind fun m => if foundE m a0_0 l0_7 [⟨a1_0, a1_1, a1_2, l1_3⟩] = 0 then some (valueL (lineIn l0_7 l0_7.length) l1_3 0) else some (0, foundE m a0_0 l0_7 [⟨a1_0, a1_1, a1_2, l1_3⟩])
theorem order_Value.mono : ∀ a0_0 a0_1 a0_2 a0_3 a0_4 a0_5 a0_6 l0_7 a1_0 a1_1 a1_2 l1_3 k, LeO (order_Value.f k a0_0 a0_1 a0_2 a0_3 a0_4 a0_5 a0_6 l0_7 a1_0 a1_1 a1_2 l1_3) (order_Value.f (k + 1) a0_0 a0_1 a0_2 a0_3 a0_4 a0_5 a0_6 l0_7 a1_0 a1_1 a1_2 l1_3) := by
  intro a0_0 a0_1 a0_2 a0_3 a0_4 a0_5 a0_6 l0_7 a1_0 a1_1 a1_2 l1_3 k
  unfold order_Value.f
  refine LeO.bind (order_May.mono _ _ _ _ _ _ _ _ _) (fun _ => LeO.refl _)
theorem foundE_names {m : Bool} {num : ByteArray} {l : List S65} {c : S42} (h : foundE m num l [c] = 0) : ofB num c = true := by
  unfold foundE at h
  by_cases h1 : m = false
  · rw [if_pos h1] at h; cases h
  · rw [if_neg h1] at h
    by_cases h2 : [c].any (fun c => !ofB num c) = true
    · rw [if_pos h2] at h; cases h
    · simpa using h2
set_option maxHeartbeats 8000000 in
set_option maxRecDepth 100000 in
theorem order_Value.calls (k : Nat) (a0_0 : ByteArray) (a0_1 : ByteArray) (a0_2 : ByteArray) (a0_3 : ByteArray) (a0_4 : ByteArray) (a0_5 : ByteArray) (a0_6 : Int) (A0_7 : Option Addr) (c0_7 : Nat) (l0_7 : List S65) (a1_0 : ByteArray) (a1_1 : Int) (a1_2 : Int) (A1_3 : Option Addr) (c1_3 : Nat) (l1_3 : List S67) (r1 : Int) (r2 : Int) (w : World) (hr0_7 : Kd.C k65 w A0_7 l0_7.length l0_7) (hc0_7 : l0_7.length ≤ c0_7) (hr1_3 : Kd.C k67 w A1_3 l1_3.length l1_3) (hc1_3 : l1_3.length ≤ c1_3) (h : order_Value.f k a0_0 a0_1 a0_2 a0_3 a0_4 a0_5 a0_6 l0_7 a1_0 a1_1 a1_2 l1_3 = some (r1, r2)) :
    Calls Try.prog 31 #[.agg #[.string a0_0, .string a0_1, .string a0_2, .string a0_3, .string a0_4, .string a0_5, .int .i64 a0_6, .slice A0_7 l0_7.length c0_7], .agg #[.string a1_0, .int .i64 a1_1, .int .i64 a1_2, .slice A1_3 l1_3.length c1_3]] w fun e w' => e = .returned (.tuple #[.int .i64 r1, .int .i64 r2]) ∧ Below w.heap.size w w' := by
  have hu24 := Try.underlying24
  have hu42 := Try.underlying42
  have hu67 := Try.underlying67
  unfold order_Value.f at h
  obtain ⟨m, hm, h⟩ := Option.bind_eq_some_iff.mp h
  have HR0 := Aside0.mk hr0_7
  have HC0 := Aside0.mk hc0_7
  have HR1 := Aside0.mk hr1_3
  have HC1 := Aside0.mk hc1_3
  have HN1 := Aside0.mk hr1_3.2.1
  have HM := Aside0.mk hm
  have HF : Aside0 (∀ W b, Below w.heap.size w W → W.heap[b]? = some (.cells #[.string a1_0, .int .i64 a1_1, .int .i64 a1_2, .slice A1_3 l1_3.length c1_3] 42 (0, 0)) → Calls Try.prog 73 #[.agg #[.string a0_0, .string a0_1, .string a0_2, .string a0_3, .string a0_4, .string a0_5, .int .i64 a0_6, .slice A0_7 l0_7.length c0_7], .slice (some ⟨b, 0, none⟩) 1 1] W (FoundPost (foundE m a0_0 l0_7 [⟨a1_0, a1_1, a1_2, l1_3⟩]) l0_7 W)) :=
    ⟨fun W b hb hB => found_calls k a0_0 a0_1 a0_2 a0_3 a0_4 a0_5 a0_6 A0_7 c0_7 l0_7 (some ⟨b, 0, none⟩) 1 [⟨a1_0, a1_1, a1_2, l1_3⟩] m W (Kd.C_below hr0_7 hb) hc0_7 (one_C W b ⟨a1_0, a1_1, a1_2, l1_3⟩ A1_3 c1_3 hB (Kd.C_below hr1_3 hb) hc1_3) (by simp) hm⟩
  have HH := Aside0.mk h
  have HNm : Aside0 (foundE m a0_0 l0_7 [⟨a1_0, a1_1, a1_2, l1_3⟩] = 0 → ∀ (j : Nat), j < l1_3.length → (rd_T67 l1_3 (j : Int)).f0.size ≤ maxLen) := ⟨fun e j hj => of_names (foundE_names e) j hj⟩
  clear hr0_7 hc0_7 hr1_3 hc1_3 hm h
  generalize foundE m a0_0 l0_7 [⟨a1_0, a1_1, a1_2, l1_3⟩] = R at *
  go_enter Try.func31, Try.ntmps31
  go_wp2_with fail
  refine (HF.out _ _ (by repeat (first | exact Below.refl _ _ | apply below_alloc)) (by
    have hq := blk_new ((w.alloc (.cells #[.string a0_0, .string a0_1, .string a0_2, .string a0_3, .string a0_4, .string a0_5, .int .i64 a0_6, .slice A0_7 l0_7.length c0_7] 24)).alloc (.cells #[.string a1_0, .int .i64 a1_1, .int .i64 a1_2, .slice A1_3 l1_3.length c1_3] 42)) (.cells #[.string a1_0, .int .i64 a1_1, .int .i64 a1_2, .slice A1_3 l1_3.length c1_3] 42 (0, 0))
    rwa [show ((w.alloc (.cells #[.string a0_0, .string a0_1, .string a0_2, .string a0_3, .string a0_4, .string a0_5, .int .i64 a0_6, .slice A0_7 l0_7.length c0_7] 24)).alloc (.cells #[.string a1_0, .int .i64 a1_1, .int .i64 a1_2, .slice A1_3 l1_3.length c1_3] 42)).heap.size = w.heap.size + 1 + 1 by simp] at hq)).mono ?_
  rintro e w1 ⟨v, rfl, hb, hv⟩
  have HB := Aside0.mk (below_step (w := w) (by repeat (first | exact Below.refl _ _ | apply below_alloc)) hb)
  have HK : Aside0 (w1.heap[w.heap.size + 1]? = some (.cells #[.string a1_0, .int .i64 a1_1, .int .i64 a1_2, .slice A1_3 l1_3.length c1_3] 42 (0, 0))) := ⟨by
    have hq := blk_new (w.alloc (.cells #[.string a0_0, .string a0_1, .string a0_2, .string a0_3, .string a0_4, .string a0_5, .int .i64 a0_6, .slice A0_7 l0_7.length c0_7] 24)) (.cells #[.string a1_0, .int .i64 a1_1, .int .i64 a1_2, .slice A1_3 l1_3.length c1_3] 42 (0, 0))
    rw [show (w.alloc (.cells #[.string a0_0, .string a0_1, .string a0_2, .string a0_3, .string a0_4, .string a0_5, .int .i64 a0_6, .slice A0_7 l0_7.length c0_7] 24)).heap.size = w.heap.size + 1 by simp] at hq
    exact blk_below (blk_alloc hq _) hb⟩
  clear hb
  have HV := Aside0.mk hv
  clear hv
  by_cases hR : R = 0
  · have HH2 := HH.out
    rw [if_pos hR] at HH2
    obtain ⟨b, rfl, hbb, hLM⟩ := HV.out hR
    have HS := Aside0.mk (HNm.out hR)
    have HL := Aside0.mk hLM
    have HQ := Aside0.mk (Option.some.inj HH2)
    have hne : (R != 0) = false := bne_eq_false_iff_eq.mpr hR
    have x3 : w1.cell? ⟨w.heap.size + 1, 3, none⟩ = some (.slice A1_3 l1_3.length c1_3) := (blk_cell HK.out 3).trans rfl
    generalize lineIn l0_7 l0_7.length = F at *
    clear hR HH HH2 hLM HV HNm HF hbb
    go_wp2
    go_loopg [8, 24] (l1_3.length + 1) (fun kq v8 v24 w' => ∃ (j : Nat) (n : Int), v24 = .int .i64 j ∧ v8 = .int .i64 n ∧ Aside0 (j + kq = l1_3.length + 1) ∧ Aside0 (valueL F (l1_3.drop j) n = (r1, r2)) ∧ Aside0 (Below w.heap.size w w') ∧ Aside0 (LineMap w' b l0_7.length F))
    case atStart => exact ⟨0, 0, rfl, rfl, ⟨by omega⟩, ⟨HQ.out⟩, HB, HL⟩
    case round =>
      obtain ⟨j, n, rfl, rfl, HJK, HA, HB2, HLM⟩ := hrel
      clear HB HL HQ
      by_cases hj : j < l1_3.length
      · have c0b : decide ((j : Int) < (l1_3.length : Int)) = true := decide_eq_true (by omega)
        have c1b : decide (j < l1_3.length) = true := decide_eq_true hj
        have p0 : (0 ≤ (j : Int)) = True := eq_true (by omega)
        have q0 : ((j : Int) < (l1_3.length : Int)) = True := eq_true (by omega)
        have hw1 : Aside0 (wrap64 ((j : Int) + 1) = ((j + 1 : Nat) : Int)) := ⟨by have := HN1.out; unfold wrap64; omega⟩
        obtain ⟨ad, ee, hx0, hx1⟩ := at_T67 (Kd.C_below HR1.out HB2.out) (j : Int) (by omega) (by omega)
        cases ee
        have HSz := Aside0.mk (HS.out j hj)
        have HD : Aside0 (l1_3.drop j = rd_T67 l1_3 (j : Int) :: l1_3.drop (j + 1)) := ⟨by
          rw [List.drop_eq_getElem_cons hj]
          congr 1
          simp only [rd_T67, Int.toNat_natCast, List.getD_eq_getElem?_getD, List.getElem?_eq_getElem hj, Option.getD_some]⟩
        have HA2 := HA.out
        rw [HD.out, valueL] at HA2
        generalize rd_T67 l1_3 (j : Int) = x at *
        try simp only [Int.toNat_natCast] at hx0 hx1
        have HJ := Aside0.mk hj
        clear hj HA HD
        have hlook := (HLM.out.below (below_alloc (Below.refl _ _) (.cells #[.string x.f0, .int .i64 x.f1] 67)) HLM.out.lt).look x.f0 HSz.out
        have hfl := field_2 (F x.f0).f0 (F x.f0).f1 (F x.f0).f2
        by_cases hc : 1099511627776 < wrap64 (n + wrap64 (x.f1 * (F x.f0).f2))
        · rw [if_pos hc] at HA2
          have d1 : decide (1099511627776 < wrap64 (n + wrap64 (x.f1 * (F x.f0).f2))) = true := decide_eq_true hc
          have HE := Aside0.mk HA2
          clear HA2 hc
          go_wp2
          refine bodyPost_ret (results_tmp2 rfl _ _ _) rfl ?_
          have h1 := HE.out
          injection h1 with h1 h2
          subst h1 h2
          exact ⟨rfl, below_alloc HB2.out _⟩
        · rw [if_neg hc] at HA2
          have d1 : decide (1099511627776 < wrap64 (n + wrap64 (x.f1 * (F x.f0).f2))) = false := decide_eq_false hc
          have HE := Aside0.mk HA2
          clear HA2 hc
          go_wp2
          go_roundg (gk - 1)
          case measure => have := HJK.out; have := HJ.out; omega
          case rel => exact ⟨j + 1, _, by first | rfl | (rw [hw1.out]), rfl, ⟨by have := HJK.out; have := HJ.out; omega⟩, HE, ⟨below_alloc HB2.out _⟩, ⟨HLM.out.below (below_alloc (Below.refl _ _) _) HLM.out.lt⟩⟩
      · have c0b : decide ((j : Int) < (l1_3.length : Int)) = false := decide_eq_false (by omega)
        have c1b : decide (j < l1_3.length) = false := decide_eq_false hj
        have HE : Aside0 ((n, (0 : Int)) = (r1, r2)) := ⟨by
          have := HA.out
          rw [List.drop_eq_nil_of_le (by omega)] at this
          exact this⟩
        clear hj HA
        go_wp2
        refine bodyPost_ret (results_tmp2 rfl _ _ _) rfl ?_
        have h1 := HE.out
        injection h1 with h1 h2
        subst h1 h2
        exact ⟨rfl, HB2.out⟩
  · have HH2 := HH.out
    rw [if_neg hR] at HH2
    have HQ := Aside0.mk (Option.some.inj HH2)
    have hne : (R != 0) = true := bne_iff_ne.mpr hR
    clear hR HH HH2 HV HNm HF
    go_wp2
    refine bodyPost_ret (results_tmp2 rfl _ _ _) rfl ?_
    have h1 := HQ.out
    injection h1 with h1 h2
    subst h1 h2
    exact ⟨rfl, HB.out⟩
end Go.Proofs.Ytlhaaccdiienbaa.X
