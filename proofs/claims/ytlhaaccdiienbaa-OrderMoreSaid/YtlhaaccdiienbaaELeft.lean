/- A lemma of this claim, proved by hand: what 'Left' answers. -/
import Derived.Test.YtlhaaccdiienbaaELeftA
import Derived.Maps.RangeWalk
import Derived.Sort.OwnSorted
namespace Go.Proofs.Ytlhaaccdiienbaa.X
open Go.RowKit Go.WideMaps Go.Maps Go.Proofs.YtlhaaccdiienbaaW.PrintWords Go.Proofs.YtlhaaccdiienbaaW.PrintLast Go.Proofs.YtlhaaccdiienbaaW.PrintMore
set_option linter.unusedVariables false

theorem LineMap.mono {w : World} {b n n' : Nat} {f : ByteArray → S65} (h : LineMap w b n f) (hn : n ≤ n') : LineMap w b n' f := by
  obtain ⟨D, ho, h2⟩ := h
  exact ⟨D, ho.mono hn, h2⟩
def InL (l : List S65) (F : ByteArray → S65) : Prop := ∀ s, (F s).f1 ≠ 0 → ∃ x ∈ l, x.f0 = s
theorem lineIn_in (l : List S65) (n : Nat) : InL l (lineIn l n) := by
  intro s hs
  unfold lineIn at hs
  cases h : (l.take n).reverse.find? (fun x => decide (x.f0 = s)) with
  | none => rw [h] at hs; exact absurd rfl hs
  | some x =>
    have h1 := List.find?_some h
    have h2 := List.mem_of_find?_eq_some h
    exact ⟨x, List.mem_of_mem_take (List.mem_reverse.mp h2), by simpa using h1⟩
theorem lessLot_in {l : List S65} {F : ByteArray → S65} (h : InL l F) (x : S67) (hx : ∃ y ∈ l, y.f0 = x.f0) : InL l (lessLot F x) := by
  intro s hs
  by_cases e : s = x.f0
  · subst e; exact hx
  · unfold lessLot at hs; rw [if_neg e] at hs; exact h s hs
theorem foundE_in {m : Bool} {num : ByteArray} {l : List S65} {cs : List S42} (e : foundE m num l cs = 0) (j : Nat) (hj : j < cs.length) (i : Nat) (hi : i < (rd_T42 cs (j : Int)).f3.length) : ∃ y ∈ l, y.f0 = (rd_T67 (rd_T42 cs (j : Int)).f3 (i : Int)).f0 := by
  rw [rd42 cs j hj] at hi ⊢
  rw [rdT67 _ i hi]
  unfold foundE at e
  by_cases h1 : m = false
  · rw [if_pos h1] at e; cases e
  · rw [if_neg h1] at e
    by_cases h2 : cs.any (fun c => !ofB num c) = true
    · rw [if_pos h2] at e; cases e
    · rw [if_neg h2] at e
      by_cases h3 : cs.any (fun c => c.f3.any (fun x => (lineIn l l.length x.f0).f1 == 0)) = true
      · rw [if_pos h3] at e; cases e
      · have h4 := Bool.not_eq_true _ ▸ h3
        rw [List.any_eq_false] at h4
        have h5 := h4 cs[j] (List.getElem_mem hj)
        have h6 := Bool.not_eq_true _ ▸ h5
        rw [List.any_eq_false] at h6
        have h7 := h6 (cs[j].f3[i]) (List.getElem_mem hi)
        exact lineIn_in l l.length _ (by simpa using h7)
theorem size_le {w : World} {b n : Nat} {D : DataW Value} (h : w.ownsMap Try.prog 9 anyElem b n D) : Maps.size D ≤ n := by
  obtain ⟨es, clock, hb, Fi, hs, rfl⟩ := h
  show (List.foldr DataW.insert [] _).length ≤ n
  rw [length_sorted]; simpa using hs
theorem has_of (D : DataW Value) (hD : IsMap D) (k : Lit) (z v : Value) (h : D.atKey k (.held z) = .held v) (hne : z ≠ v) : Maps.has D k = true := by
  obtain ⟨es, rfl⟩ := hD
  rw [Maps.has_eq]
  cases hq : es.any (fun p => p.1.sameKey k) with
  | true => rfl
  | false =>
    have hn : es.find? (fun p => p.1.sameKey k) = none := by
      rw [List.find?_eq_none]; intro p hp h2
      rw [List.any_eq_false] at hq
      exact hq p hp h2
    have e : (DataW.map es).atKey k (.held z) = .held z := by
      simp only [DataW.atKey, hn]
    rw [e] at h
    injection h with h
    exact absurd h hne
def leftV (l : List S65) : Option (ByteArray → S65) → List S67 × Int
  | none => ([], 3)
  | some F => (leftP l F, 0)
def leftOk (cs : List S42) : Prop := cs.length ≤ 100 ∧ ∀ c ∈ cs, c.f3.length ≤ 100
instance (cs : List S42) : Decidable (leftOk cs) := by unfold leftOk; infer_instance
def order_Left.f (k : Nat) (a0_0 : ByteArray) (a0_1 : ByteArray) (a0_2 : ByteArray) (a0_3 : ByteArray) (a0_4 : ByteArray) (a0_5 : ByteArray) (a0_6 : Int) (l0_7 : List S65) (l1 : List S42) : Option (List S67 × Int) :=
  (order_May.f k a0_0 a0_1 a0_2 a0_3 a0_4 a0_5 a0_6 l0_7).bind fun m => if leftOk l1 then (if foundE m a0_0 l0_7 l1 = 0 then some (leftV l0_7 (consGo (lineIn l0_7 l0_7.length) l1)) else some ([], foundE m a0_0 l0_7 l1)) else none
theorem order_Left.mono : ∀ a0_0 a0_1 a0_2 a0_3 a0_4 a0_5 a0_6 l0_7 l1 k, LeO (order_Left.f k a0_0 a0_1 a0_2 a0_3 a0_4 a0_5 a0_6 l0_7 l1) (order_Left.f (k + 1) a0_0 a0_1 a0_2 a0_3 a0_4 a0_5 a0_6 l0_7 l1) := by
  intro a0_0 a0_1 a0_2 a0_3 a0_4 a0_5 a0_6 l0_7 l1 k
  unfold order_Left.f
  refine LeO.bind (order_May.mono _ _ _ _ _ _ _ _ _) (fun _ => LeO.refl _)
set_option maxHeartbeats 8000000 in
set_option maxRecDepth 100000 in
theorem order_Left.calls (k : Nat) (a0_0 : ByteArray) (a0_1 : ByteArray) (a0_2 : ByteArray) (a0_3 : ByteArray) (a0_4 : ByteArray) (a0_5 : ByteArray) (a0_6 : Int) (A0_7 : Option Addr) (c0_7 : Nat) (l0_7 : List S65) (A1 : Option Addr) (c1 : Nat) (l1 : List S42) (r1 : List S67) (r2 : Int) (w : World) (hr0_7 : Kd.C k65 w A0_7 l0_7.length l0_7) (hc0_7 : l0_7.length ≤ c0_7) (hr1 : Kd.C k42 w A1 l1.length l1) (hc1 : l1.length ≤ c1) (h : order_Left.f k a0_0 a0_1 a0_2 a0_3 a0_4 a0_5 a0_6 l0_7 l1 = some (r1, r2)) :
    Calls Try.prog 30 #[.agg #[.string a0_0, .string a0_1, .string a0_2, .string a0_3, .string a0_4, .string a0_5, .int .i64 a0_6, .slice A0_7 l0_7.length c0_7], .slice A1 l1.length c1] w fun e w' => ∃ v0_ : Value, e = .returned (.tuple #[v0_, .int .i64 r2]) ∧ Kd.R k67 67 w' w.heap.size (fun _ => True) v0_ r1 ∧ Below w.heap.size w w' := by
  have hu24 := Try.underlying24
  have hu42 := Try.underlying42
  have hu65 := Try.underlying65
  have hu67 := Try.underlying67
  unfold order_Left.f at h
  obtain ⟨m, hm, h⟩ := Option.bind_eq_some_iff.mp h
  by_cases hok : leftOk l1
  · rw [if_pos hok] at h
    have HR0 := Aside0.mk hr0_7
    have HC0 := Aside0.mk hc0_7
    have HR1 := Aside0.mk hr1
    have HC1 := Aside0.mk hc1
    have HOK := Aside0.mk hok
    have HN0 : Aside0 (foundE m a0_0 l0_7 l1 = 0 → l0_7.length ≤ 64) := ⟨fun e => by
      unfold foundE at e
      cases m with
      | false => rw [if_pos rfl] at e; cases e
      | true =>
        have := may_lines _ _ _ _ _ _ _ _ _ _ _ _ hm
        unfold linesB at this
        simp only [Bool.and_eq_true, decide_eq_true_eq] at this
        exact this.2.2⟩
    have HF : Aside0 (∀ W, Below w.heap.size w W → Calls Try.prog 73 #[.agg #[.string a0_0, .string a0_1, .string a0_2, .string a0_3, .string a0_4, .string a0_5, .int .i64 a0_6, .slice A0_7 l0_7.length c0_7], .slice A1 l1.length c1] W (FoundPost (foundE m a0_0 l0_7 l1) l0_7 W)) :=
      ⟨fun W hb => found_calls k a0_0 a0_1 a0_2 a0_3 a0_4 a0_5 a0_6 A0_7 c0_7 l0_7 A1 c1 l1 m W (Kd.C_below hr0_7 hb) hc0_7 (Kd.C_below hr1 hb) hc1 hm⟩
    have HH := Aside0.mk h
    have HNm : Aside0 (foundE m a0_0 l0_7 l1 = 0 → ∀ (j : Nat), j < l1.length → ∀ i : Nat, i < (rd_T42 l1 (j : Int)).f3.length → (rd_T67 (rd_T42 l1 (j : Int)).f3 (i : Int)).f0.size ≤ maxLen) := ⟨fun e j hj i hi => by
      rw [rd42 l1 j hj] at hi ⊢
      refine of_names (num := a0_0) ?_ i hi
      unfold foundE at e
      by_cases h1 : m = false
      · rw [if_pos h1] at e; cases e
      · rw [if_neg h1] at e
        by_cases h2 : l1.any (fun c => !ofB a0_0 c) = true
        · rw [if_pos h2] at e; cases e
        · have h3 := Bool.not_eq_true _ ▸ h2
          rw [List.any_eq_false] at h3
          have := h3 l1[j] (List.getElem_mem hj)
          simpa using this⟩
    have HIn : Aside0 (foundE m a0_0 l0_7 l1 = 0 → ∀ (j : Nat), j < l1.length → ∀ i : Nat, i < (rd_T42 l1 (j : Int)).f3.length → ∃ y ∈ l0_7, y.f0 = (rd_T67 (rd_T42 l1 (j : Int)).f3 (i : Int)).f0) := ⟨fun e j hj i hi => foundE_in e j hj i hi⟩
    have HLen : Aside0 (∀ (j : Nat), j < l1.length → (rd_T42 l1 (j : Int)).f3.length ≤ 100) := ⟨fun j hj => by rw [rd42 l1 j hj]; exact hok.2 _ (List.getElem_mem hj)⟩
    clear hr0_7 hc0_7 hr1 hc1 hm h hok
    generalize foundE m a0_0 l0_7 l1 = R at *
    go_enter Try.func30, Try.ntmps30
    go_wp2_with fail
    refine (HF.out _ (by repeat (first | exact Below.refl _ _ | apply below_alloc))).mono ?_
    rintro e w1 ⟨v, rfl, hb, hv⟩
    have HB := Aside0.mk (below_step (w := w) (by repeat (first | exact Below.refl _ _ | apply below_alloc)) hb)
    clear hb
    have HV := Aside0.mk hv
    clear hv HF
    by_cases hR : R = 0
    · have HH2 := HH.out
      rw [if_pos hR] at HH2
      obtain ⟨b, rfl, hbb, hLM⟩ := HV.out hR
      have HS := Aside0.mk (HNm.out hR)
      have HL64 := Aside0.mk (HN0.out hR)
      have HLM0 := Aside0.mk hLM
      have HBB : Aside0 (w.heap.size ≤ b) := ⟨by simp at hbb; omega⟩
      have HQ := Aside0.mk (Option.some.inj HH2)
      have hne : (R != 0) = false := bne_eq_false_iff_eq.mpr hR
      have HI := Aside0.mk (HIn.out hR)
      have HP0 := Aside0.mk (lineIn_in l0_7 l0_7.length)
      clear hR HH HH2 hLM HV HNm HN0 hbb HIn
      generalize lineIn l0_7 l0_7.length = F0 at *
      go_wp2
      go_loopg [27] (l1.length + 1) (fun kq v wr => ∃ (j n : Nat) (F : ByteArray → S65), v = .int .i64 j ∧ Aside0 (j + kq = l1.length + 1) ∧ Aside0 (j ≤ l1.length) ∧ Aside0 (Below w.heap.size w wr) ∧ Aside0 (LineMap wr b n F) ∧ Aside0 (n ≤ l0_7.length + 100 * j) ∧ Aside0 (leftV l0_7 (consGo F (l1.drop j)) = (r1, r2)) ∧ Aside0 (InL l0_7 F))
      case atStart => exact ⟨0, l0_7.length, F0, rfl, ⟨by omega⟩, ⟨by omega⟩, HB, HLM0, ⟨by omega⟩, ⟨by rw [List.drop_zero]; exact HQ.out⟩, HP0⟩
      case round =>
        obtain ⟨j, n, F, rfl, HJK, HJL, HB1, HLM, HN, HA, HP⟩ := hrel
        obtain ⟨gk0, hgk0⟩ : ∃ g, g = gk := ⟨_, rfl⟩
        rw [← hgk0] at HJK
        have HGK := Aside0.mk hgk0
        clear hgk0
        clear HB HLM0 HQ HP0
        by_cases hj : j < l1.length
        · have c0b : decide ((j : Int) < (l1.length : Int)) = true := decide_eq_true (by omega)
          have c1b : decide (j < l1.length) = true := decide_eq_true hj
          have p0 : (0 ≤ (j : Int)) = True := eq_true (by omega)
          have q0 : ((j : Int) < (l1.length : Int)) = True := eq_true (by omega)
          have hw1 : Aside0 (wrap64 ((j : Int) + 1) = ((j + 1 : Nat) : Int)) := ⟨by have := HOK.out.1; unfold wrap64; omega⟩
          obtain ⟨ad, A3, c3, ee, hx0, hx1, hx2, hx3, hl3, hr3⟩ := at_T42 HR1.out (j : Int) (by omega) (by omega)
          cases ee
          replace hx0 := (HB1.out.cell (World.block_lt_of_cell? w _ hx0)).trans hx0
          replace hx1 := (HB1.out.cell (World.block_lt_of_cell? w _ hx1)).trans hx1
          replace hx2 := (HB1.out.cell (World.block_lt_of_cell? w _ hx2)).trans hx2
          replace hx3 := (HB1.out.cell (World.block_lt_of_cell? w _ hx3)).trans hx3
          have HSj := Aside0.mk (HS.out j hj)
          have HIj := Aside0.mk (HI.out j hj)
          have HLj := Aside0.mk (HLen.out j hj)
          have HD : Aside0 (l1.drop j = rd_T42 l1 (j : Int) :: l1.drop (j + 1)) := ⟨by rw [List.drop_eq_getElem_cons hj, rd42 l1 j hj]⟩
          have HA2 := HA.out
          rw [HD.out, consGo] at HA2
          have HA3 := Aside0.mk HA2
          have HR3 := Aside0.mk hr3
          have HC3 := Aside0.mk hl3
          have HJ := Aside0.mk hj
          clear hr3 hl3 hj HA HA2 HD
          generalize rd_T42 l1 (j : Int) = x at *
          try simp only [Int.toNat_natCast] at hx0 hx1 hx2 hx3
          go_wp2
          go_loopg [34] (x.f3.length + 1) (fun kq v wr2 => ∃ (i n2 : Nat) (G : ByteArray → S65), v = .int .i64 i ∧ Aside0 (i + kq = x.f3.length + 1) ∧ Aside0 (i ≤ x.f3.length) ∧ Aside0 (Below w.heap.size w wr2) ∧ Aside0 (LineMap wr2 b n2 G) ∧ Aside0 (n2 ≤ l0_7.length + 100 * j + i) ∧ Aside0 (leftV l0_7 ((lotsGo G (x.f3.drop i)).bind fun F' => consGo F' (l1.drop (j + 1))) = (r1, r2)) ∧ Aside0 (InL l0_7 G))
          case atStart => exact ⟨0, n, F, rfl, ⟨by omega⟩, ⟨by omega⟩, ⟨below_alloc HB1.out _⟩, ⟨HLM.out.below (below_alloc (Below.refl _ _) _) HLM.out.lt⟩, ⟨by have := HN.out; omega⟩, ⟨by rw [List.drop_zero]; exact HA3.out⟩, HP⟩
          case round =>
            obtain ⟨i, n2, G, rfl, HIK, HIL, HB2, HLM2, HN2, HA4, HP2⟩ := hrel
            by_cases hi : i < x.f3.length
            · have d0b : decide ((i : Int) < (x.f3.length : Int)) = true := decide_eq_true (by omega)
              have d1b : decide (i < x.f3.length) = true := decide_eq_true hi
              have p1 : (0 ≤ (i : Int)) = True := eq_true (by omega)
              have q1 : ((i : Int) < (x.f3.length : Int)) = True := eq_true (by omega)
              have hw2 : Aside0 (wrap64 ((i : Int) + 1) = ((i + 1 : Nat) : Int)) := ⟨by have := HLj.out; unfold wrap64; omega⟩
              obtain ⟨ad2, ee2, hy0, hy1⟩ := at_T67 (Kd.C_below HR3.out HB2.out) (i : Int) (by omega) (by omega)
              cases ee2
              have HSi := Aside0.mk (HSj.out i hi)
              have HIi := Aside0.mk (HIj.out i hi)
              have HD2 : Aside0 (x.f3.drop i = rd_T67 x.f3 (i : Int) :: x.f3.drop (i + 1)) := ⟨by rw [List.drop_eq_getElem_cons hi, rdT67 x.f3 i hi]⟩
              have HA5 := HA4.out
              rw [HD2.out, lotsGo] at HA5
              generalize rd_T67 x.f3 (i : Int) = y at *
              try simp only [Int.toNat_natCast] at hy0 hy1
              have HI2 := Aside0.mk hi
              clear hi HA4 HD2
              have hlook := (HLM2.out.below (below_alloc (Below.refl _ _) (.cells #[.string y.f0, .int .i64 y.f1] 67)) HLM2.out.lt).look y.f0 HSi.out
              by_cases hc : y.f1 > (G y.f0).f1
              · rw [if_pos hc] at HA5
                have e1 : decide (y.f1 > (G y.f0).f1) = true := decide_eq_true hc
                have e2 : decide ((G y.f0).f1 < y.f1) = true := decide_eq_true hc
                have HE := Aside0.mk HA5
                clear HA5 hc
                go_wp2
                refine bodyPost_ret (results_tmp2 rfl _ _ _) rfl ?_
                have h1 : (([] : List S67), (3 : Int)) = (r1, r2) := HE.out
                injection h1 with h1 h2
                subst h1 h2
                exact ⟨_, rfl, Kd.R_nil _ _ _ _ _, below_alloc (below_alloc HB2.out _) _⟩
              · rw [if_neg hc] at HA5
                have e1 : decide (y.f1 > (G y.f0).f1) = false := decide_eq_false hc
                have e2 : decide ((G y.f0).f1 < y.f1) = false := decide_eq_false hc
                have HE := Aside0.mk HA5
                clear HA5 hc
                obtain ⟨w4, hput, HM4, hg4⟩ := LineMap.put ((HLM2.out.below (below_alloc (Below.refl _ _) (.cells #[.string y.f0, .int .i64 y.f1] 67)) HLM2.out.lt).below (below_alloc (Below.refl _ _) (.cells #[.string (G y.f0).f0, .int .i64 (wrap64 ((G y.f0).f1 - y.f1)), .int .i64 (G y.f0).f2] 65)) (by have := HLM2.out.lt; simp; omega)) (by have := HN2.out; have := HL64.out; have := HOK.out.1; have := HLj.out; have := HJ.out; have := HI2.out; unfold maxLen; omega) y.f0 ⟨(G y.f0).f0, wrap64 ((G y.f0).f1 - y.f1), (G y.f0).f2⟩ HSi.out
                have HG4 := Aside0.mk hg4
                have HM5 : Aside0 (LineMap w4 b (n2 + 1) (lessLot G y)) := ⟨HM4⟩
                clear hg4 HM4
                go_wp2
                go_roundg (gk - 1)
                case measure => have := HIK.out; have := HI2.out; omega
                case rel =>
                  refine ⟨i + 1, n2 + 1, lessLot G y, by first | rfl | (rw [hw2.out]), ⟨by have := HIK.out; have := HI2.out; omega⟩, ⟨HI2.out⟩, ⟨?_⟩, HM5, ⟨by have := HN2.out; omega⟩, HE, ⟨lessLot_in HP2.out y HIi.out⟩⟩
                  have hB2 := below_alloc (below_alloc HB2.out (.cells #[.string y.f0, .int .i64 y.f1] 67)) (.cells #[.string (G y.f0).f0, .int .i64 (wrap64 ((G y.f0).f1 - y.f1)), .int .i64 (G y.f0).f2] 65)
                  exact hB2.grown HG4.out hB2.size (fun j hj => by cases hj; exact HBB.out)
            · have d0b : decide ((i : Int) < (x.f3.length : Int)) = false := decide_eq_false (by omega)
              have d1b : decide (i < x.f3.length) = false := decide_eq_false hi
              have HA5 : Aside0 (leftV l0_7 (consGo G (l1.drop (j + 1))) = (r1, r2)) := ⟨by
                have := HA4.out
                rw [List.drop_eq_nil_of_le (by omega)] at this
                exact this⟩
              have HIe : Aside0 (i = x.f3.length) := ⟨by have := HIL.out; omega⟩
              clear hi HA4
              go_wp2
              go_roundg (gk0 - 1)
              case measure => have := HGK.out; have := HJK.out; have := HJ.out; omega
              case rel => exact ⟨j + 1, n2, G, by first | rfl | (rw [hw1.out]), ⟨by have := HJK.out; have := HJ.out; omega⟩, ⟨HJ.out⟩, HB2, HLM2, ⟨by have := HN2.out; have := HIL.out; have := HLj.out; omega⟩, HA5, HP2⟩
        · have c0b : decide ((j : Int) < (l1.length : Int)) = false := decide_eq_false (by omega)
          have c1b : decide (j < l1.length) = false := decide_eq_false hj
          have HA2 : Aside0 (leftV l0_7 (some F) = (r1, r2)) := ⟨by
            have := HA.out
            rw [List.drop_eq_nil_of_le (by omega)] at this
            exact this⟩
          have HN3 : Aside0 (n ≤ 20000) := ⟨by have := HN.out; have := HL64.out; have := HOK.out.1; have := HJL.out; omega⟩
          clear hj HA HN HJK HJL HGK
          obtain ⟨D, hown, hIs, hat⟩ := HLM.out
          have HOwn := Aside0.mk hown
          have HAt := Aside0.mk hat
          have HIs := Aside0.mk hIs
          clear hown hIs hat
          have HSz := Aside0.mk (size_le HOwn.out)
          have hbl := HLM.out.lt
          have HBL := Aside0.mk hbl
          clear hbl
          go_wp2_with (first
            | (at_range; refine wpList_range_own _ rfl _ 111 rfl 9 65 lawS Try.underlying111 _ b n _ rfl HOwn.out ?_; intro w0 hrg0 hg0 hs0; have HRG0 := Aside0.mk hrg0; have HG0 := Aside0.mk hg0; clear hrg0 hg0 hs0)
            | go_in)
          try go_frame
          go_loopw [13] (fun v wr2 => ∃ (left : Lit → Bool) (cnt : Nat) (ss : List (List UInt8)), Aside0 (wr2.ranges Try.prog 9 anyElem b wr.heap.size n D left cnt) ∧ Aside0 (ss.length + cnt ≤ Maps.size D) ∧ Aside0 (Kd.R k67 67 wr2 wr.heap.size (fun _ => True) v (ss.map (fun k => lotOfF F ⟨k.toArray⟩))) ∧ Aside0 (Collected D left ss) ∧ Aside0 (Below wr.heap.size wr wr2))
            (fun _ wr2 => wr2.rangeLeft b wr.heap.size)
          case atStart => exact ⟨_, _, [], HRG0, ⟨by simp⟩, ⟨Kd.R_nil _ _ _ _ _⟩, ⟨Collected.start D⟩, ⟨(Below.refl _ _).grown HG0.out (Nat.le_refl _) (fun j hj => by cases hj)⟩⟩
          case round =>
            obtain ⟨left, cnt, ss, HRG, HCS, HO, HC, HBw⟩ := hrel
            go_wp2_with (first
              | (at_next; (refine wpList_next_ranges _ rfl _ rfl 9 lawS anyElem encStr (fun v => v) (fun key kl hk => by obtain ⟨x, hx, _⟩ := Maps.keyOf_str Try.underlying9 hk; exact ⟨x, hx⟩) (fun v y hv => ⟨v, rfl⟩) b _ n _ _ _ rfl HRG.out ?_ ?_))
              | go_in)
            · intro hc0 hl0
              have HL0 := Aside0.mk hl0
              clear hl0 hc0
              have HO9 := HO.out
              obtain ⟨out, hout⟩ : ∃ o, o = ss.map (fun k => lotOfF F ⟨k.toArray⟩) := ⟨_, rfl⟩
              rw [← hout] at HO9
              obtain ⟨A, c, rfl⟩ := Kd.R_slice HO9
              have hperm := HC.out.perm HOwn.out lawS Try.underlying9 HL0.out
              have HJ : Aside0 (goods_Join.f out = some (leftP l0_7 F)) := ⟨by
                rw [hout]
                unfold goods_Join.f
                rw [if_pos ⟨by have := HCS.out; have := HSz.out; have := HN3.out; rw [List.length_map]; omega, by
                  intro y hy
                  obtain ⟨k, hk, rfl⟩ := List.mem_map.mp hy
                  show k.toArray.size ≤ maxLen
                  rw [List.size_toArray]
                  exact strKeys_le HOwn.out Try.underlying9 k (hperm.mem_iff.mp hk)⟩]
                congr 1
                refine join_left l0_7 F ss HC.out.1 (fun s hs => ⟨?_, HP.out s (by omega)⟩)
                refine (HC.out.2 _).mpr ⟨has_of D HIs.out _ _ _ (HAt.out s) ?_, HL0.out _⟩
                intro e
                have h1 : z65.f1 = (F s).f1 := by injection e with e; simp [z65] at e ⊢; exact e.2.1
                rw [← h1] at hs
                exact absurd hs (by decide)⟩
              have HR := Kd.R_reads' HO9
              have HCr := Aside0.mk HR.2.2
              have HCc := Aside0.mk HR.2.1
              have HE := Aside0.mk HA2.out
              clear HR hperm HO9 HO hout
              go_wp2_with fail
              refine (goods_Join.calls A c out (leftP l0_7 F) _ HCr.out HCc.out HJ.out).mono ?_
              rintro e w5 ⟨v5, rfl, ho, hb5⟩
              have HO5 := Aside0.mk ho
              have HB5 := Aside0.mk hb5
              clear ho hb5
              go_wp2
              refine bodyPost_ret (results_tmp2 rfl _ _ _) rfl ?_
              have h1 : (leftP l0_7 F, (0 : Int)) = (r1, r2) := HE.out
              injection h1 with h1 h2
              subst h1 h2
              have hB6 : Below w.heap.size w _ := below_step HB1.out HBw.out
              exact ⟨_, rfl, Kd.R_lower HO5.out hB6.size, below_step hB6 HB5.out⟩
            · intro x c kl yd yp w2 cnt2 hkey hlk hv hat hrg2 hlt hg2 hs2 hen
              obtain ⟨x', ex, rfl, hx9⟩ := Maps.keyOf_str Try.underlying9 hkey
              obtain rfl : x = x' := encStr_inj ex
              have hc : c = lineV (F ⟨x.toArray⟩) := by
                have h1 := HAt.out ⟨x.toArray⟩
                have h2 := hat (.held (lineV z65))
                injection hv with hv
                injection hv with hv _
                rw [← hv] at h2
                have h3 : (DataW.held (lineV (F ⟨x.toArray⟩)) : DataW Value) = .held c := by rw [← h2, ← h1]
                injection h3 with h3
                exact h3.symm
              subst hc
              have HO2 : Aside0 (Kd.R k67 67 w2 _ (fun _ => True) _ (ss.map (fun k => lotOfF F ⟨k.toArray⟩))) := ⟨Kd.R_grown2 HO.out rfl hg2 (fun k hk => by
                injection hk with hk; subst hk
                obtain ⟨inner, ho⟩ := Kd.R_own HO.out
                exact row_ne_iter ho HRG.out)⟩
              have HRG2 := Aside0.mk hrg2
              have HLT := Aside0.mk hlt
              have HC2 := Aside0.mk (HC.out.step hlk hat)
              have HBw2 := Aside0.mk (HBw.out.grown hg2 HBw.out.size (fun j hj => by cases hj; exact Nat.le_refl _))
              clear hkey ex hlk hv hat hrg2 hlt hg2 hs2
              simp only [lineV, encStr] at hen ⊢
              go_wp2_with (first
                | (at_builtin; refine Kd.R_append k67 _ rfl (.tmp 66) (.tmp 71) 40 67 (.agg #[(.string ⟨#[]⟩), (.int .i64 0)]) 24 rfl Try.underlying40 info67 rfl (by decide) (by omega) _ (ss.map (fun k => lotOfF F ⟨k.toArray⟩)) (lotOfF F ⟨x.toArray⟩) [.string ⟨x.toArray⟩, .int .i64 (F ⟨x.toArray⟩).f1] (fun _ => True) (fun _ => False) rfl (by first | (go_simp; done) | (go_simp; rfl)) ?aP (fun _ hk => hk.elim) (fun _ _ => trivial) (Kd.R_alloc HO2.out _) (below_alloc HBw2.out _) (below_alloc HBw2.out _).size ?aL ?_; (case aP => exact k67_mkM _ _ _ (lotOfF F ⟨x.toArray⟩)); (case aL => have := HCS.out; have := HSz.out; have := HN3.out; rw [List.length_map]; omega); intro v7 w7 ho hb hg7 hat7; have HO7 := Aside0.mk ho; have HB7 := Aside0.mk hb; have HG7 := Aside0.mk hg7; clear ho hb hg7 hat7)
                | go_in)
              obtain ⟨inner, hown2⟩ := Kd.R_own (Kd.R_alloc HO2.out (.cells #[.string (F ⟨x.toArray⟩).f0, .int .i64 (F ⟨x.toArray⟩).f1, .int .i64 (F ⟨x.toArray⟩).f2] 65))
              have HRG3 := Aside0.mk ((HRG2.out.alloc (.cells #[.string (F ⟨x.toArray⟩).f0, .int .i64 (F ⟨x.toArray⟩).f1, .int .i64 (F ⟨x.toArray⟩).f2] 65)).kept HG7.out (row_ne_low hown2 HBL.out) (row_ne_iter hown2 (HRG2.out.alloc _)))
              go_roundw
              case rel => exact ⟨_, cnt2, ss ++ [x], HRG3, ⟨by have := HCS.out; have := HLT.out; rw [List.length_append]; simp; omega⟩, ⟨by rw [List.map_append]; exact HO7.out⟩, HC2, HB7⟩
              case measure => rw [HRG3.out.left_eq, HRG.out.left_eq]; exact HLT.out
    · have HH2 := HH.out
      rw [if_neg hR] at HH2
      have HQ := Aside0.mk (Option.some.inj HH2)
      have hne : (R != 0) = true := bne_iff_ne.mpr hR
      clear hR HH HH2 HV HNm HN0
      go_wp2
      refine bodyPost_ret (results_tmp2 rfl _ _ _) rfl ?_
      have h1 := HQ.out
      injection h1 with h1 h2
      subst h1 h2
      exact ⟨_, rfl, Kd.R_nil _ _ _ _ _, HB.out⟩
  · rw [if_neg hok] at h; cases h
end Go.Proofs.Ytlhaaccdiienbaa.X
