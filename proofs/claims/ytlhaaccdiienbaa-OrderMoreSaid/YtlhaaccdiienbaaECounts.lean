/- Lemmas of this claim, proved by hand: 'counts': how much of each good a row of lots has, as a map. -/
import Derived.Test.YtlhaaccdiienbaaELines
import Derived.Sort.KeysCollected
namespace Go.Proofs.Ytlhaaccdiienbaa.X
open Go.RowKit Go.WideMaps Go.Maps Go.Proofs.YtlhaaccdiienbaaW.PrintWords Go.Proofs.YtlhaaccdiienbaaW.PrintLast Go.Proofs.YtlhaaccdiienbaaW.PrintMore
set_option linter.unusedVariables false

theorem zeroI (w : World) : (zeroValue 3).run Try.prog w = .ok (.int .i64 0) w := by kernel_rfl
def anyElemC (v : Value) : Option (DataW Value × List MemPlace) := some (.held v, [])
/-- Block b is a map that tells of each good a count; ks are its keys. -/
def CntMap (w : World) (b n : Nat) (f : ByteArray → Int) (ks : List (List UInt8)) : Prop :=
  ∃ D : DataW Value, w.ownsMap Try.prog 9 anyElemC b n D ∧ IsMap D ∧ (∀ s : ByteArray, D.atKey (.string s.data.toList) (.held (.int .i64 0)) = .held (.int .i64 (f s))) ∧ (strKeys D).Perm ks
set_option maxRecDepth 100000 in
theorem CntMap.made (w : World) : CntMap (w.alloc (.map #[] 0)) w.heap.size 0 (fun _ => 0) [] :=
  ⟨.map [], World.ownsMap_made _ _ _ _, ⟨[], rfl⟩, fun _ => rfl, List.Perm.refl _⟩
theorem CntMap.below {w w' : World} {b n B : Nat} {f : ByteArray → Int} {ks : List (List UInt8)} (h : CntMap w b n f ks) (hb : Below B w w') (hB : b < B) : CntMap w' b n f ks := by
  obtain ⟨D, ⟨es, cl, h1, h2⟩, h3⟩ := h
  exact ⟨D, ⟨es, cl, (hb.block b hB).trans h1, h2⟩, h3⟩
theorem CntMap.lt {w : World} {b n : Nat} {f : ByteArray → Int} {ks : List (List UInt8)} (h : CntMap w b n f ks) : b < w.heap.size := by
  obtain ⟨D, h1, _⟩ := h
  exact h1.lt
set_option maxRecDepth 100000 in
theorem CntMap.look {w : World} {b n : Nat} {f : ByteArray → Int} {ks : List (List UInt8)} (h : CntMap w b n f ks) (s : ByteArray) (hs : s.size ≤ maxLen) :
    (Instr.lookup 114 (.map (some b)) (.string s) false).run Try.prog w = .ok (.int .i64 (f s)) w := by
  obtain ⟨D, h1, hm, h2, _⟩ := h
  obtain ⟨v, ps, hrun, hv⟩ := h1.lookup (kl := .string s.data.toList) lawS Try.underlying114 (zeroI w) rfl (keyOf_string_mk Try.underlying9 hs)
  rw [h2 s] at hv
  injection hv with hv
  injection hv with hv _
  injection hv with hv
  rw [hv] at hrun
  exact hrun
theorem strOf_filter (s : List UInt8) : ∀ es : List (Lit × DataW Value), (∀ p ∈ es, ∃ x, p.1 = .string x) → (es.filter (fun p => !p.1.sameKey (.string s))).map (fun p => strOf p.1) = (es.map (fun p => strOf p.1)).filter (fun k => decide (k ≠ s))
  | [] => fun _ => rfl
  | p :: r => fun h => by
    obtain ⟨x, hx⟩ := h p (List.mem_cons_self ..)
    have ih := strOf_filter s r (fun q hq => h q (List.mem_cons_of_mem _ hq))
    obtain ⟨k, v⟩ := p
    simp only at hx
    subst hx
    have e : (Lit.string x).sameKey (.string s) = decide (x = s) := by
      by_cases c : x = s <;> simp [Lit.sameKey, c]
    by_cases c : x = s
    · rw [List.filter_cons_of_neg (by show ¬ (!((Lit.string x).sameKey (.string s))) = true; rw [e, decide_eq_true c]; decide), List.map_cons, List.filter_cons_of_neg (by simp [strOf, c]), ih]
    · rw [List.filter_cons_of_pos (by simp [e, c]), List.map_cons, List.map_cons, List.filter_cons_of_pos (by simp [strOf, c]), ih]
set_option maxRecDepth 100000 in
theorem CntMap.put {w : World} {b n : Nat} {f : ByteArray → Int} {ks : List (List UInt8)} (h : CntMap w b n f ks) (hn : n < maxLen) (s : ByteArray) (x : Int) (hs : s.size ≤ maxLen) :
    ∃ w', (Instr.mapUpdate 114 (.map (some b)) (.string s) (.int .i64 x)).run Try.prog w = .ok () w' ∧ CntMap w' b (n + 1) (fun t => if t = s then x else f t) (s.data.toList :: ks.filter (fun k => decide (k ≠ s.data.toList))) ∧ w.grownBy w' (some b) := by
  obtain ⟨D, h1, hm, h2, hk⟩ := h
  obtain ⟨es0, he0, hK⟩ := h1.keysOf
  obtain ⟨w', hrun, h3, hg⟩ := h1.update (kl := .string s.data.toList) (val := .int .i64 x) lawS Try.underlying114 hn (keyOf_string_mk Try.underlying9 hs) rfl
  refine ⟨w', hrun, ⟨_, h3, ?_, ?_, ?_⟩, hg⟩
  · obtain ⟨es, rfl⟩ := hm; exact ⟨_, rfl⟩
  · intro t
    show _ = DataW.held (Value.int .i64 (if t = s then x else f t))
    by_cases ht : t = s
    · subst ht
      rw [atKey_put_same hm (show WideAt.IsKeyLit (.string t.data.toList) from trivial), if_pos rfl]
    · rw [atKey_put_other (fun e => ht (by cases s; cases t; injection e with e; exact congrArg _ (Array.toList_inj.mp e))) _ _, h2 t, if_neg ht]
  · subst he0
    have hst : ∀ p ∈ es0, ∃ x, p.1 = .string x := by
      intro p hp
      have h := hK p hp
      obtain ⟨key, hkey⟩ := h
      obtain ⟨x, _, hx, _⟩ := Maps.keyOf_str Try.underlying9 hkey
      exact ⟨x, hx⟩
    show ((DataW.insert (.string s.data.toList, _) (es0.filter fun p => !p.1.sameKey (.string s.data.toList))).map fun p => strOf p.1).Perm _
    refine ((WideShapes.insert_perm _ _).map _).trans ?_
    rw [List.map_cons, strOf_filter _ _ hst]
    exact (hk.filter _).cons _
def cntTo (l : List S67) : Nat → ByteArray → Int
  | 0 => fun _ => 0
  | j + 1 => fun t => if (rd_T67 l (j : Int)).f1 > 0 then (if t = (rd_T67 l (j : Int)).f0 then wrap64 (cntTo l j (rd_T67 l (j : Int)).f0 + (rd_T67 l (j : Int)).f1) else cntTo l j t) else cntTo l j t
def keyTo (l : List S67) : Nat → List (List UInt8)
  | 0 => []
  | j + 1 => if (rd_T67 l (j : Int)).f1 > 0 then (rd_T67 l (j : Int)).f0.data.toList :: (keyTo l j).filter (fun k => decide (k ≠ (rd_T67 l (j : Int)).f0.data.toList)) else keyTo l j
theorem keyTo_len (l : List S67) : ∀ j, (keyTo l j).length ≤ j
  | 0 => Nat.le_refl _
  | j + 1 => by
    have h := keyTo_len l j
    unfold keyTo
    split
    · rw [List.length_cons]; have := List.length_filter_le (fun k => decide (k ≠ (rd_T67 l (j : Int)).f0.data.toList)) (keyTo l j); omega
    · omega

set_option maxHeartbeats 8000000 in
set_option maxRecDepth 100000 in
theorem counts_calls (A0 : Option Addr) (c0 : Nat) (l0 : List S67) (w : World) (hr0 : Kd.C k67 w A0 l0.length l0) (hc0 : l0.length ≤ c0) (hl : l0.length ≤ 100000) (hs : ∀ j : Nat, j < l0.length → (rd_T67 l0 (j : Int)).f0.size ≤ maxLen) :
    Calls Try.prog 74 #[.slice A0 l0.length c0] w fun e w' => ∃ b, e = .returned (.map (some b)) ∧ w.heap.size ≤ b ∧ CntMap w' b l0.length (cntTo l0 l0.length) (keyTo l0 l0.length) ∧ Below w.heap.size w w' := by
  have hu67 := Try.underlying67
  have hmm := @run_makeMap Try.prog
  have HR0 := Aside0.mk hr0
  have HC0 := Aside0.mk hc0
  have HN0 := Aside0.mk hl
  have HS0 := Aside0.mk hs
  clear hr0 hc0 hl hs
  have HM3 : Aside0 (CntMap (w.alloc (.map #[] 0)) w.heap.size 0 (cntTo l0 0) (keyTo l0 0)) := ⟨CntMap.made w⟩
  have HB3 : Aside0 (Below w.heap.size w (w.alloc (.map #[] 0))) := ⟨below_alloc (Below.refl _ _) _⟩
  go_enter Try.func74, Try.ntmps74
  go_wp2
  go_loopg [9] (l0.length + 1) (fun kq v wr => ∃ j : Nat, v = .int .i64 j ∧ Aside0 (j + kq = l0.length + 1) ∧ Aside0 (j ≤ l0.length) ∧ Aside0 (Below w.heap.size w wr) ∧ Aside0 (CntMap wr w.heap.size j (cntTo l0 j) (keyTo l0 j)))
  case atStart => exact ⟨0, rfl, ⟨by omega⟩, ⟨by omega⟩, HB3, HM3⟩
  case round =>
    obtain ⟨j, rfl, HJK, HJL, HB, HLM⟩ := hrel
    clear HB3 HM3
    by_cases hj : j < l0.length
    · have c0b : decide ((j : Int) < (l0.length : Int)) = true := decide_eq_true (by omega)
      have c1b : decide (j < l0.length) = true := decide_eq_true hj
      have p0 : (0 ≤ (j : Int)) = True := eq_true (by omega)
      have q0 : ((j : Int) < (l0.length : Int)) = True := eq_true (by omega)
      have hw1 : Aside0 (wrap64 ((j : Int) + 1) = ((j + 1 : Nat) : Int)) := ⟨by have := HN0.out; unfold wrap64; omega⟩
      obtain ⟨ad, ee, hx0, hx1⟩ := at_T67 (Kd.C_below HR0.out HB.out) (j : Int) (by omega) (by omega)
      cases ee
      have HS := Aside0.mk (HS0.out j hj)
      have hc1 : cntTo l0 (j + 1) = fun t => if (rd_T67 l0 (j : Int)).f1 > 0 then (if t = (rd_T67 l0 (j : Int)).f0 then wrap64 (cntTo l0 j (rd_T67 l0 (j : Int)).f0 + (rd_T67 l0 (j : Int)).f1) else cntTo l0 j t) else cntTo l0 j t := rfl
      have hk1 : keyTo l0 (j + 1) = if (rd_T67 l0 (j : Int)).f1 > 0 then (rd_T67 l0 (j : Int)).f0.data.toList :: (keyTo l0 j).filter (fun k => decide (k ≠ (rd_T67 l0 (j : Int)).f0.data.toList)) else keyTo l0 j := rfl
      have HST := Aside0.mk hc1
      have HKT := Aside0.mk hk1
      clear hc1 hk1
      obtain ⟨x, hx⟩ : ∃ x, x = rd_T67 l0 (j : Int) := ⟨_, rfl⟩
      rw [← hx] at hx0 hx1 HS HST HKT
      clear hx
      try simp only [Int.toNat_natCast] at hx0 hx1
      by_cases hp : x.f1 > 0
      · have d0 : decide (x.f1 > 0) = true := decide_eq_true hp
        have d1 : decide (0 < x.f1) = true := decide_eq_true hp
        have HM2 := Aside0.mk (HLM.out.below (below_alloc (Below.refl _ _) (.cells #[.string x.f0, .int .i64 x.f1] 67)) HLM.out.lt)
        have hlook := HM2.out.look x.f0 HS.out
        obtain ⟨w4, hput, HM4, hg4⟩ := CntMap.put HM2.out (by have := HN0.out; unfold maxLen; omega) x.f0 (wrap64 (cntTo l0 j x.f0 + x.f1)) HS.out
        have HG4 := Aside0.mk hg4
        have HM5 := Aside0.mk HM4
        have HJ := Aside0.mk hj
        have HP := Aside0.mk hp
        clear hg4 HM4 hj hp HM2
        go_wp2
        go_roundg (gk - 1)
        case measure => have := HJK.out; have := HJ.out; omega
        case rel =>
          refine ⟨j + 1, by first | rfl | (rw [hw1.out]), ⟨by have := HJK.out; have := HJ.out; omega⟩, ⟨HJ.out⟩, ⟨?_⟩, ⟨?_⟩⟩
          · have hB2 := below_alloc HB.out (.cells #[.string x.f0, .int .i64 x.f1] 67)
            exact hB2.grown HG4.out hB2.size (fun j hj => by cases hj; exact Nat.le_refl _)
          · rw [HST.out, HKT.out, if_pos HP.out]; simp only [if_pos HP.out]; exact HM5.out
      · have d0 : decide (x.f1 > 0) = false := decide_eq_false hp
        have d1 : decide (0 < x.f1) = false := decide_eq_false hp
        have HJ := Aside0.mk hj
        have HP := Aside0.mk hp
        clear hj hp
        go_wp2
        go_roundg (gk - 1)
        case measure => have := HJK.out; have := HJ.out; omega
        case rel =>
          refine ⟨j + 1, by first | rfl | (rw [hw1.out]), ⟨by have := HJK.out; have := HJ.out; omega⟩, ⟨HJ.out⟩, ⟨below_alloc HB.out _⟩, ⟨?_⟩⟩
          have hp : ¬ x.f1 > 0 := by have := HP.out; omega
          rw [HST.out, HKT.out, if_neg hp]; simp only [if_neg hp]
          obtain ⟨D, ⟨es, cl, a1, a2, a3, a4⟩, a5⟩ := HLM.out.below (below_alloc (Below.refl _ _) (.cells #[.string x.f0, .int .i64 x.f1] 67)) HLM.out.lt
          exact ⟨D, ⟨es, cl, a1, a2, by omega, a4⟩, a5⟩
    · have c0b : decide ((j : Int) < (l0.length : Int)) = false := decide_eq_false (by omega)
      have c1b : decide (j < l0.length) = false := decide_eq_false hj
      have ej : j = l0.length := by have := HJL.out; omega
      subst ej
      have HLM2 := Aside0.mk HLM.out
      clear hj
      go_wp2
      go_ret
      exact ⟨_, rfl, Nat.le_refl _, HLM2.out, HB.out⟩
end Go.Proofs.Ytlhaaccdiienbaa.X
