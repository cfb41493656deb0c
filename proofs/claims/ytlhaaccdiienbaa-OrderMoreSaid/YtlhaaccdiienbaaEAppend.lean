/- Lemmas of this claim, proved by hand: 'append(append([]T{}, xs...), y)' of elements that lead to rows, in a region that draws. -/
import Derived.Test.YtlhaaccdiienbaaX0
namespace Go.Proofs.Ytlhaaccdiienbaa.X
open Go.RowKit Go.Proofs.YtlhaaccdiienbaaW.PrintWords Go.Proofs.YtlhaaccdiienbaaW.PrintLast Go.Proofs.YtlhaaccdiienbaaW.PrintMore
set_option linter.unusedVariables false

/-- A kind whose elements are read as they stood in one world. -/
def kFix {α : Type} (W : World) (d : Kd α) : Kd α where
  sz := d.sz
  E := []
  K := fun _ x cs => d.K W x cs
  M := fun _ _ _ x cs => d.K W x cs
  K_len := fun h => d.K_len h
  K_one := fun h => d.K_one h
  K_below := fun _ h => h
  K_of_M := fun h => h
  M_mono := fun _ h => h
  M_bound := fun h => h
  M_move := fun _ h => h
  M_lower := fun _ h => h
theorem kFix_C {α : Type} {d : Kd α} {W w : World} {A : Option Addr} {n : Nat} {xs : List α} (h : (kFix W d).C w A n xs) (hb : Below W.heap.size W w) : d.C w A n xs :=
  ReadsRow.imp_ h (Below.refl _ _) (fun _ _ hp => d.K_below hb hp)
theorem kFix_of {α : Type} {d : Kd α} {W : World} {A : Option Addr} {n : Nat} {xs : List α} (h : d.C W A n xs) : (kFix W d).C W A n xs := h
theorem put_comm {a : Act} {M N : Tmp} (h : M ≠ N) (u v : Value) : (a.put (some M) u).put (some N) v = (a.put (some N) v).put (some M) u := by
  simp only [Act.put, Act.mk.injEq, and_true]
  exact Array.setIfInBounds_comm _ _ h
theorem eval_put_ne {a : Act} {M N : Tmp} (h : M ≠ N) (u : Value) : (a.put (some M) u).eval (.tmp N) = a.eval (.tmp N) := by
  simp only [Act.put, Act.eval]
  simp [Array.getD_eq_getD_getElem?, Array.getElem?_setIfInBounds_ne h]
theorem eval_put_eq {a : Act} {M : Tmp} (h : M < a.tmps.size) (u : Value) : (a.put (some M) u).eval (.tmp M) = u := by
  simp only [Act.put, Act.eval]
  simp [Array.getD_eq_getD_getElem?, h]
theorem put_size {a : Act} {M : Tmp} (u : Value) : (a.put (some M) u).tmps.size = a.tmps.size := by simp [Act.put]
/-- The literal, the row appended to it, and the literal of one element, in whatever order they come. -/
theorem append_orders {α : Type} {P : Program} {ops : Array Oper} {Q : Exit → Act → World → Prop} {md : Region.Mode} {S : World → Prop} {ds : List Nat} (d : Kd α)
    {i1 i3 i5 : Nat} {N1 N2 N3 N4 N5 : Tmp} {o1 o3 o5 : Oper} {t e : TypeId} {z : Value} {bytes : Nat} {fuel : Nat} {l : Array Bool} {a : Act} {W : World}
    (l1 l5 l13 l15 lF : Array Bool) (g1 : ops[i1]? = some o1) (g3 : ops[i3]? = some o3) (g5 : ops[i5]? = some o5)
    (n1 : o1.dst = some N1) (n3 : o3.dst = some N3) (n5 : o5.dst = some N5) (u1 : ∀ m, Region.wanted o1 m = true) (u3 : ∀ m, Region.wanted o3 m = true) (u5 : ∀ m, Region.wanted o5 m = true)
    (p3 : o3.op = .call { callee := .builtin .append, args := #[.tmp N1, .tmp N2], argTypes := #[t, t] })
    (c0 : (Region.ready md ops l == [i1, i5] && l.setIfInBounds i1 true == l1 && l.setIfInBounds i5 true == l5) = true)
    (c1 : (Region.ready md ops l1 == [i3, i5] && l1.setIfInBounds i3 true == l13 && l1.setIfInBounds i5 true == l15) = true)
    (c13 : readyB md ops l13 lF i5 = true) (c15 : readyB md ops l15 lF i3 = true) (c5 : readyB md ops l5 l15 i1 = true)
    (d1 : i1 ∉ ds) (d3 : i3 ∉ ds) (d5 : i5 ∉ ds) (s1 : N1 < a.tmps.size) (s3 : N3 < a.tmps.size) (s5 : N5 < a.tmps.size)
    (e12 : N1 ≠ N2) (e14 : N1 ≠ N4) (e15 : N1 ≠ N5) (e52 : N5 ≠ N2) (e34 : N3 ≠ N4) (e35 : N3 ≠ N5)
    (ht : P.underlying t = some (.slice e)) (hinfo : (P.info? e).map (fun i => (i.zero, i.size, i.bytes)) = some (some z, d.sz, bytes)) (hz : z.cells.size = d.sz) (hs0 : 0 < d.sz) (hb0 : 0 < bytes)
    (xs : List α) (y : α) (A : Option Addr) (c : Nat) (vy : Value) (cs : List Value) (h2 : a.eval (.tmp N2) = .slice A xs.length c) (h4 : a.eval (.tmp N4) = vy)
    (HX : d.C W A xs.length xs) (HY : d.K W y cs) (hl : xs.length * bytes ≤ 140737488355328)
    (run1 : ∀ (a' : Act) (W' : World), (execOp a'.eval o1).run P W' = .ok (.value (.slice (some ⟨W'.heap.size, 0, none⟩) 0 0)) (W'.alloc (.cells #[] e)))
    (run5 : ∀ (a' : Act) (W' : World), a'.eval (.tmp N4) = vy → (execOp a'.eval o5).run P W' = .ok (.value (.slice (some ⟨W'.heap.size, 0, none⟩) 1 1)) (W'.alloc (.cells cs.toArray e)))
    (hS : ∀ w', Below W.heap.size W w' → S w')
    (hcont : ∀ v1 v3 v5 w', Below W.heap.size W w' → (kFix W d).R e w' W.heap.size (fun _ => True) v3 xs → (∃ A5 c5, v5 = .slice A5 1 c5 ∧ 1 ≤ c5 ∧ (kFix W d).C w' A5 1 [y]) → wpAnyLast P md ops Q S ds fuel lF (((a.put (some N1) v1).put (some N3) v3).put (some N5) v5) w') :
    wpAnyLast P md ops Q S ds (fuel + 3) l a W := by
  have HRY : Reps (fun x cs => d.K W x cs) d.sz [y] cs := ⟨by rw [d.K_len HY]; simp, fun j p hj => by
    cases j with
    | zero =>
      obtain rfl : y = p := by simpa using hj
      rw [Nat.zero_mul, List.drop_zero, List.take_of_length_le (Nat.le_of_eq (d.K_len HY))]; exact HY
    | succ j => simp at hj⟩
  have E1 : ∀ (a' : Act) (w1 : World) (K : Act → World → Prop), Below W.heap.size W w1 → (∀ v w2, (kFix W d).R e w2 W.heap.size (fun k => k = w1.heap.size) v [] → Below w1.heap.size w1 w2 → K (a'.put (some N1) v) w2) → if Region.wanted o1 (yielded ops a'.tmps) = true then Oper.wp P o1 a' w1 K Q else K (a'.put (some N1) undef) w1 := by
    intro a' w1 K hb h
    rw [← n1]
    refine Kd.R_lit_step (kFix W d) (w0 := w1) (W := w1) w1.heap.size e (u1 _) n1 (xs := ([] : List α)) (inner := []) (ok := fun k => k = w1.heap.size) (okp := fun _ => False) (run1 a' w1) (Reps.none _ _) (fun _ hk => hk.elim) rfl (Below.refl _ _) (Nat.le_refl _) (by simp) ?_
    intro v w2 hr hb2 _ _
    rw [n1]
    exact h v w2 (Kd.R_lower hr hb.size) hb2
  have E5 : ∀ (a' : Act) (w1 : World) (K : Act → World → Prop), a'.eval (.tmp N4) = vy → Below W.heap.size W w1 → (∀ v w2, (kFix W d).R e w2 W.heap.size (fun k => k = w1.heap.size) v [y] → Below w1.heap.size w1 w2 → w1.heap.size < w2.heap.size → K (a'.put (some N5) v) w2) → if Region.wanted o5 (yielded ops a'.tmps) = true then Oper.wp P o5 a' w1 K Q else K (a'.put (some N5) undef) w1 := by
    intro a' w1 K he hb h
    rw [← n5]
    refine Kd.R_lit_step (kFix W d) (w0 := w1) (W := w1) w1.heap.size e (u5 _) n5 (xs := [y]) (inner := cs) (ok := fun k => k = w1.heap.size) (okp := fun _ => False) (run5 a' w1 he) HRY (fun _ hk => hk.elim) rfl (Below.refl _ _) (Nat.le_refl _) (by simp) ?_
    intro v w2 hr hb2 _ hb3
    rw [n5]
    obtain ⟨b, hb4, hb5⟩ := hb3
    exact h v w2 (Kd.R_lower hr hb.size) hb2 (Nat.lt_of_le_of_lt hb5 (Kd.R_lt hr b hb4))
  have E3 : ∀ (a' : Act) (w1 : World) (K : Act → World → Prop) (v : Value) (g : Nat), a'.eval (.tmp N1) = v → a'.eval (.tmp N2) = .slice A xs.length c → (kFix W d).R e w1 W.heap.size (fun k => k = g) v [] → Below W.heap.size W w1 → (∀ v3 w2, (kFix W d).R e w2 W.heap.size (fun _ => True) v3 xs → Below W.heap.size W w2 → w1.grownBy w2 v.ownBlock → K (a'.put (some N3) v3) w2) → if Region.wanted o3 (yielded ops a'.tmps) = true then Oper.wp P o3 a' w1 K Q else K (a'.put (some N3) undef) w1 := by
    intro a' w1 K v g he1 he2 hr hb h
    rw [← n3]
    refine Kd.R_append_rows_step (kFix W d) (Rr := fun x cs => d.K W x cs) (w0 := W) (W := w1) W.heap.size (u3 _) (.tmp N1) (.tmp N2) t e z bytes p3 ht hinfo hz hs0 hb0 v ([] : List α) xs A xs.length c (fun _ => True) (fun _ => False) he1 he2 (Kd.R_mono hr (fun _ _ => trivial)) (Kd.C_below (d := kFix W d) HX hb) (fun _ _ hk => hk) (fun _ hk => hk.elim) (fun _ _ => trivial) hb hb.size (by simpa using hl) ?_
    intro v3 w2 hr3 hb3 hg3 _
    rw [n3]
    rw [List.nil_append] at hr3
    exact h v3 w2 hr3 hb3 hg3
  have L5 : ∀ (w1 : World) (v : Value) (g : Nat), (kFix W d).R e w1 W.heap.size (fun k => k = g) v [y] → ∃ A5 c5, v = .slice A5 1 c5 ∧ 1 ≤ c5 ∧ (kFix W d).C w1 A5 1 [y] := by
    intro w1 v g hr
    obtain ⟨A5, c5, e1, e2, e3⟩ := Kd.R_reads hr
    exact ⟨A5, c5, e1, e2, e3⟩
  have NB : ∀ (w1 : World) (v : Value) (g : Nat) (ys : List α), (kFix W d).R e w1 W.heap.size (fun k => k = g) v ys → ∀ k, w1.heap.size ≤ k → some k ≠ v.ownBlock := by
    intro w1 v g ys hr k hk he
    obtain ⟨_, inner, ho, _⟩ := hr
    have := own_lt ho k he.symm
    omega
  refine two_ l1 l5 g1 g5 n1 n5 c0 d1 d5 (fun K hK => ?_) (fun K hK => ?_)
  · refine E1 a W K (Below.refl _ _) (fun v1 w1 hr1 hb1 => ?_)
    refine hK.out _ _ (hS _ hb1) (fun _ => ?_)
    refine two_ l13 l15 g3 g5 n3 n5 c1 d3 d5 (fun K hK => ?_) (fun K hK => ?_)
    · refine E3 _ w1 K v1 _ (eval_put_eq s1 _) ((eval_put_ne e12 _).trans h2) hr1 hb1 (fun v3 w3 hr3 hb3 _ => ?_)
      refine hK.out _ _ (hS _ hb3) (fun _ => ?_)
      refine one_ lF g5 n5 c13 d5 (fun K hK => ?_)
      refine E5 _ w3 K (((eval_put_ne e34 _).trans (eval_put_ne e14 _)).trans h4) hb3 (fun v5 w5 hr5 hb5 hlt5 => ?_)
      exact hK.out _ _ (hS _ (below_step hb3 hb5)) (fun _ => hcont v1 v3 v5 w5 (below_step hb3 hb5) (Kd.R_below hr3 hb5) (L5 _ _ _ hr5))
    · refine E5 _ w1 K ((eval_put_ne e14 _).trans h4) hb1 (fun v5 w5 hr5 hb5 hlt5 => ?_)
      refine hK.out _ _ (hS _ (below_step hb1 hb5)) (fun _ => ?_)
      refine one_ lF g3 n3 c15 d3 (fun K hK => ?_)
      refine E3 _ w5 K v1 _ ((eval_put_ne (Ne.symm e15) _).trans (eval_put_eq s1 _)) (((eval_put_ne e52 _).trans (eval_put_ne e12 _)).trans h2) (Kd.R_below hr1 hb5) (below_step hb1 hb5) (fun v3 w3 hr3 hb3 hg3 => ?_)
      refine hK.out _ _ (hS _ hb3) (fun _ => ?_)
      rw [put_comm (Ne.symm e35)]
      exact hcont v1 v3 v5 w3 hb3 hr3 (L5 _ _ _ (Kd.R_grown hr5 hg3 (fun k hk => by subst hk; exact NB _ _ _ _ hr1 _ (Nat.le_refl _))))
  · refine E5 a W K h4 (Below.refl _ _) (fun v5 w5 hr5 hb5 hlt5 => ?_)
    refine hK.out _ _ (hS _ hb5) (fun _ => ?_)
    refine one_ l15 g1 n1 c5 d1 (fun K hK => ?_)
    refine E1 _ w5 K hb5 (fun v1 w1 hr1 hb1 => ?_)
    refine hK.out _ _ (hS _ (below_step hb5 hb1)) (fun _ => ?_)
    refine one_ lF g3 n3 c15 d3 (fun K hK => ?_)
    refine E3 _ w1 K v1 _ (eval_put_eq (by rw [put_size]; exact s1) _) (((eval_put_ne e12 _).trans (eval_put_ne e52 _)).trans h2) hr1 (below_step hb5 hb1) (fun v3 w3 hr3 hb3 hg3 => ?_)
    refine hK.out _ _ (hS _ hb3) (fun _ => ?_)
    rw [put_comm (a := a) (Ne.symm e15), put_comm (Ne.symm e35)]
    refine hcont v1 v3 v5 w3 hb3 hr3 (L5 _ _ _ (Kd.R_grown (Kd.R_below hr5 hb1) hg3 (fun k hk => ?_)))
    subst hk
    intro he
    have h6 := hr1.1 _ he.symm
    omega
/-- A literal of one element, outside a region that draws. -/
theorem lit_one {α : Type} {P : Program} {ops : Array Oper} {rest : List Oper} {o : Oper} {a : Act} {Q : Exit → Act → World → Prop} {W : World} {d : Kd α} {e : Nat} {y : α} {ys : List α} {cs : List Value} (hys : ys = [y]) (hgd : o.guard = none) {N : Tmp} (hd : o.dst = some N)
    (hr : (execOp a.eval o).run P W = .ok (.value (.slice (some ⟨W.heap.size, 0, none⟩) 1 1)) (W.alloc (.cells cs.toArray e))) (hy : d.K W y cs)
    (h : ∀ (A1 : Option Addr) (c1 : Nat) (w1 : World), ys.length ≤ c1 → d.C w1 A1 ys.length ys → Below W.heap.size W w1 → wpList P ops Q rest (a.put o.dst (.slice A1 ys.length c1)) w1) : wpList P ops Q (o :: rest) a W := by
  subst hys
  have HRY : Reps (fun x cs => d.K W x cs) d.sz [y] cs := ⟨by rw [d.K_len hy]; simp, fun j p hj => by
    cases j with
    | zero =>
      obtain rfl : y = p := by simpa using hj
      rw [Nat.zero_mul, List.drop_zero, List.take_of_length_le (Nat.le_of_eq (d.K_len hy))]; exact hy
    | succ j => simp at hj⟩
  refine Kd.R_lit (kFix W d) (w0 := W) (W := W) W.heap.size e hgd hd (xs := [y]) (inner := cs) (ok := fun _ => True) (okp := fun _ => False) hr HRY (fun _ hk => hk.elim) trivial (Below.refl _ _) (Nat.le_refl _) (by simp) ?_
  intro v w1 hr1 hb1 _ _
  obtain ⟨A1, c1, rfl, h2, h3⟩ := Kd.R_reads hr1
  exact h A1 c1 w1 h2 (kFix_C h3 hb1) hb1
/-- A consignment more. -/
def consAdd.f (l : List S42) (a0 : ByteArray) (a1 a2 : Int) (l3 : List S67) : Option (List S42) := if l.length < 2513169434916 then some (l ++ [⟨a0, a1, a2, l3⟩]) else none
theorem consAdd.some {l : List S42} {a0 : ByteArray} {a1 a2 : Int} {l3 : List S67} {r : List S42} (h : consAdd.f l a0 a1 a2 l3 = .some r) : l.length < 2513169434916 ∧ r = l ++ [⟨a0, a1, a2, l3⟩] := by
  unfold consAdd.f at h
  split at h
  · exact ⟨by assumption, (Option.some.inj h).symm⟩
  · cases h
theorem info3 : (Try.prog.info? 3).map (fun i => (i.zero, i.size, i.bytes)) = some (some (.int .i64 0), 1, 8) := by kernel_rfl
theorem info32 : (Try.prog.info? 32).map (fun i => (i.zero, i.size, i.bytes)) = some (some (.slice none 0 0), 1, 24) := by kernel_rfl
theorem lit_none (o : Oper) (ho : o.op = Op.buildSlice 34 0 #[]) (a : Act) (W : World) : (execOp a.eval o).run Try.prog W = .ok (.value (.slice (some ⟨W.heap.size, 0, none⟩) 0 0)) (W.alloc (.cells #[] 42)) := by
  have hu34 := Try.underlying34
  have hu42 := Try.underlying42
  simp only [execOp, ho]
  first | (go_simp; done) | (go_simp; rfl)
theorem lit_x (o : Oper) (T : Tmp) (ho : o.op = Op.buildSlice 34 1 #[(0, .tmp T)]) (a : Act) (W : World) (s : ByteArray) (n m : Int) (A : Option Addr) (l c : Nat) (h : a.eval (.tmp T) = .agg #[.string s, .int .i64 n, .int .i64 m, .slice A l c]) : (execOp a.eval o).run Try.prog W = .ok (.value (.slice (some ⟨W.heap.size, 0, none⟩) 1 1)) (W.alloc (.cells #[.string s, .int .i64 n, .int .i64 m, .slice A l c] 42)) := by
  have hu34 := Try.underlying34
  have hu42 := Try.underlying42
  have h' : a.tmps[T]?.getD undef = .agg #[.string s, .int .i64 n, .int .i64 m, .slice A l c] := by rw [← h]; simp [Act.eval, Array.getD_eq_getD_getElem?]
  clear h
  simp only [execOp, ho]
  first | (go_simp; done) | (go_simp; rfl) | (go_simp; simp only [h']; rfl)
end Go.Proofs.Ytlhaaccdiienbaa.X
