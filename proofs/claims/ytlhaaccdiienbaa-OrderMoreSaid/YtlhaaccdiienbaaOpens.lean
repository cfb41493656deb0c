import Derived.Test.YtlhaaccdiienbaaX0
import Derived.Deep.Slices
import Derived.ChangeArms
import Derived.ProofKit
namespace Go.Proofs.Ytlhaaccdiienbaa.X
open Go.RowKit Go.Proofs.YtlhaaccdiienbaaW.PrintWords Go.Proofs.YtlhaaccdiienbaaW.PrintLast Go.Proofs.YtlhaaccdiienbaaW.PrintMore
open Go.ChangeShapes Go.WideShapes

structure Opens (P : Program) (t : TypeId) {α : Type} (d : Kd α) (Wf : α → Prop) : Prop where
  size : P.cellsOf t = d.sz
  open_ : ∀ {H : Type} {enc : TypeId × Value → H} {w : World} {base : Nat} {spare : Nat → Bool} {held : Bool} {fuel : Nat} {cs : List Value} {y : DataW H × List MemPlace}, DataW.trod enc P w base spare held fuel t cs = some y → ∃ x, d.K w x cs ∧ Wf x

theorem opens_int {P : Program} {t : TypeId} {k : IntKind} (ht : P.underlying t = some (.int k)) (hc : P.cellsOf t = 1) : Opens P t (Kd.int k) (fun n => (Lit.int k n).wf = true) :=
  ⟨hc, fun h => by
    obtain ⟨n, rfl, _, hw⟩ := DataW.trod_int ht h
    exact ⟨n, rfl, hw⟩⟩
theorem opens_string {P : Program} {t : TypeId} (ht : P.underlying t = some .string) (hc : P.cellsOf t = 1) : Opens P t Kd.string (fun s => s.size ≤ maxLen) :=
  ⟨hc, fun h => by
    obtain ⟨n, rfl, _, hw⟩ := DataW.trod_string ht h
    exact ⟨n, rfl, hw⟩⟩
theorem cells_get {w : World} {base : Nat} {a : Addr} {n : Nat} {cs : List Value} (h : w.cells? base a n = some cs) : cs.length = n ∧ ∀ i u, cs[i]? = some u → w.cell? (a.add i) = some u := by
  unfold World.cells? at h
  split at h
  · have hl := mapM_some_length h
    simp at hl
    refine ⟨hl, fun i u hu => ?_⟩
    have hi : i < n := by
      rw [← hl]
      exact (List.getElem?_eq_some_iff.1 hu).1
    have := mapM_some_get h i i (by simp [hi])
    rw [this, hu]
  · cases h
theorem opens_slice {P : Program} {t e : TypeId} {α : Type} {d : Kd α} {Wf : α → Prop} (ht : P.underlying t = some (.slice e)) (hc : P.cellsOf t = 1) (he : Opens P e d Wf) : Opens P t (Kd.slice e d) (fun xs => ∀ x ∈ xs, Wf x) :=
  ⟨hc, fun {H enc w base spare held fuel cs y} h => by
    rcases Deep.open_slice ht h with ⟨rfl, _⟩ | ⟨a, len, cap, m, n, D, Pl, rfl, _, hl, hm, hmm, _, hx⟩
    · exact ⟨[], ⟨none, 0, rfl, Nat.le_refl _, Kd.C_nil _ _⟩, fun x hx => by simp at hx⟩
    · have hlm : len ≤ m := by rw [hmm]; split <;> omega
      by_cases h0 : len = 0
      · subst h0
        refine ⟨[], ⟨some a, cap, rfl, by simp, ⟨rfl, by simp, fun hn => by simp at hn⟩⟩, fun x hx => by simp at hx⟩
      have key : ∀ i, i < len → ∃ x : α, Wf x ∧ ∃ c, c.length = d.sz ∧ d.K w x c ∧ ∀ j u, c[j]? = some u → w.cell? (a.add (i * d.sz + j)) = some u := by
        intro i hi
        obtain ⟨cs', h1, h2⟩ := hx i (by omega)
        obtain ⟨x, hk, hw⟩ := he.open_ h2
        obtain ⟨hl1, hg⟩ := cells_get h1
        rw [he.size] at hl1 hg
        refine ⟨x, hw, cs', hl1, hk, fun j u hu => ?_⟩
        have := hg j u hu
        rwa [Deep.add_add] at this
      obtain ⟨x0, _⟩ := key 0 (by omega)
      haveI : Inhabited α := ⟨x0⟩
      obtain ⟨f, hf⟩ := Deep.choose_lt key
      unfold maxLen at hm
      refine ⟨(List.range len).map f, ⟨some a, cap, by simp, by simpa using hl, ⟨rfl, by simp; omega, fun _ => ⟨a, rfl, ?_⟩⟩⟩, ?_⟩
      · intro j p hp
        rw [List.getElem?_map, Option.map_eq_some_iff] at hp
        obtain ⟨i, hi, rfl⟩ := hp
        obtain ⟨hi1, hi2⟩ := List.getElem?_eq_some_iff.1 hi
        simp at hi1 hi2
        subst hi2
        exact (hf j hi1).2
      · intro x hx
        rw [List.mem_map] at hx
        obtain ⟨i, hi, rfl⟩ := hx
        exact (hf i (by simpa using hi)).1⟩

structure OpensFs (P : Program) (fs : List Field) (off : Nat) {α : Type} (d : Kd α) (Wf : α → Prop) : Prop where
  all : ∀ {H : Type} {enc : TypeId × Value → H} {w : World} {base : Nat} {spare : Nat → Bool} {held : Bool} {cs : List Value}, (∀ f ∈ fs, ∃ n y, DataW.trod enc P w base spare held n f.type ((cs.drop f.offset).take (P.cellsOf f.type)) = some y) → off + d.sz ≤ cs.length → ∃ x, d.K w x ((cs.drop off).take d.sz) ∧ Wf x
theorem opensFs_one {P : Program} {f : Field} {off : Nat} {α : Type} {d : Kd α} {Wf : α → Prop} (ho : f.offset = off) (hd : Opens P f.type d Wf) : OpensFs P [f] off d Wf := by
  constructor
  intro H enc w base spare held cs h _
  obtain ⟨n, y, hy⟩ := h f (by simp)
  rw [hd.size, ho] at hy
  exact hd.open_ hy
theorem opensFs_cons {P : Program} {f : Field} {gs : List Field} {off off' : Nat} {α β : Type} {a : Kd α} {b : Kd β} {Wa : α → Prop} {Wb : β → Prop} (ho : f.offset = off) (hd : Opens P f.type a Wa) (he : off + a.sz = off') (hg : OpensFs P gs off' b Wb) : OpensFs P (f :: gs) off (Kd.pair a b) (fun x => Wa x.1 ∧ Wb x.2) := by
  constructor
  intro H enc w base spare held cs h hl
  subst he
  have hl' : off + (a.sz + b.sz) ≤ cs.length := hl
  obtain ⟨n, y, hy⟩ := h f (by simp)
  rw [hd.size, ho] at hy
  obtain ⟨x, hx, wx⟩ := hd.open_ hy
  obtain ⟨z, hz, wz⟩ := hg.all (fun g hgm => h g (by simp [hgm])) (by omega)
  refine ⟨(x, z), ⟨_, _, ?_, hx, hz⟩, wx, wz⟩
  show (cs.drop off).take (a.sz + b.sz) = _
  rw [List.take_add, List.drop_drop]
theorem opens_struct {P : Program} {t : TypeId} {fs : Array Field} {α β : Type} {d : Kd α} {Wf : α → Prop} (ht : P.underlying t = some (.struct fs)) (hc : P.cellsOf t = d.sz) (hf : OpensFs P fs.toList 0 d Wf) (pr : β → α) (inv : α → β) (hi : ∀ x, pr (inv x) = x) : Opens P t (Kd.iso d pr) (fun z => Wf (pr z)) :=
  ⟨hc, fun {H enc w base spare held fuel cs y} h => by
    obtain ⟨xs, n, _, _, hl, hlen, hall⟩ := DataW.trod_struct ht h
    obtain ⟨x, hx, wx⟩ := hf.all (enc := enc) (w := w) (base := base) (spare := spare) (held := held) (cs := cs) (by
      intro f hfm
      obtain ⟨i, hi', he⟩ := List.getElem_of_mem hfm
      have hi'' : i < fs.size := by simpa using hi'
      have := hall i f (by rw [Array.getElem?_eq_getElem hi'']; simpa using he)
      rw [List.getElem?_eq_getElem (by omega)] at this
      exact ⟨n, _, this⟩) (by omega)
    rw [List.drop_zero, List.take_of_length_le (by omega)] at hx
    exact ⟨inv x, by show d.K w (pr (inv x)) cs; rw [hi]; exact hx, by rw [hi]; exact wx⟩⟩
end Go.Proofs.Ytlhaaccdiienbaa.X
