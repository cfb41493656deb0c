/- Laws of this claim, by hand: a whole record stored by one law, the world behind it under a name. -/
import Derived.Test.YtjagffhmdafnmaaX0
import Derived.Laws.Tables
namespace Go.Proofs.Ytjagffhmdafnmaa.X
open Go.RowKit Go.Proofs.YtjagffhmdafnmaaW.PrintWords Go.Proofs.YtjagffhmdafnmaaW.PrintLast Go.Proofs.YtjagffhmdafnmaaW.PrintMore
section
variable {P : Program} {ops : Array Oper} {rest : List Oper} {o : Oper} {a : Act} {Q : Exit → Act → World → Prop}
theorem gate_store {W : World} {t : TypeId} {p : Tmp} {v : Operand} (_h : o.op = .store t (.tmp p) v) (h : wpList P ops Q (o :: rest) a W) : wpList P ops Q (o :: rest) a W := h
theorem store_row_event {W w0 : World} (hgd : o.guard = none) (ty : TypeId) (x y : Operand) (ho : o.op = .store ty x y) (hd : o.dst = none)
    (g : Nat) (cells : Array Value) (hx : a.eval x = .pointer (some ⟨g, 0, none⟩)) (hy : a.eval y = .agg cells)
    (t : TypeId) (old : Array Value) (hg : W.heap[g]? = some (.cells old t (0, 0))) (hi : (P.info? ty).map (·.size) = some cells.size)
    (hold : old.size = cells.size) (h1 : cells.all (·.oneCell') = true) (base : Nat) (HB : Below base w0 W) (hge : base ≤ g)
    (h : ∀ V : World, V.heap[g]? = some (.cells cells t (0, 0)) → (∀ k, k ≠ g → V.heap[k]? = W.heap[k]?) → Below base w0 V → wpList P ops Q rest a V) : wpList P ops Q (o :: rest) a W := by
  refine wpList_store_row hgd ty x y ho g cells hx hy t old hg hi hold h1 ?_
  rw [hd]
  have hk : ∀ k, k ≠ g → (W.setRow g cells).heap[k]? = W.heap[k]? := by
    intro k hk
    simp only [World.setRow, Array.getElem?_modify]
    rw [if_neg (fun e => hk e.symm)]
  refine h _ ?_ hk ⟨HB.os, HB.tape, HB.output, by simpa [World.setRow] using HB.size, fun k hkb => (hk k (by omega)).trans (HB.block k hkb)⟩
  simp [World.setRow, Array.getElem?_modify, hg]
end
end Go.Proofs.Ytjagffhmdafnmaa.X
