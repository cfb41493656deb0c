/- A kind of this claim, by hand: elements of which nothing is said (a slice that is handed on and never looked into). -/
import Derived.Test.YtjagffhmdafnmaaOpens
namespace Go.Proofs.Ytjagffhmdafnmaa.X
open Go.RowKit Go.Proofs.YtjagffhmdafnmaaW.PrintWords Go.Proofs.YtjagffhmdafnmaaW.PrintLast Go.Proofs.YtjagffhmdafnmaaW.PrintMore
open Go.ChangeShapes Go.WideShapes

def kAny : Kd Unit where
  sz := 0
  E := []
  K := fun _ _ cs => cs = []
  M := fun _ _ _ _ cs => cs = []
  K_len := fun h => by rw [h]; rfl
  K_one := fun h u hu => by rw [h] at hu; cases hu
  K_below := fun _ h => h
  K_of_M := fun h => h
  M_mono := fun _ h => h
  M_bound := fun h => h
  M_move := fun _ h => h
  M_lower := fun _ h => h
theorem opens_any {P : Program} {t e : TypeId} (ht : P.underlying t = some (.slice e)) (hc : P.cellsOf t = 1) : Opens P t (Kd.slice e kAny) (fun _ => True) :=
  ⟨hc, fun {H enc w base spare held fuel cs y} h => by
    rcases Deep.open_slice ht h with ⟨rfl, _⟩ | ⟨a, len, cap, m, n, D, Pl, rfl, _, hl, hm, hmm, _, hx⟩
    · exact ⟨[], ⟨none, 0, rfl, Nat.le_refl _, Kd.C_nil _ _⟩, trivial⟩
    · unfold maxLen at hm
      refine ⟨List.replicate len (), ⟨some a, cap, by simp, by simpa using hl, ⟨rfl, by simp; omega, fun _ => ⟨a, rfl, fun j p _ => ⟨[], rfl, rfl, fun i u hu => by cases hu⟩⟩⟩⟩, trivial⟩⟩
end Go.Proofs.Ytjagffhmdafnmaa.X
