/- Plain lemmas of this claim: numbers that fit, and reading in a row. -/
import Derived.Test.YtlhaaccdiienbaaX0
namespace Go.Proofs.Ytlhaaccdiienbaa.X
open Go.RowKit Go.Proofs.YtlhaaccdiienbaaW.PrintWords Go.Proofs.YtlhaaccdiienbaaW.PrintLast Go.Proofs.YtlhaaccdiienbaaW.PrintMore

theorem wrap_id {x : Int} (h0 : -9223372036854775808 ≤ x) (h1 : x ≤ 9223372036854775807) : wrap64 x = x := by unfold wrap64; omega
theorem wrap_succ {i n : Nat} (h : i < n) (hn : n ≤ 9223372036854775807) : wrap64 ((i : Int) + 1) = ((i + 1 : Nat) : Int) := by unfold wrap64; omega
theorem rd65 (l : List S65) (i : Nat) : rd_T65 l (i : Int) = l.getD i z65 := by simp [rd_T65]
theorem getD65 (l : List S65) (i : Nat) (h : i < l.length) : l.getD i z65 = l[i] := by rw [List.getD_eq_getElem?_getD, List.getElem?_eq_getElem h, Option.getD_some]
end Go.Proofs.Ytlhaaccdiienbaa.X
