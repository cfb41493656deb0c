/-
  No cell of these rows narrows 'for every input' (looked for: loops, veiled, ifaces, maps, wideKeys, modest, calm, conditions, laid).
  DERIVED. THE GIVEN ROWS OF THIS SEAT. 8 by the template 'for every input the law returns true; each argument reads behind the call as it read before'; 0 by the template 'total and deterministic' (their statements: YtlhaaccdiienbaaTotals.lean).
  GIVEN WITH THE SEED: the statements are not yours to turn. If you find one false, say at which input.
  Laid BY PROGRAM, IN A SANDBOX (cutbox-rows.mjs): the forced cells as the released guide's own fill.sh prints them over the translation 2a08b2e01bb68a97… (all of the seat's roots in one cut). By AI agents, Wed Nov 11 2026. No macro, syntax, notation, axiom, sorry.
-/
import Derived.Test.YtlhaaccdiienbaaChecked
import GoSem.Claim
import GoSem.ClaimJoined
import GoSem.ClaimMapViews
import Derived.JoinedTies
import Derived.KernelRfl
namespace Go.Proofs.Ytlhaaccdiienbaa
/- THE CELL 'sum', in the pinned program and in every row, IS THE sha256 OF THE DUMP (.gsa) THAT YtlhaaccdiienbaaProg.lean LOADS. Nothing in Lean hashes anything: it is a label: what it is worth is what the hold of that sum in a sandbox is worth. -/
noncomputable def Try.pinned : Pinned := { name := "ytlhaaccdiienbaa", sum := "2a08b2e01bb68a978591cda02c3d2138dcd125791c56a3c995848868072aee06", checked := Try.checked }
namespace Rows
def none {H : Type} : Left H := { results := [], args := [] }

/-- 'supercargolaw19.OrderTells': WHATEVER THE INPUT: true; the input reads as it did. -/
def orderTellsSpec : ChangeSpec := { name := "orderTells", fn := fun _ => fun
  | [d1, d2] => { results := [.lit (.bool true)], args := [d1, d2] }
  | _ => none }
def orderTellsRow : OpenClaim := { program := "ytlhaaccdiienbaa", sum := "2a08b2e01bb68a978591cda02c3d2138dcd125791c56a3c995848868072aee06", func := "supercargo/supercargolaw19.OrderTells", spec := "orderTells", unfollowed := true, recurses := true, apart := false }
def OrderTellsSaid : Prop := orderTellsRow.holds Try.pinned (OpenSpec.ofChange orderTellsSpec)

/-- ITS FALSE NEIGHBOUR: 'it returns false'. Refute it at one input. -/
def orderTellsWrong : ChangeSpec := { name := "orderTells", fn := fun _ => fun
  | [d1, d2] => { results := [.lit (.bool false)], args := [d1, d2] }
  | _ => none }
def OrderTellsWrongFalsely : Prop := orderTellsRow.holds Try.pinned (OpenSpec.ofChange orderTellsWrong)

/-- 'supercargolaw19.OrderCuts': WHATEVER THE INPUT: true; the input reads as it did. -/
def orderCutsSpec : ChangeSpec := { name := "orderCuts", fn := fun _ => fun
  | [d1, d2, d3] => { results := [.lit (.bool true)], args := [d1, d2, d3] }
  | _ => none }
def orderCutsRow : OpenClaim := { program := "ytlhaaccdiienbaa", sum := "2a08b2e01bb68a978591cda02c3d2138dcd125791c56a3c995848868072aee06", func := "supercargo/supercargolaw19.OrderCuts", spec := "orderCuts", unfollowed := true, recurses := true, apart := false }
def OrderCutsSaid : Prop := orderCutsRow.holds Try.pinned (OpenSpec.ofChange orderCutsSpec)

/-- ITS FALSE NEIGHBOUR: 'it returns false'. Refute it at one input. -/
def orderCutsWrong : ChangeSpec := { name := "orderCuts", fn := fun _ => fun
  | [d1, d2, d3] => { results := [.lit (.bool false)], args := [d1, d2, d3] }
  | _ => none }
def OrderCutsWrongFalsely : Prop := orderCutsRow.holds Try.pinned (OpenSpec.ofChange orderCutsWrong)

/-- 'supercargolaw19.OrderLate': WHATEVER THE INPUT: true; the input reads as it did. -/
def orderLateSpec : ChangeSpec := { name := "orderLate", fn := fun _ => fun
  | [d1, d2, d3] => { results := [.lit (.bool true)], args := [d1, d2, d3] }
  | _ => none }
def orderLateRow : OpenClaim := { program := "ytlhaaccdiienbaa", sum := "2a08b2e01bb68a978591cda02c3d2138dcd125791c56a3c995848868072aee06", func := "supercargo/supercargolaw19.OrderLate", spec := "orderLate", unfollowed := true, recurses := true, apart := false }
def OrderLateSaid : Prop := orderLateRow.holds Try.pinned (OpenSpec.ofChange orderLateSpec)

/-- ITS FALSE NEIGHBOUR: 'it returns false'. Refute it at one input. -/
def orderLateWrong : ChangeSpec := { name := "orderLate", fn := fun _ => fun
  | [d1, d2, d3] => { results := [.lit (.bool false)], args := [d1, d2, d3] }
  | _ => none }
def OrderLateWrongFalsely : Prop := orderLateRow.holds Try.pinned (OpenSpec.ofChange orderLateWrong)

/-- 'supercargolaw25.ReceiptStock': WHATEVER THE INPUT: true; the input reads as it did. -/
def receiptStockSpec : ChangeSpec := { name := "receiptStock", fn := fun _ => fun
  | [d] => { results := [.lit (.bool true)], args := [d] }
  | _ => none }
def receiptStockRow : OpenClaim := { program := "ytlhaaccdiienbaa", sum := "2a08b2e01bb68a978591cda02c3d2138dcd125791c56a3c995848868072aee06", func := "supercargo/supercargolaw25.ReceiptStock", spec := "receiptStock", unfollowed := true, recurses := true, apart := false }
def ReceiptStockSaid : Prop := receiptStockRow.holds Try.pinned (OpenSpec.ofChange receiptStockSpec)

/-- ITS FALSE NEIGHBOUR: 'it returns false'. Refute it at one input. -/
def receiptStockWrong : ChangeSpec := { name := "receiptStock", fn := fun _ => fun
  | [d] => { results := [.lit (.bool false)], args := [d] }
  | _ => none }
def ReceiptStockWrongFalsely : Prop := receiptStockRow.holds Try.pinned (OpenSpec.ofChange receiptStockWrong)

/-- 'supercargolaw19.OrderSums': WHATEVER THE INPUT: true; the input reads as it did. -/
def orderSumsSpec : ChangeSpec := { name := "orderSums", fn := fun _ => fun
  | [d1, d2, d3] => { results := [.lit (.bool true)], args := [d1, d2, d3] }
  | _ => none }
def orderSumsRow : OpenClaim := { program := "ytlhaaccdiienbaa", sum := "2a08b2e01bb68a978591cda02c3d2138dcd125791c56a3c995848868072aee06", func := "supercargo/supercargolaw19.OrderSums", spec := "orderSums", unfollowed := true, recurses := true, apart := false }
def OrderSumsSaid : Prop := orderSumsRow.holds Try.pinned (OpenSpec.ofChange orderSumsSpec)

/-- ITS FALSE NEIGHBOUR: 'it returns false'. Refute it at one input. -/
def orderSumsWrong : ChangeSpec := { name := "orderSums", fn := fun _ => fun
  | [d1, d2, d3] => { results := [.lit (.bool false)], args := [d1, d2, d3] }
  | _ => none }
def OrderSumsWrongFalsely : Prop := orderSumsRow.holds Try.pinned (OpenSpec.ofChange orderSumsWrong)

/-- 'supercargolaw19.OrderSent': WHATEVER THE INPUT: true; the input reads as it did. -/
def orderSentSpec : ChangeSpec := { name := "orderSent", fn := fun _ => fun
  | [d1, d2, d3, d4] => { results := [.lit (.bool true)], args := [d1, d2, d3, d4] }
  | _ => none }
def orderSentRow : OpenClaim := { program := "ytlhaaccdiienbaa", sum := "2a08b2e01bb68a978591cda02c3d2138dcd125791c56a3c995848868072aee06", func := "supercargo/supercargolaw19.OrderSent", spec := "orderSent", unfollowed := true, recurses := true, apart := false }
def OrderSentSaid : Prop := orderSentRow.holds Try.pinned (OpenSpec.ofChange orderSentSpec)

/-- ITS FALSE NEIGHBOUR: 'it returns false'. Refute it at one input. -/
def orderSentWrong : ChangeSpec := { name := "orderSent", fn := fun _ => fun
  | [d1, d2, d3, d4] => { results := [.lit (.bool false)], args := [d1, d2, d3, d4] }
  | _ => none }
def OrderSentWrongFalsely : Prop := orderSentRow.holds Try.pinned (OpenSpec.ofChange orderSentWrong)

/-- 'supercargolaw19.OrderMore': WHATEVER THE INPUT: true; the input reads as it did. -/
def orderMoreSpec : ChangeSpec := { name := "orderMore", fn := fun _ => fun
  | [d1, d2, d3, d4, d5] => { results := [.lit (.bool true)], args := [d1, d2, d3, d4, d5] }
  | _ => none }
def orderMoreRow : OpenClaim := { program := "ytlhaaccdiienbaa", sum := "2a08b2e01bb68a978591cda02c3d2138dcd125791c56a3c995848868072aee06", func := "supercargo/supercargolaw19.OrderMore", spec := "orderMore", unfollowed := true, recurses := true, apart := false }
def OrderMoreSaid : Prop := orderMoreRow.holds Try.pinned (OpenSpec.ofChange orderMoreSpec)

/-- ITS FALSE NEIGHBOUR: 'it returns false'. Refute it at one input. -/
def orderMoreWrong : ChangeSpec := { name := "orderMore", fn := fun _ => fun
  | [d1, d2, d3, d4, d5] => { results := [.lit (.bool false)], args := [d1, d2, d3, d4, d5] }
  | _ => none }
def OrderMoreWrongFalsely : Prop := orderMoreRow.holds Try.pinned (OpenSpec.ofChange orderMoreWrong)

/-- 'supercargolaw19.OrderMerges': WHATEVER THE INPUT: true; the input reads as it did. -/
def orderMergesSpec : ChangeSpec := { name := "orderMerges", fn := fun _ => fun
  | [d1, d2, d3, d4] => { results := [.lit (.bool true)], args := [d1, d2, d3, d4] }
  | _ => none }
def orderMergesRow : OpenClaim := { program := "ytlhaaccdiienbaa", sum := "2a08b2e01bb68a978591cda02c3d2138dcd125791c56a3c995848868072aee06", func := "supercargo/supercargolaw19.OrderMerges", spec := "orderMerges", unfollowed := true, recurses := true, apart := false }
def OrderMergesSaid : Prop := orderMergesRow.holds Try.pinned (OpenSpec.ofChange orderMergesSpec)

/-- ITS FALSE NEIGHBOUR: 'it returns false'. Refute it at one input. -/
def orderMergesWrong : ChangeSpec := { name := "orderMerges", fn := fun _ => fun
  | [d1, d2, d3, d4] => { results := [.lit (.bool false)], args := [d1, d2, d3, d4] }
  | _ => none }
def OrderMergesWrongFalsely : Prop := orderMergesRow.holds Try.pinned (OpenSpec.ofChange orderMergesWrong)

/- THE SECOND FORM. 'bulk': how many values and letters a reading holds, each counted each time it is reached (what is shared counts as often as it is met; a slice's spare places count too). A statement '..UptoSaid' is the law's where the arguments, and the package variables that the reading takes, are together of bulk at most 1048576: NARROWER than '..Said'. Prove '..Said' where nothing that the law and all that it calls make is longer than what came in: it says more and counts as full. Else prove '..UptoSaid'. A law counts once. -/
mutual
def uptoBulk {H : Type} : DataW H → Nat
  | .lit (.string bytes) => bytes.length + 1
  | .lit _ => 1
  | .nil => 1
  | .ptr d => uptoBulk d + 1
  | .slice elems spare => uptoBulkAll elems + uptoBulkAll spare + 1
  | .agg parts => uptoBulkAll parts + 1
  | .iface _ d => uptoBulk d + 1
  | .map entries => uptoBulkEntries entries + 1
  | .held _ => 1
def uptoBulkAll {H : Type} : List (DataW H) → Nat
  | [] => 0
  | d :: r => uptoBulk d + uptoBulkAll r
def uptoBulkEntries {H : Type} : List (Lit × DataW H) → Nat
  | [] => 0
  | x :: r => uptoBulkEntry x + uptoBulkEntries r
def uptoBulkEntry {H : Type} : Lit × DataW H → Nat
  | (.string bytes, d) => bytes.length + uptoBulk d + 1
  | (_, d) => uptoBulk d + 1
 end
def uptoSmall : (H : Type) → List (DataW H) → Bool := fun _ ds => decide (uptoBulkAll ds ≤ 1048576)
def OpenSpec.upto (s : _root_.Go.ChangeSpec) : _root_.Go.OpenSpec := { _root_.Go.OpenSpec.ofChange s with cond := some uptoSmall }

/-- 'supercargolaw19.OrderTells', WHERE WHAT IT READS IS OF BULK AT MOST 1048576: true; the input reads as it did. -/
def orderTellsUptoRow : OpenClaim := { program := "ytlhaaccdiienbaa", sum := "2a08b2e01bb68a978591cda02c3d2138dcd125791c56a3c995848868072aee06", func := "supercargo/supercargolaw19.OrderTells", spec := "orderTells", unfollowed := true, recurses := true, apart := false, narrowed := true }
def OrderTellsUptoSaid : Prop := orderTellsUptoRow.holds Try.pinned (OpenSpec.upto orderTellsSpec)

/-- 'supercargolaw19.OrderCuts', WHERE WHAT IT READS IS OF BULK AT MOST 1048576: true; the input reads as it did. -/
def orderCutsUptoRow : OpenClaim := { program := "ytlhaaccdiienbaa", sum := "2a08b2e01bb68a978591cda02c3d2138dcd125791c56a3c995848868072aee06", func := "supercargo/supercargolaw19.OrderCuts", spec := "orderCuts", unfollowed := true, recurses := true, apart := false, narrowed := true }
def OrderCutsUptoSaid : Prop := orderCutsUptoRow.holds Try.pinned (OpenSpec.upto orderCutsSpec)

/-- 'supercargolaw19.OrderLate', WHERE WHAT IT READS IS OF BULK AT MOST 1048576: true; the input reads as it did. -/
def orderLateUptoRow : OpenClaim := { program := "ytlhaaccdiienbaa", sum := "2a08b2e01bb68a978591cda02c3d2138dcd125791c56a3c995848868072aee06", func := "supercargo/supercargolaw19.OrderLate", spec := "orderLate", unfollowed := true, recurses := true, apart := false, narrowed := true }
def OrderLateUptoSaid : Prop := orderLateUptoRow.holds Try.pinned (OpenSpec.upto orderLateSpec)

/-- 'supercargolaw25.ReceiptStock', WHERE WHAT IT READS IS OF BULK AT MOST 1048576: true; the input reads as it did. -/
def receiptStockUptoRow : OpenClaim := { program := "ytlhaaccdiienbaa", sum := "2a08b2e01bb68a978591cda02c3d2138dcd125791c56a3c995848868072aee06", func := "supercargo/supercargolaw25.ReceiptStock", spec := "receiptStock", unfollowed := true, recurses := true, apart := false, narrowed := true }
def ReceiptStockUptoSaid : Prop := receiptStockUptoRow.holds Try.pinned (OpenSpec.upto receiptStockSpec)

/-- 'supercargolaw19.OrderSums', WHERE WHAT IT READS IS OF BULK AT MOST 1048576: true; the input reads as it did. -/
def orderSumsUptoRow : OpenClaim := { program := "ytlhaaccdiienbaa", sum := "2a08b2e01bb68a978591cda02c3d2138dcd125791c56a3c995848868072aee06", func := "supercargo/supercargolaw19.OrderSums", spec := "orderSums", unfollowed := true, recurses := true, apart := false, narrowed := true }
def OrderSumsUptoSaid : Prop := orderSumsUptoRow.holds Try.pinned (OpenSpec.upto orderSumsSpec)

/-- 'supercargolaw19.OrderSent', WHERE WHAT IT READS IS OF BULK AT MOST 1048576: true; the input reads as it did. -/
def orderSentUptoRow : OpenClaim := { program := "ytlhaaccdiienbaa", sum := "2a08b2e01bb68a978591cda02c3d2138dcd125791c56a3c995848868072aee06", func := "supercargo/supercargolaw19.OrderSent", spec := "orderSent", unfollowed := true, recurses := true, apart := false, narrowed := true }
def OrderSentUptoSaid : Prop := orderSentUptoRow.holds Try.pinned (OpenSpec.upto orderSentSpec)

/-- 'supercargolaw19.OrderMore', WHERE WHAT IT READS IS OF BULK AT MOST 1048576: true; the input reads as it did. -/
def orderMoreUptoRow : OpenClaim := { program := "ytlhaaccdiienbaa", sum := "2a08b2e01bb68a978591cda02c3d2138dcd125791c56a3c995848868072aee06", func := "supercargo/supercargolaw19.OrderMore", spec := "orderMore", unfollowed := true, recurses := true, apart := false, narrowed := true }
def OrderMoreUptoSaid : Prop := orderMoreUptoRow.holds Try.pinned (OpenSpec.upto orderMoreSpec)

/-- 'supercargolaw19.OrderMerges', WHERE WHAT IT READS IS OF BULK AT MOST 1048576: true; the input reads as it did. -/
def orderMergesUptoRow : OpenClaim := { program := "ytlhaaccdiienbaa", sum := "2a08b2e01bb68a978591cda02c3d2138dcd125791c56a3c995848868072aee06", func := "supercargo/supercargolaw19.OrderMerges", spec := "orderMerges", unfollowed := true, recurses := true, apart := false, narrowed := true }
def OrderMergesUptoSaid : Prop := orderMergesUptoRow.holds Try.pinned (OpenSpec.upto orderMergesSpec)

end Rows
end Go.Proofs.Ytlhaaccdiienbaa
