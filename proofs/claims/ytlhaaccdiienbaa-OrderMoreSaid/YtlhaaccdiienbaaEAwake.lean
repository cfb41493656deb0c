/- A lemma of this claim: 'awake' answers true. Written by programs of this session (wip/tools/xprint.py, turnAwake.py) out of the translation. -/
import Derived.Test.YtlhaaccdiienbaaX4
import Derived.Test.YtlhaaccdiienbaaX0
import Derived.Test.YtlhaaccdiienbaaECut
import Derived.Test.YtlhaaccdiienbaaEValue
namespace Go.Proofs.Ytlhaaccdiienbaa.X
open Go.RowKit Go.Proofs.YtlhaaccdiienbaaW.PrintWords Go.Proofs.YtlhaaccdiienbaaW.PrintLast Go.Proofs.YtlhaaccdiienbaaW.PrintMore
attribute [local go_sem] max2_int min2_int max_two min_two max_three min_three max_four min_four   -- for this text's walks alone
set_option linter.unusedVariables false
set_option linter.unusedSimpArgs false

def awk.j0 : Nat → List (S42) → Bool → ByteArray → ByteArray → ByteArray → ByteArray → ByteArray → ByteArray → Int → List (S65) → Option (Bool)
 | 0, _, _, _, _, _, _, _, _, _, _ => none
 | k + 1, x2, x33, x136000, x136001, x136002, x136003, x136004, x136005, x136006, x136007 => if x33 = true then (some false) else (if 0 < (x2.length : Int) then ((order_Value.f k x136000 x136001 x136002 x136003 x136004 x136005 x136006 x136007 ((rd_T42 x2 0).f0) ((rd_T42 x2 0).f1) ((rd_T42 x2 0).f2) ((rd_T42 x2 0).f3)).bind fun bt154 => (if 1 < (x2.length : Int) then ((order_Value.f k x136000 x136001 x136002 x136003 x136004 x136005 x136006 x136007 ((rd_T42 x2 1).f0) ((rd_T42 x2 1).f1) ((rd_T42 x2 1).f2) ((rd_T42 x2 1).f3)).bind fun bt157 => ((order_Total.f k x136000 x136001 x136002 x136003 x136004 x136005 x136006 x136007).bind fun bt159 => (if bt154.1 = 12 then (if bt157.1 = 18 then (if bt159.1 = 30 then (if bt154.2 = 0 then (if bt157.2 = 0 then (if bt159.2 = 0 then ((order_Same.f k x136000 x136001 x136002 x136003 x136004 x136005 x136006 x136007 x136000 x136001 x136002 x136003 x136004 x136005 x136006 x136007).bind fun t161 => (some t161)) else (some false)) else (some false)) else (some false)) else (some false)) else (some false)) else (some false)))) else (none))) else (none))
def awk.f (k : Nat)  : Option (Bool) := (some (([(⟨(⟨#[116, 101, 97]⟩ : ByteArray), 10, 3⟩ : S65)] : List (S65)) : List (S65))).bind fun y132 => ((order_Cut.f k (⟨#[111]⟩ : ByteArray) (⟨#[115]⟩ : ByteArray) (⟨#[98]⟩ : ByteArray) (⟨#[69, 85, 82]⟩ : ByteArray) (⟨#[102]⟩ : ByteArray) (⟨#[116]⟩ : ByteArray) 0 y132 (([1, 2] : List Int)) (([(([4] : List Int)), (([6] : List Int))] : List (List Int)))).bind fun bt148 => (if bt148.2 = 0 then (if (bt148.1.length : Int) = 2 then ((order_May.f k (⟨#[111]⟩ : ByteArray) (⟨#[115]⟩ : ByteArray) (⟨#[98]⟩ : ByteArray) (⟨#[69, 85, 82]⟩ : ByteArray) (⟨#[102]⟩ : ByteArray) (⟨#[116]⟩ : ByteArray) 0 y132).bind fun t152 => (awk.j0 k bt148.1 (!t152) (⟨#[111]⟩ : ByteArray) (⟨#[115]⟩ : ByteArray) (⟨#[98]⟩ : ByteArray) (⟨#[69, 85, 82]⟩ : ByteArray) (⟨#[102]⟩ : ByteArray) (⟨#[116]⟩ : ByteArray) 0 y132)) else (awk.j0 k bt148.1 true (⟨#[111]⟩ : ByteArray) (⟨#[115]⟩ : ByteArray) (⟨#[98]⟩ : ByteArray) (⟨#[69, 85, 82]⟩ : ByteArray) (⟨#[102]⟩ : ByteArray) (⟨#[116]⟩ : ByteArray) 0 y132)) else (awk.j0 k bt148.1 true (⟨#[111]⟩ : ByteArray) (⟨#[115]⟩ : ByteArray) (⟨#[98]⟩ : ByteArray) (⟨#[69, 85, 82]⟩ : ByteArray) (⟨#[102]⟩ : ByteArray) (⟨#[116]⟩ : ByteArray) 0 y132)))
theorem awk.mono_l : ∀ k, (∀ y0 y1 y2 y3 y4 y5 y6 y7 y8 y9, LeO (awk.j0 k y0 y1 y2 y3 y4 y5 y6 y7 y8 y9) (awk.j0 (k + 1) y0 y1 y2 y3 y4 y5 y6 y7 y8 y9))
 | 0 => fun _ _ _ _ _ _ _ _ _ _ r h => by simp [awk.j0] at h
 | k + 1 => by
  have ih0 := awk.mono_l k
  ·intro y0 y1 y2 y3 y4 y5 y6 y7 y8 y9
   unfold awk.j0
   repeat' first
   | (with_reducible exact ih0 _ _ _ _ _ _ _ _ _ _)
   | (with_reducible exact order_Cut.mono _ _ _ _ _ _ _ _ _ _ _)
   | (with_reducible exact order_May.mono _ _ _ _ _ _ _ _ _)
   | (with_reducible exact order_Same.mono _ _ _ _ _ _ _ _ _ _ _ _ _ _ _ _ _)
   | (with_reducible exact order_Total.mono _ _ _ _ _ _ _ _ _)
   | (with_reducible exact order_Value.mono _ _ _ _ _ _ _ _ _ _ _ _ _)
   | (with_reducible exact LeO.refl _)
   | (with_reducible exact LeO.none _)
   | (with_reducible refine LeO.ite ?_ ?_)
   | (with_reducible refine LeO.bind ?_ (fun _ => ?_))
   | exact ih0 _ _ _ _ _ _ _ _ _ _
   | exact order_Cut.mono _ _ _ _ _ _ _ _ _ _ _
   | exact order_May.mono _ _ _ _ _ _ _ _ _
   | exact order_Same.mono _ _ _ _ _ _ _ _ _ _ _ _ _ _ _ _ _
   | exact order_Total.mono _ _ _ _ _ _ _ _ _
   | exact order_Value.mono _ _ _ _ _ _ _ _ _ _ _ _ _
   | exact LeO.none _
   | refine LeO.ite ?_ ?_
   | refine LeO.bind ?_ (fun _ => ?_)
theorem awk.mono : ∀ k, LeO (awk.f k ) (awk.f (k + 1) ) := by
 intro  k
 have ih0 := awk.mono_l k
 unfold awk.f
 repeat' first
   | (with_reducible exact ih0 _ _ _ _ _ _ _ _ _ _)
   | (with_reducible exact order_Cut.mono _ _ _ _ _ _ _ _ _ _ _)
   | (with_reducible exact order_May.mono _ _ _ _ _ _ _ _ _)
   | (with_reducible exact order_Same.mono _ _ _ _ _ _ _ _ _ _ _ _ _ _ _ _ _)
   | (with_reducible exact order_Total.mono _ _ _ _ _ _ _ _ _)
   | (with_reducible exact order_Value.mono _ _ _ _ _ _ _ _ _ _ _ _ _)
   | (with_reducible exact LeO.refl _)
   | (with_reducible exact LeO.none _)
   | (with_reducible refine LeO.ite ?_ ?_)
   | (with_reducible refine LeO.bind ?_ (fun _ => ?_))
   | exact ih0 _ _ _ _ _ _ _ _ _ _
   | exact order_Cut.mono _ _ _ _ _ _ _ _ _ _ _
   | exact order_May.mono _ _ _ _ _ _ _ _ _
   | exact order_Same.mono _ _ _ _ _ _ _ _ _ _ _ _ _ _ _ _ _
   | exact order_Total.mono _ _ _ _ _ _ _ _ _
   | exact order_Value.mono _ _ _ _ _ _ _ _ _ _ _ _ _
   | exact LeO.none _
   | refine LeO.ite ?_ ?_
   | refine LeO.bind ?_ (fun _ => ?_)
def awk.T5 : Bool × List (List Nat × List Nat) := (true, [([], []), ([], []), ([1], [1]), ([2], [2]), ([0, 3], [0, 3]), ([4], [4]), ([5], [5]), ([5], [5]), ([6, 4, 0, 1, 2, 3, 4, 5, 6], [6]), ([7, 8, 0, 1, 2, 3, 4, 5, 6, 7, 8], [7])])
def awk.B5 : List Nat := [0, 0, 2, 6, 15, 31, 63, 63, 127, 511]
theorem awk.tab5 : rtab .any (opsOf Try.f11 5) = awk.T5 := by kernel_rfl
theorem awk.bits5 : waitsOk awk.T5.2 awk.B5 = true := by kernel_rfl
def awk.T6 : Bool × List (List Nat × List Nat) := (true, [([], []), ([], []), ([1], [1]), ([2], [2]), ([0, 3], [0, 3]), ([4], [4]), ([5], [5]), ([5], [5]), ([6, 4, 0, 1, 2, 3, 4, 5, 6], [6]), ([7, 8, 0, 1, 2, 3, 4, 5, 6, 7, 8], [7])])
def awk.B6 : List Nat := [0, 0, 2, 6, 15, 31, 63, 63, 127, 511]
theorem awk.tab6 : rtab .any (opsOf Try.f11 6) = awk.T6 := by kernel_rfl
theorem awk.bits6 : waitsOk awk.T6.2 awk.B6 = true := by kernel_rfl
set_option maxHeartbeats 8000000 in
set_option maxRecDepth 100000 in
theorem awk.calls (k : Nat)  (r : Bool) (w : World) (h : awk.f k  = some r) (hT : Aside0 (r = true)) :
  Calls Try.prog 11 #[] w fun e w' => e = .returned (.bool r) ∧ Below w.heap.size w w' := by
 have hu65 := Try.underlying65
 have hu24 := Try.underlying24
 have hu42 := Try.underlying42
 have HB := Aside0.mk (Below.refl w.heap.size w)
 have H : ((some (([(⟨(⟨#[116, 101, 97]⟩ : ByteArray), 10, 3⟩ : S65)] : List (S65)) : List (S65))).bind fun y132 => ((order_Cut.f k (⟨#[111]⟩ : ByteArray) (⟨#[115]⟩ : ByteArray) (⟨#[98]⟩ : ByteArray) (⟨#[69, 85, 82]⟩ : ByteArray) (⟨#[102]⟩ : ByteArray) (⟨#[116]⟩ : ByteArray) 0 y132 (([1, 2] : List Int)) (([(([4] : List Int)), (([6] : List Int))] : List (List Int)))).bind fun bt148 => (if bt148.2 = 0 then (if (bt148.1.length : Int) = 2 then ((order_May.f k (⟨#[111]⟩ : ByteArray) (⟨#[115]⟩ : ByteArray) (⟨#[98]⟩ : ByteArray) (⟨#[69, 85, 82]⟩ : ByteArray) (⟨#[102]⟩ : ByteArray) (⟨#[116]⟩ : ByteArray) 0 y132).bind fun t152 => (awk.j0 k bt148.1 (!t152) (⟨#[111]⟩ : ByteArray) (⟨#[115]⟩ : ByteArray) (⟨#[98]⟩ : ByteArray) (⟨#[69, 85, 82]⟩ : ByteArray) (⟨#[102]⟩ : ByteArray) (⟨#[116]⟩ : ByteArray) 0 y132)) else (awk.j0 k bt148.1 true (⟨#[111]⟩ : ByteArray) (⟨#[115]⟩ : ByteArray) (⟨#[98]⟩ : ByteArray) (⟨#[69, 85, 82]⟩ : ByteArray) (⟨#[102]⟩ : ByteArray) (⟨#[116]⟩ : ByteArray) 0 y132)) else (awk.j0 k bt148.1 true (⟨#[111]⟩ : ByteArray) (⟨#[115]⟩ : ByteArray) (⟨#[98]⟩ : ByteArray) (⟨#[69, 85, 82]⟩ : ByteArray) (⟨#[102]⟩ : ByteArray) (⟨#[116]⟩ : ByteArray) 0 y132)))) = some r := h
 clear h
 obtain ⟨y132, hy132⟩ : ∃ y_ : List (S65), y_ = (([(⟨(⟨#[116, 101, 97]⟩ : ByteArray), 10, 3⟩ : S65)] : List (S65))) := ⟨_, rfl⟩
 replace H : ((order_Cut.f k (⟨#[111]⟩ : ByteArray) (⟨#[115]⟩ : ByteArray) (⟨#[98]⟩ : ByteArray) (⟨#[69, 85, 82]⟩ : ByteArray) (⟨#[102]⟩ : ByteArray) (⟨#[116]⟩ : ByteArray) 0 y132 (([1, 2] : List Int)) (([(([4] : List Int)), (([6] : List Int))] : List (List Int)))).bind fun bt148 => (if bt148.2 = 0 then (if (bt148.1.length : Int) = 2 then ((order_May.f k (⟨#[111]⟩ : ByteArray) (⟨#[115]⟩ : ByteArray) (⟨#[98]⟩ : ByteArray) (⟨#[69, 85, 82]⟩ : ByteArray) (⟨#[102]⟩ : ByteArray) (⟨#[116]⟩ : ByteArray) 0 y132).bind fun t152 => (awk.j0 k bt148.1 (!t152) (⟨#[111]⟩ : ByteArray) (⟨#[115]⟩ : ByteArray) (⟨#[98]⟩ : ByteArray) (⟨#[69, 85, 82]⟩ : ByteArray) (⟨#[102]⟩ : ByteArray) (⟨#[116]⟩ : ByteArray) 0 y132)) else (awk.j0 k bt148.1 true (⟨#[111]⟩ : ByteArray) (⟨#[115]⟩ : ByteArray) (⟨#[98]⟩ : ByteArray) (⟨#[69, 85, 82]⟩ : ByteArray) (⟨#[102]⟩ : ByteArray) (⟨#[116]⟩ : ByteArray) 0 y132)) else (awk.j0 k bt148.1 true (⟨#[111]⟩ : ByteArray) (⟨#[115]⟩ : ByteArray) (⟨#[98]⟩ : ByteArray) (⟨#[69, 85, 82]⟩ : ByteArray) (⟨#[102]⟩ : ByteArray) (⟨#[116]⟩ : ByteArray) 0 y132))) = some r := by first | (rw [hy132]; with_reducible exact H) | (have H2_ := (Option.bind_some _ _).symm.trans H; rw [hy132]; with_reducible exact H2_) | (have H2_ := (Option.bind_some _ _).symm.trans H; with_reducible exact H2_) | with_reducible exact H | (rw [hy132]; exact H) | exact H
 have Ny132 := Aside0.mk hy132
 clear hy132
 obtain ⟨y136, hy136⟩ : ∃ y_ : List Int, y_ = (([1, 2] : List Int)) := ⟨_, rfl⟩
 replace H : ((order_Cut.f k (⟨#[111]⟩ : ByteArray) (⟨#[115]⟩ : ByteArray) (⟨#[98]⟩ : ByteArray) (⟨#[69, 85, 82]⟩ : ByteArray) (⟨#[102]⟩ : ByteArray) (⟨#[116]⟩ : ByteArray) 0 y132 y136 (([(([4] : List Int)), (([6] : List Int))] : List (List Int)))).bind fun bt148 => (if bt148.2 = 0 then (if (bt148.1.length : Int) = 2 then ((order_May.f k (⟨#[111]⟩ : ByteArray) (⟨#[115]⟩ : ByteArray) (⟨#[98]⟩ : ByteArray) (⟨#[69, 85, 82]⟩ : ByteArray) (⟨#[102]⟩ : ByteArray) (⟨#[116]⟩ : ByteArray) 0 y132).bind fun t152 => (awk.j0 k bt148.1 (!t152) (⟨#[111]⟩ : ByteArray) (⟨#[115]⟩ : ByteArray) (⟨#[98]⟩ : ByteArray) (⟨#[69, 85, 82]⟩ : ByteArray) (⟨#[102]⟩ : ByteArray) (⟨#[116]⟩ : ByteArray) 0 y132)) else (awk.j0 k bt148.1 true (⟨#[111]⟩ : ByteArray) (⟨#[115]⟩ : ByteArray) (⟨#[98]⟩ : ByteArray) (⟨#[69, 85, 82]⟩ : ByteArray) (⟨#[102]⟩ : ByteArray) (⟨#[116]⟩ : ByteArray) 0 y132)) else (awk.j0 k bt148.1 true (⟨#[111]⟩ : ByteArray) (⟨#[115]⟩ : ByteArray) (⟨#[98]⟩ : ByteArray) (⟨#[69, 85, 82]⟩ : ByteArray) (⟨#[102]⟩ : ByteArray) (⟨#[116]⟩ : ByteArray) 0 y132))) = some r := by first | (rw [hy136]; with_reducible exact H) | (have H2_ := (Option.bind_some _ _).symm.trans H; rw [hy136]; with_reducible exact H2_) | (have H2_ := (Option.bind_some _ _).symm.trans H; with_reducible exact H2_) | with_reducible exact H | (rw [hy136]; exact H) | exact H
 have Ny136 := Aside0.mk hy136
 clear hy136
 obtain ⟨y139, hy139⟩ : ∃ y_ : List Int, y_ = (([4] : List Int)) := ⟨_, rfl⟩
 replace H : ((order_Cut.f k (⟨#[111]⟩ : ByteArray) (⟨#[115]⟩ : ByteArray) (⟨#[98]⟩ : ByteArray) (⟨#[69, 85, 82]⟩ : ByteArray) (⟨#[102]⟩ : ByteArray) (⟨#[116]⟩ : ByteArray) 0 y132 y136 (([y139, (([6] : List Int))] : List (List Int)))).bind fun bt148 => (if bt148.2 = 0 then (if (bt148.1.length : Int) = 2 then ((order_May.f k (⟨#[111]⟩ : ByteArray) (⟨#[115]⟩ : ByteArray) (⟨#[98]⟩ : ByteArray) (⟨#[69, 85, 82]⟩ : ByteArray) (⟨#[102]⟩ : ByteArray) (⟨#[116]⟩ : ByteArray) 0 y132).bind fun t152 => (awk.j0 k bt148.1 (!t152) (⟨#[111]⟩ : ByteArray) (⟨#[115]⟩ : ByteArray) (⟨#[98]⟩ : ByteArray) (⟨#[69, 85, 82]⟩ : ByteArray) (⟨#[102]⟩ : ByteArray) (⟨#[116]⟩ : ByteArray) 0 y132)) else (awk.j0 k bt148.1 true (⟨#[111]⟩ : ByteArray) (⟨#[115]⟩ : ByteArray) (⟨#[98]⟩ : ByteArray) (⟨#[69, 85, 82]⟩ : ByteArray) (⟨#[102]⟩ : ByteArray) (⟨#[116]⟩ : ByteArray) 0 y132)) else (awk.j0 k bt148.1 true (⟨#[111]⟩ : ByteArray) (⟨#[115]⟩ : ByteArray) (⟨#[98]⟩ : ByteArray) (⟨#[69, 85, 82]⟩ : ByteArray) (⟨#[102]⟩ : ByteArray) (⟨#[116]⟩ : ByteArray) 0 y132))) = some r := by first | (rw [hy139]; with_reducible exact H) | (have H2_ := (Option.bind_some _ _).symm.trans H; rw [hy139]; with_reducible exact H2_) | (have H2_ := (Option.bind_some _ _).symm.trans H; with_reducible exact H2_) | with_reducible exact H | (rw [hy139]; exact H) | exact H
 have Ny139 := Aside0.mk hy139
 clear hy139
 obtain ⟨y142, hy142⟩ : ∃ y_ : List Int, y_ = (([6] : List Int)) := ⟨_, rfl⟩
 replace H : ((order_Cut.f k (⟨#[111]⟩ : ByteArray) (⟨#[115]⟩ : ByteArray) (⟨#[98]⟩ : ByteArray) (⟨#[69, 85, 82]⟩ : ByteArray) (⟨#[102]⟩ : ByteArray) (⟨#[116]⟩ : ByteArray) 0 y132 y136 (([y139, y142] : List (List Int)))).bind fun bt148 => (if bt148.2 = 0 then (if (bt148.1.length : Int) = 2 then ((order_May.f k (⟨#[111]⟩ : ByteArray) (⟨#[115]⟩ : ByteArray) (⟨#[98]⟩ : ByteArray) (⟨#[69, 85, 82]⟩ : ByteArray) (⟨#[102]⟩ : ByteArray) (⟨#[116]⟩ : ByteArray) 0 y132).bind fun t152 => (awk.j0 k bt148.1 (!t152) (⟨#[111]⟩ : ByteArray) (⟨#[115]⟩ : ByteArray) (⟨#[98]⟩ : ByteArray) (⟨#[69, 85, 82]⟩ : ByteArray) (⟨#[102]⟩ : ByteArray) (⟨#[116]⟩ : ByteArray) 0 y132)) else (awk.j0 k bt148.1 true (⟨#[111]⟩ : ByteArray) (⟨#[115]⟩ : ByteArray) (⟨#[98]⟩ : ByteArray) (⟨#[69, 85, 82]⟩ : ByteArray) (⟨#[102]⟩ : ByteArray) (⟨#[116]⟩ : ByteArray) 0 y132)) else (awk.j0 k bt148.1 true (⟨#[111]⟩ : ByteArray) (⟨#[115]⟩ : ByteArray) (⟨#[98]⟩ : ByteArray) (⟨#[69, 85, 82]⟩ : ByteArray) (⟨#[102]⟩ : ByteArray) (⟨#[116]⟩ : ByteArray) 0 y132))) = some r := by first | (rw [hy142]; with_reducible exact H) | (have H2_ := (Option.bind_some _ _).symm.trans H; rw [hy142]; with_reducible exact H2_) | (have H2_ := (Option.bind_some _ _).symm.trans H; with_reducible exact H2_) | with_reducible exact H | (rw [hy142]; exact H) | exact H
 have Ny142 := Aside0.mk hy142
 clear hy142
 obtain ⟨y145, hy145⟩ : ∃ y_ : List (List Int), y_ = (([y139, y142] : List (List Int))) := ⟨_, rfl⟩
 replace H : ((order_Cut.f k (⟨#[111]⟩ : ByteArray) (⟨#[115]⟩ : ByteArray) (⟨#[98]⟩ : ByteArray) (⟨#[69, 85, 82]⟩ : ByteArray) (⟨#[102]⟩ : ByteArray) (⟨#[116]⟩ : ByteArray) 0 y132 y136 y145).bind fun bt148 => (if bt148.2 = 0 then (if (bt148.1.length : Int) = 2 then ((order_May.f k (⟨#[111]⟩ : ByteArray) (⟨#[115]⟩ : ByteArray) (⟨#[98]⟩ : ByteArray) (⟨#[69, 85, 82]⟩ : ByteArray) (⟨#[102]⟩ : ByteArray) (⟨#[116]⟩ : ByteArray) 0 y132).bind fun t152 => (awk.j0 k bt148.1 (!t152) (⟨#[111]⟩ : ByteArray) (⟨#[115]⟩ : ByteArray) (⟨#[98]⟩ : ByteArray) (⟨#[69, 85, 82]⟩ : ByteArray) (⟨#[102]⟩ : ByteArray) (⟨#[116]⟩ : ByteArray) 0 y132)) else (awk.j0 k bt148.1 true (⟨#[111]⟩ : ByteArray) (⟨#[115]⟩ : ByteArray) (⟨#[98]⟩ : ByteArray) (⟨#[69, 85, 82]⟩ : ByteArray) (⟨#[102]⟩ : ByteArray) (⟨#[116]⟩ : ByteArray) 0 y132)) else (awk.j0 k bt148.1 true (⟨#[111]⟩ : ByteArray) (⟨#[115]⟩ : ByteArray) (⟨#[98]⟩ : ByteArray) (⟨#[69, 85, 82]⟩ : ByteArray) (⟨#[102]⟩ : ByteArray) (⟨#[116]⟩ : ByteArray) 0 y132))) = some r := by first | (rw [hy145]; with_reducible exact H) | (have H2_ := (Option.bind_some _ _).symm.trans H; rw [hy145]; with_reducible exact H2_) | (have H2_ := (Option.bind_some _ _).symm.trans H; with_reducible exact H2_) | with_reducible exact H | (rw [hy145]; exact H) | exact H
 have Ny145 := Aside0.mk hy145
 clear hy145
 replace H := Option.bind_eq_some_iff.mp H
 obtain ⟨⟨t148, t151⟩, A10, H⟩ := H
 replace H : (if t151 = 0 then (if (t148.length : Int) = 2 then ((order_May.f k (⟨#[111]⟩ : ByteArray) (⟨#[115]⟩ : ByteArray) (⟨#[98]⟩ : ByteArray) (⟨#[69, 85, 82]⟩ : ByteArray) (⟨#[102]⟩ : ByteArray) (⟨#[116]⟩ : ByteArray) 0 y132).bind fun t152 => (awk.j0 k t148 (!t152) (⟨#[111]⟩ : ByteArray) (⟨#[115]⟩ : ByteArray) (⟨#[98]⟩ : ByteArray) (⟨#[69, 85, 82]⟩ : ByteArray) (⟨#[102]⟩ : ByteArray) (⟨#[116]⟩ : ByteArray) 0 y132)) else (awk.j0 k t148 true (⟨#[111]⟩ : ByteArray) (⟨#[115]⟩ : ByteArray) (⟨#[98]⟩ : ByteArray) (⟨#[69, 85, 82]⟩ : ByteArray) (⟨#[102]⟩ : ByteArray) (⟨#[116]⟩ : ByteArray) 0 y132)) else (awk.j0 k t148 true (⟨#[111]⟩ : ByteArray) (⟨#[115]⟩ : ByteArray) (⟨#[98]⟩ : ByteArray) (⟨#[69, 85, 82]⟩ : ByteArray) (⟨#[102]⟩ : ByteArray) (⟨#[116]⟩ : ByteArray) 0 y132)) = some r := H
 have A1 := Aside0.mk A10
 clear A10
 have HC2 := Aside0.mk H
 clear H
 go_enter Try.func11, Try.ntmps11
 go_upto_region 3 with (first | ((with_reducible refine gate_dst (N := 11) rfl ?_); (try (refine gate_guard (by rfl) ?_; dsimp only)); refine Kd.R_lit k65 _ 65 ?hg (N := 11) ?hd (xs := ([(⟨(⟨#[116, 101, 97]⟩ : ByteArray), 10, 3⟩ : S65)] : List (S65))) (inner := [.string (⟨#[116, 101, 97]⟩ : ByteArray), .int .i64 10, .int .i64 3]) (ok := fun _ => True) (okp := fun _ => True) ?hr ?hp (fun _ hk => hk) trivial (Below.refl _ _) (Nat.le_refl _) (by simp) ?_; (case hd => rfl); (case hg => rfl); (case hr => first | (go_simp; done) | (go_simp; rfl)); (case hp => exact (Reps.c3 (show Kd.M k65 _ _ _ (⟨(⟨#[116, 101, 97]⟩ : ByteArray), 10, 3⟩ : S65) [.string (⟨#[116, 101, 97]⟩ : ByteArray), .int .i64 10, .int .i64 3] from (k65_mkM _ _ _ (⟨(⟨#[116, 101, 97]⟩ : ByteArray), 10, 3⟩ : S65) )) (Reps.none _ _))); intro v133 w3 ho4 hb hg_ hnew_; clear hg_ hnew_; (first | rw [← Ny132.out] at ho4 | (simp only [Int.reduceToNat] at ho4; rw [← Ny132.out] at ho4)); have n0_ := Aside0.mk (Kd.R_lower ho4 (below_size (by repeat (first | (with_reducible first | exact HB.out | apply below_alloc | apply pw_below_drewN | apply below_drew1) | exact HB.out)))); have n1_ := Aside0.mk (below_step (by repeat (first | (with_reducible first | exact HB.out | apply below_alloc | apply pw_below_drewN | apply below_drew1) | exact HB.out)) hb); clear HB; have HO134 := n0_; have HB := n1_; clear n0_ n1_; clear hb ho4; obtain ⟨Ao5, co5, eo5⟩ := Kd.R_slice HO134.out; subst eo5) | ((with_reducible refine gate_dst (N := 1) rfl ?_); (try (refine gate_guard (by rfl) ?_; dsimp only)); refine box_event ?hg (N := 1) ?hd (cs := #[.string (⟨#[]⟩ : ByteArray), .string (⟨#[]⟩ : ByteArray), .string (⟨#[]⟩ : ByteArray), .string (⟨#[]⟩ : ByteArray), .string (⟨#[]⟩ : ByteArray), .string (⟨#[]⟩ : ByteArray), .int .i64 0, .slice none 0 0]) (t := 24) ?hr ?_; (case hd => rfl); (case hg => rfl); (case hr => first | (go_simp; done) | (go_simp; rfl)); intro gb135 hg w6 hbox hb; have n0_ := Aside0.mk (Kd.R_below (by (with_reducible repeat (first | apply Kd.R_alloc | apply Kd.R_drewN | apply Kd.R_drew)); exact HO134.out) hb); have n1_ := Aside0.mk (below_step (by repeat (first | (with_reducible first | exact HB.out | apply below_alloc | apply pw_below_drewN | apply below_drew1) | exact HB.out)) hb); have n2_ := Aside0.mk (hbox); have n3_ := Aside0.mk ((by rw [hg]; exact (below_size (by repeat (first | (with_reducible first | exact HB.out | apply below_alloc | apply pw_below_drewN | apply below_drew1) | exact HB.out))) : w.heap.size ≤ gb135)); have n4_ := Aside0.mk ((by rw [hg]; exact (below_size (by repeat (first | (with_reducible first | exact HB.out | apply below_alloc | apply pw_below_drewN | apply below_drew1) | exact HB.out))) : w.heap.size ≤ gb135)); clear HO134; clear HB; have HO134 := n0_; have HB := n1_; have BK135 := n2_; have GW135 := n3_; have GE135 := n4_; clear n0_ n1_ n2_ n3_ n4_; clear hb hbox hg; have hcz7_0 : w6.cell? ⟨gb135, 0, none⟩ = some (.string (⟨#[]⟩ : ByteArray)) := (blk_cell BK135.out 0).trans rfl; have hcz7_1 : w6.cell? ⟨gb135, 1, none⟩ = some (.string (⟨#[]⟩ : ByteArray)) := (blk_cell BK135.out 1).trans rfl; have hcz7_2 : w6.cell? ⟨gb135, 2, none⟩ = some (.string (⟨#[]⟩ : ByteArray)) := (blk_cell BK135.out 2).trans rfl; have hcz7_3 : w6.cell? ⟨gb135, 3, none⟩ = some (.string (⟨#[]⟩ : ByteArray)) := (blk_cell BK135.out 3).trans rfl; have hcz7_4 : w6.cell? ⟨gb135, 4, none⟩ = some (.string (⟨#[]⟩ : ByteArray)) := (blk_cell BK135.out 4).trans rfl; have hcz7_5 : w6.cell? ⟨gb135, 5, none⟩ = some (.string (⟨#[]⟩ : ByteArray)) := (blk_cell BK135.out 5).trans rfl; have hcz7_6 : w6.cell? ⟨gb135, 6, none⟩ = some (.int .i64 0) := (blk_cell BK135.out 6).trans rfl; have hcz7_7 : w6.cell? ⟨gb135, 7, none⟩ = some (.slice none 0 0) := (blk_cell BK135.out 7).trans rfl; have hfz7_0 := blk_frozen BK135.out 0; have hfz7_1 := blk_frozen BK135.out 1; have hfz7_2 := blk_frozen BK135.out 2; have hfz7_3 := blk_frozen BK135.out 3; have hfz7_4 := blk_frozen BK135.out 4; have hfz7_5 := blk_frozen BK135.out 5; have hfz7_6 := blk_frozen BK135.out 6; have hfz7_7 := blk_frozen BK135.out 7) | ((with_reducible refine gate_dst (N := 15) rfl ?_); (try (refine gate_guard (by rfl) ?_; dsimp only)); refine Kd.R_lit (Kd.int .i64) _ 3 ?hg (N := 15) ?hd (xs := ([1, 2] : List Int)) (inner := [.int .i64 1, .int .i64 2]) (ok := fun _ => True) (okp := fun _ => True) ?hr ?hp (fun _ hk => hk) trivial (Below.refl _ _) (Nat.le_refl _) (by simp) ?_; (case hd => rfl); (case hg => rfl); (case hr => first | (go_simp; done) | (go_simp; rfl)); (case hp => exact (Reps.one (show Kd.M (Kd.int .i64) _ _ _ 1 [.int .i64 1] from rfl) (Reps.one (show Kd.M (Kd.int .i64) _ _ _ 2 [.int .i64 2] from rfl) (Reps.none _ _)))); intro v137 w8 ho9 hb hg_ hnew_; clear hg_ hnew_; (first | rw [← Ny136.out] at ho9 | (simp only [Int.reduceToNat] at ho9; rw [← Ny136.out] at ho9)); have n0_ := Aside0.mk (Kd.R_below (by (with_reducible repeat (first | apply Kd.R_alloc | apply Kd.R_drewN | apply Kd.R_drew)); exact (Kd.R_mono (Kd.R_far (p := ⟨gb135, 7, none⟩) (Kd.R_far (p := ⟨gb135, 6, none⟩) (Kd.R_far (p := ⟨gb135, 5, none⟩) (Kd.R_far (p := ⟨gb135, 4, none⟩) (Kd.R_far (p := ⟨gb135, 3, none⟩) (Kd.R_far (p := ⟨gb135, 2, none⟩) (Kd.R_far (p := ⟨gb135, 1, none⟩) (Kd.R_far (p := ⟨gb135, 0, none⟩) (Kd.R_types HO134.out BK135.out (by decide)) (fun _ hk => hk.2) (.string (⟨#[111]⟩ : ByteArray))) (fun _ hk => hk.2) (.string (⟨#[115]⟩ : ByteArray))) (fun _ hk => hk.2) (.string (⟨#[98]⟩ : ByteArray))) (fun _ hk => hk.2) (.string (⟨#[69, 85, 82]⟩ : ByteArray))) (fun _ hk => hk.2) (.string (⟨#[102]⟩ : ByteArray))) (fun _ hk => hk.2) (.string (⟨#[116]⟩ : ByteArray))) (fun _ hk => hk.2) (.int .i64 0)) (fun _ hk => hk.2) (.slice Ao5 y132.length co5)) (fun _ h_ => h_.1))) hb); have n1_ := Aside0.mk (Kd.R_lower ho9 (below_size (by repeat (first | (with_reducible first | exact HB.out | apply below_alloc | apply pw_below_drewN | apply below_drew1 | refine below_set ?_ GE135.out) | exact HB.out)))); have n2_ := Aside0.mk (blk_below (g := gb135) (o := .cells #[.string (⟨#[111]⟩ : ByteArray), .string (⟨#[115]⟩ : ByteArray), .string (⟨#[98]⟩ : ByteArray), .string (⟨#[69, 85, 82]⟩ : ByteArray), .string (⟨#[102]⟩ : ByteArray), .string (⟨#[116]⟩ : ByteArray), .int .i64 0, .slice Ao5 y132.length co5] 24 (0, 0)) (by (with_reducible repeat (first | refine blk_drewN ?_ _ | refine blk_drew ?_ | refine blk_alloc ?_ _)); refine blk_put (cs := #[.string (⟨#[111]⟩ : ByteArray), .string (⟨#[115]⟩ : ByteArray), .string (⟨#[98]⟩ : ByteArray), .string (⟨#[69, 85, 82]⟩ : ByteArray), .string (⟨#[102]⟩ : ByteArray), .string (⟨#[116]⟩ : ByteArray), .int .i64 0, .slice none 0 0]) ?_ 7 _ rfl; (with_reducible repeat (first | refine blk_drewN ?_ _ | refine blk_drew ?_ | refine blk_alloc ?_ _)); refine blk_put (cs := #[.string (⟨#[111]⟩ : ByteArray), .string (⟨#[115]⟩ : ByteArray), .string (⟨#[98]⟩ : ByteArray), .string (⟨#[69, 85, 82]⟩ : ByteArray), .string (⟨#[102]⟩ : ByteArray), .string (⟨#[116]⟩ : ByteArray), .int .i64 0, .slice none 0 0]) ?_ 6 _ rfl; (with_reducible repeat (first | refine blk_drewN ?_ _ | refine blk_drew ?_ | refine blk_alloc ?_ _)); refine blk_put (cs := #[.string (⟨#[111]⟩ : ByteArray), .string (⟨#[115]⟩ : ByteArray), .string (⟨#[98]⟩ : ByteArray), .string (⟨#[69, 85, 82]⟩ : ByteArray), .string (⟨#[102]⟩ : ByteArray), .string (⟨#[]⟩ : ByteArray), .int .i64 0, .slice none 0 0]) ?_ 5 _ rfl; (with_reducible repeat (first | refine blk_drewN ?_ _ | refine blk_drew ?_ | refine blk_alloc ?_ _)); refine blk_put (cs := #[.string (⟨#[111]⟩ : ByteArray), .string (⟨#[115]⟩ : ByteArray), .string (⟨#[98]⟩ : ByteArray), .string (⟨#[69, 85, 82]⟩ : ByteArray), .string (⟨#[]⟩ : ByteArray), .string (⟨#[]⟩ : ByteArray), .int .i64 0, .slice none 0 0]) ?_ 4 _ rfl; (with_reducible repeat (first | refine blk_drewN ?_ _ | refine blk_drew ?_ | refine blk_alloc ?_ _)); refine blk_put (cs := #[.string (⟨#[111]⟩ : ByteArray), .string (⟨#[115]⟩ : ByteArray), .string (⟨#[98]⟩ : ByteArray), .string (⟨#[]⟩ : ByteArray), .string (⟨#[]⟩ : ByteArray), .string (⟨#[]⟩ : ByteArray), .int .i64 0, .slice none 0 0]) ?_ 3 _ rfl; (with_reducible repeat (first | refine blk_drewN ?_ _ | refine blk_drew ?_ | refine blk_alloc ?_ _)); refine blk_put (cs := #[.string (⟨#[111]⟩ : ByteArray), .string (⟨#[115]⟩ : ByteArray), .string (⟨#[]⟩ : ByteArray), .string (⟨#[]⟩ : ByteArray), .string (⟨#[]⟩ : ByteArray), .string (⟨#[]⟩ : ByteArray), .int .i64 0, .slice none 0 0]) ?_ 2 _ rfl; (with_reducible repeat (first | refine blk_drewN ?_ _ | refine blk_drew ?_ | refine blk_alloc ?_ _)); refine blk_put (cs := #[.string (⟨#[111]⟩ : ByteArray), .string (⟨#[]⟩ : ByteArray), .string (⟨#[]⟩ : ByteArray), .string (⟨#[]⟩ : ByteArray), .string (⟨#[]⟩ : ByteArray), .string (⟨#[]⟩ : ByteArray), .int .i64 0, .slice none 0 0]) ?_ 1 _ rfl; (with_reducible repeat (first | refine blk_drewN ?_ _ | refine blk_drew ?_ | refine blk_alloc ?_ _)); refine blk_put (cs := #[.string (⟨#[]⟩ : ByteArray), .string (⟨#[]⟩ : ByteArray), .string (⟨#[]⟩ : ByteArray), .string (⟨#[]⟩ : ByteArray), .string (⟨#[]⟩ : ByteArray), .string (⟨#[]⟩ : ByteArray), .int .i64 0, .slice none 0 0]) ?_ 0 _ rfl; (with_reducible repeat (first | refine blk_drewN ?_ _ | refine blk_drew ?_ | refine blk_alloc ?_ _)); exact BK135.out) hb); have n3_ := Aside0.mk (below_step (by repeat (first | (with_reducible first | exact HB.out | apply below_alloc | apply pw_below_drewN | apply below_drew1 | refine below_set ?_ GE135.out) | exact HB.out)) hb); clear HO134; clear BK135; clear HB; have HO134 := n0_; have HO138 := n1_; have BK135 := n2_; have HB := n3_; clear n0_ n1_ n2_ n3_; clear hb ho9) | ((with_reducible refine gate_dst (N := 16) rfl ?_); (try (refine gate_guard (by rfl) ?_; dsimp only)); refine Kd.R_lit (Kd.int .i64) _ 3 ?hg (N := 16) ?hd (xs := ([4] : List Int)) (inner := [.int .i64 4]) (ok := fun _ => True) (okp := fun _ => True) ?hr ?hp (fun _ hk => hk) trivial (Below.refl _ _) (Nat.le_refl _) (by simp) ?_; (case hd => rfl); (case hg => rfl); (case hr => first | (go_simp; done) | (go_simp; rfl)); (case hp => exact (Reps.one (show Kd.M (Kd.int .i64) _ _ _ 4 [.int .i64 4] from rfl) (Reps.none _ _))); intro v140 w10 ho11 hb hg_ hnew_; clear hg_ hnew_; (first | rw [← Ny139.out] at ho11 | (simp only [Int.reduceToNat] at ho11; rw [← Ny139.out] at ho11)); have n0_ := Aside0.mk (Kd.R_below (by (with_reducible repeat (first | apply Kd.R_alloc | apply Kd.R_drewN | apply Kd.R_drew)); exact HO134.out) hb); have n1_ := Aside0.mk (Kd.R_elder' (by (with_reducible repeat (first | apply Kd.R_alloc | apply Kd.R_drewN | apply Kd.R_drew)); exact HO138.out) (Kd.R_base ho11) hb); have n2_ := Aside0.mk (Kd.R_lower (Kd.R_new' ho11 (Kd.R_lt (by (with_reducible repeat (first | apply Kd.R_alloc | apply Kd.R_drewN | apply Kd.R_drew)); exact HO138.out))) (below_size (by repeat (first | (with_reducible first | exact HB.out | apply below_alloc | apply pw_below_drewN | apply below_drew1 | refine below_set ?_ GE135.out) | exact HB.out)))); have n3_ := Aside0.mk (blk_below (g := gb135) (o := .cells #[.string (⟨#[111]⟩ : ByteArray), .string (⟨#[115]⟩ : ByteArray), .string (⟨#[98]⟩ : ByteArray), .string (⟨#[69, 85, 82]⟩ : ByteArray), .string (⟨#[102]⟩ : ByteArray), .string (⟨#[116]⟩ : ByteArray), .int .i64 0, .slice Ao5 y132.length co5] 24 (0, 0)) (by (with_reducible repeat (first | refine blk_drewN ?_ _ | refine blk_drew ?_ | refine blk_alloc ?_ _)); exact BK135.out) hb); have n4_ := Aside0.mk (below_step (by repeat (first | (with_reducible first | exact HB.out | apply below_alloc | apply pw_below_drewN | apply below_drew1 | refine below_set ?_ GE135.out) | exact HB.out)) hb); clear HO134; clear HO138; clear BK135; clear HB; have HO134 := n0_; have HO138 := n1_; have HO141 := n2_; have BK135 := n3_; have HB := n4_; clear n0_ n1_ n2_ n3_ n4_; clear hb ho11) | ((with_reducible refine gate_dst (N := 17) rfl ?_); (try (refine gate_guard (by rfl) ?_; dsimp only)); refine Kd.R_lit (Kd.int .i64) _ 3 ?hg (N := 17) ?hd (xs := ([6] : List Int)) (inner := [.int .i64 6]) (ok := fun _ => True) (okp := fun _ => True) ?hr ?hp (fun _ hk => hk) trivial (Below.refl _ _) (Nat.le_refl _) (by simp) ?_; (case hd => rfl); (case hg => rfl); (case hr => first | (go_simp; done) | (go_simp; rfl)); (case hp => exact (Reps.one (show Kd.M (Kd.int .i64) _ _ _ 6 [.int .i64 6] from rfl) (Reps.none _ _))); intro v143 w12 ho13 hb hg_ hnew_; clear hg_ hnew_; (first | rw [← Ny142.out] at ho13 | (simp only [Int.reduceToNat] at ho13; rw [← Ny142.out] at ho13)); have n0_ := Aside0.mk (Kd.R_below (by (with_reducible repeat (first | apply Kd.R_alloc | apply Kd.R_drewN | apply Kd.R_drew)); exact HO134.out) hb); have n1_ := Aside0.mk (Kd.R_elder' (by (with_reducible repeat (first | apply Kd.R_alloc | apply Kd.R_drewN | apply Kd.R_drew)); exact HO138.out) (Kd.R_base ho13) hb); have n2_ := Aside0.mk (Kd.R_elder' (by (with_reducible repeat (first | apply Kd.R_alloc | apply Kd.R_drewN | apply Kd.R_drew)); exact HO141.out) (Kd.R_base ho13) hb); have n3_ := Aside0.mk (Kd.R_lower (Kd.R_new' (Kd.R_new' ho13 (Kd.R_lt (by (with_reducible repeat (first | apply Kd.R_alloc | apply Kd.R_drewN | apply Kd.R_drew)); exact HO138.out))) (Kd.R_lt (by (with_reducible repeat (first | apply Kd.R_alloc | apply Kd.R_drewN | apply Kd.R_drew)); exact HO141.out))) (below_size (by repeat (first | (with_reducible first | exact HB.out | apply below_alloc | apply pw_below_drewN | apply below_drew1 | refine below_set ?_ GE135.out) | exact HB.out)))); have n4_ := Aside0.mk (blk_below (g := gb135) (o := .cells #[.string (⟨#[111]⟩ : ByteArray), .string (⟨#[115]⟩ : ByteArray), .string (⟨#[98]⟩ : ByteArray), .string (⟨#[69, 85, 82]⟩ : ByteArray), .string (⟨#[102]⟩ : ByteArray), .string (⟨#[116]⟩ : ByteArray), .int .i64 0, .slice Ao5 y132.length co5] 24 (0, 0)) (by (with_reducible repeat (first | refine blk_drewN ?_ _ | refine blk_drew ?_ | refine blk_alloc ?_ _)); exact BK135.out) hb); have n5_ := Aside0.mk (below_step (by repeat (first | (with_reducible first | exact HB.out | apply below_alloc | apply pw_below_drewN | apply below_drew1 | refine below_set ?_ GE135.out) | exact HB.out)) hb); clear HO134; clear HO138; clear HO141; clear BK135; clear HB; have HO134 := n0_; have HO138 := n1_; have HO141 := n2_; have HO144 := n3_; have BK135 := n4_; have HB := n5_; clear n0_ n1_ n2_ n3_ n4_ n5_; clear hb ho13; obtain ⟨Ao14, co14, eo14⟩ := Kd.R_slice HO141.out; subst eo14; obtain ⟨Ao15, co15, eo15⟩ := Kd.R_slice HO144.out; subst eo15) | ((with_reducible refine gate_dst (N := 18) rfl ?_); (try (refine gate_guard (by rfl) ?_; dsimp only)); refine Kd.N_lit (Kd.slice 3 (Kd.int .i64)) _ 32 ?hg (N' := 18) ?hd (xs := ([y139, y142] : List (List Int))) (inner := [.slice Ao14 y139.length co14, .slice Ao15 y142.length co15]) (ok := (fun k_ => some k_ ≠ (.slice Ao5 y132.length co5 : Value).ownBlock ∧ some k_ ≠ (v137 : Value).ownBlock ∧ k_ ≠ gb135)) (okp := (fun k_ => some k_ ≠ (.slice Ao5 y132.length co5 : Value).ownBlock ∧ some k_ ≠ (v137 : Value).ownBlock ∧ k_ ≠ gb135)) ?hr ?hp (fun _ hk => hk) ((show ∀ k_, w12.heap.size ≤ k_ → (fun k_ => some k_ ≠ (.slice Ao5 y132.length co5 : Value).ownBlock ∧ some k_ ≠ (v137 : Value).ownBlock ∧ k_ ≠ gb135) k_ from fun k_ hk => ⟨Kd.fresh' (Kd.R_lt (by (with_reducible repeat (first | apply Kd.R_alloc | apply Kd.R_drewN | apply Kd.R_drew)); exact HO134.out)) k_ hk, Kd.fresh' (Kd.R_lt (by (with_reducible repeat (first | apply Kd.R_alloc | apply Kd.R_drewN | apply Kd.R_drew)); exact HO138.out)) k_ hk, Kd.freshB (g := gb135) (o := .cells #[.string (⟨#[111]⟩ : ByteArray), .string (⟨#[115]⟩ : ByteArray), .string (⟨#[98]⟩ : ByteArray), .string (⟨#[69, 85, 82]⟩ : ByteArray), .string (⟨#[102]⟩ : ByteArray), .string (⟨#[116]⟩ : ByteArray), .int .i64 0, .slice Ao5 y132.length co5] 24 (0, 0)) (by (with_reducible repeat (first | refine blk_drewN ?_ _ | refine blk_drew ?_ | refine blk_alloc ?_ _)); exact BK135.out) k_ hk⟩) _ (Nat.le_refl _)) (Below.refl _ _) (Nat.le_refl _) (by simp) ?_; (case hd => rfl); (case hg => rfl); (case hr => first | (go_simp; done) | (go_simp; rfl)); (case hp => exact (Reps.one (show Kd.FK (Kd.slice 3 (Kd.int .i64)) _ _ y139 [.slice Ao14 y139.length co14] from (Kd.FK_slice_mk (Kd.R_reads' (Kd.R_mono (ok' := (fun k_ => some k_ ≠ (.slice Ao5 y132.length co5 : Value).ownBlock ∧ some k_ ≠ (v137 : Value).ownBlock ∧ k_ ≠ gb135)) (Kd.R_types (Kd.R_apart' (HO141.out) (Kd.R_typed HO134.out) (by decide)) BK135.out (by decide)) (fun k_ hk => ⟨hk.1.2, ⟨hk.1.1.1.2, hk.2⟩⟩))).2.1 (Kd.R_F (Kd.R_mono (ok' := (fun k_ => some k_ ≠ (.slice Ao5 y132.length co5 : Value).ownBlock ∧ some k_ ≠ (v137 : Value).ownBlock ∧ k_ ≠ gb135)) (Kd.R_types (Kd.R_apart' (HO141.out) (Kd.R_typed HO134.out) (by decide)) BK135.out (by decide)) (fun k_ hk => ⟨hk.1.2, ⟨hk.1.1.1.2, hk.2⟩⟩))))) (Reps.one (show Kd.FK (Kd.slice 3 (Kd.int .i64)) _ _ y142 [.slice Ao15 y142.length co15] from (Kd.FK_slice_mk (Kd.R_reads' (Kd.R_mono (ok' := (fun k_ => some k_ ≠ (.slice Ao5 y132.length co5 : Value).ownBlock ∧ some k_ ≠ (v137 : Value).ownBlock ∧ k_ ≠ gb135)) (Kd.R_types (Kd.R_apart' (HO144.out) (Kd.R_typed HO134.out) (by decide)) BK135.out (by decide)) (fun k_ hk => ⟨hk.1.2, ⟨hk.1.1.1.2, hk.2⟩⟩))).2.1 (Kd.R_F (Kd.R_mono (ok' := (fun k_ => some k_ ≠ (.slice Ao5 y132.length co5 : Value).ownBlock ∧ some k_ ≠ (v137 : Value).ownBlock ∧ k_ ≠ gb135)) (Kd.R_types (Kd.R_apart' (HO144.out) (Kd.R_typed HO134.out) (by decide)) BK135.out (by decide)) (fun k_ hk => ⟨hk.1.2, ⟨hk.1.1.1.2, hk.2⟩⟩))))) (Reps.none _ _)))); intro v146 w16 ho17 hb hg_ hnew_; clear hg_ hnew_; (first | rw [← Ny145.out] at ho17 | (simp only [Int.reduceToNat] at ho17; rw [← Ny145.out] at ho17)); have n0_ := Aside0.mk (Kd.R_below (by (with_reducible repeat (first | apply Kd.R_alloc | apply Kd.R_drewN | apply Kd.R_drew)); exact HO134.out) hb); have n1_ := Aside0.mk (Kd.R_below (by (with_reducible repeat (first | apply Kd.R_alloc | apply Kd.R_drewN | apply Kd.R_drew)); exact HO138.out) hb); have n2_ := Aside0.mk (Kd.N_lower ho17 (below_size (by repeat (first | (with_reducible first | exact HB.out | apply below_alloc | apply pw_below_drewN | apply below_drew1 | refine below_set ?_ GE135.out) | exact HB.out)))); have n3_ := Aside0.mk (blk_below (g := gb135) (o := .cells #[.string (⟨#[111]⟩ : ByteArray), .string (⟨#[115]⟩ : ByteArray), .string (⟨#[98]⟩ : ByteArray), .string (⟨#[69, 85, 82]⟩ : ByteArray), .string (⟨#[102]⟩ : ByteArray), .string (⟨#[116]⟩ : ByteArray), .int .i64 0, .slice Ao5 y132.length co5] 24 (0, 0)) (by (with_reducible repeat (first | refine blk_drewN ?_ _ | refine blk_drew ?_ | refine blk_alloc ?_ _)); exact BK135.out) hb); have n4_ := Aside0.mk (below_step (by repeat (first | (with_reducible first | exact HB.out | apply below_alloc | apply pw_below_drewN | apply below_drew1 | refine below_set ?_ GE135.out) | exact HB.out)) hb); clear HO134; clear HO138; clear BK135; clear HB; clear HO141; clear HO144; have HO134 := n0_; have HO138 := n1_; have HO147 := n2_; have BK135 := n3_; have HB := n4_; clear n0_ n1_ n2_ n3_ n4_; clear hb ho17; obtain ⟨Ao18, co18, eo18⟩ := Kd.R_slice HO138.out; subst eo18; obtain ⟨Ao19, co19, eo19⟩ := Kd.N_slice HO147.out; subst eo19) | ((with_reducible refine gate_callee (f := 19) rfl ?_); refine goesL_ (some 19) rfl rfl Try.func19 (by kernel_rfl) rfl #[.agg #[.string (⟨#[111]⟩ : ByteArray), .string (⟨#[115]⟩ : ByteArray), .string (⟨#[98]⟩ : ByteArray), .string (⟨#[69, 85, 82]⟩ : ByteArray), .string (⟨#[102]⟩ : ByteArray), .string (⟨#[116]⟩ : ByteArray), .int .i64 0, .slice Ao5 y132.length co5], .slice Ao18 y136.length co18, .slice Ao19 y145.length co19] rfl (by (try simp only [List.map_toArray, List.map_cons, List.map_nil]); first | done | rfl | (simp only [List.length_drop, List.length_take]; rfl)) ?_; (with_reducible refine (order_Cut.calls k (⟨#[111]⟩ : ByteArray) (⟨#[115]⟩ : ByteArray) (⟨#[98]⟩ : ByteArray) (⟨#[69, 85, 82]⟩ : ByteArray) (⟨#[102]⟩ : ByteArray) (⟨#[116]⟩ : ByteArray) 0 _ _ y132 _ _ y136 _ _ y145 t148 t151 _ ?side1 ?side2 ?side3 ?side4 ?side5 ?side6 A1.out).mono ?_); (case side1 => repeat (first | exact (Kd.R_reads' HO134.out).2.2 | (with_reducible refine Kd.C_alloc ?_ _) | (with_reducible refine Kd.C_drewN ?_ _) | (with_reducible refine Kd.C_drew ?_))); (case side2 => exact (Kd.R_reads' HO134.out).2.1); (case side3 => repeat (first | exact (Kd.R_reads' HO138.out).2.2 | (with_reducible refine Kd.C_alloc ?_ _) | (with_reducible refine Kd.C_drewN ?_ _) | (with_reducible refine Kd.C_drew ?_))); (case side4 => exact (Kd.R_reads' HO138.out).2.1); (case side5 => repeat (first | exact (Kd.N_reads' HO147.out).2.2 | (with_reducible refine Kd.C_alloc ?_ _) | (with_reducible refine Kd.C_drewN ?_ _) | (with_reducible refine Kd.C_drew ?_))); (case side6 => exact (Kd.N_reads' HO147.out).2.1); rintro e w20 ⟨v149, rfl, ho0, hb⟩; refine ⟨_, rfl, ?_⟩; have n0_ := Aside0.mk (Kd.R_below (by (with_reducible repeat (first | apply Kd.R_alloc | apply Kd.R_drewN | apply Kd.R_drew)); exact HO134.out) hb); have n1_ := Aside0.mk (Kd.R_below (by (with_reducible repeat (first | apply Kd.R_alloc | apply Kd.R_drewN | apply Kd.R_drew)); exact HO138.out) hb); have n2_ := Aside0.mk (Kd.N_elder' (by (with_reducible repeat (first | apply Kd.N_alloc | apply Kd.N_drewN | apply Kd.N_drew)); exact HO147.out) (Kd.S_base ho0) hb); have n3_ := Aside0.mk (Kd.N_lower (Kd.N_mono (ok' := fun k_ => some k_ ≠ (.slice Ao5 y132.length co5 : Value).ownBlock ∧ some k_ ≠ (.slice Ao18 y136.length co18 : Value).ownBlock ∧ some k_ ≠ (.slice Ao19 y145.length co19 : Value).ownBlock ∧ k_ ≠ gb135) (Kd.S_N (Kd.S_bound ho0)) (fun k_ hk_ => ⟨(Kd.fresh' (Kd.R_lt (by (with_reducible repeat (first | apply Kd.R_alloc | apply Kd.R_drewN | apply Kd.R_drew)); exact HO134.out)) k_ hk_.2.1), (Kd.fresh' (Kd.R_lt (by (with_reducible repeat (first | apply Kd.R_alloc | apply Kd.R_drewN | apply Kd.R_drew)); exact HO138.out)) k_ hk_.2.1), (Kd.fresh' (Kd.N_lt (by (with_reducible repeat (first | apply Kd.N_alloc | apply Kd.N_drewN | apply Kd.N_drew)); exact HO147.out)) k_ hk_.2.1), (Kd.freshB (g := gb135) (o := .cells #[.string (⟨#[111]⟩ : ByteArray), .string (⟨#[115]⟩ : ByteArray), .string (⟨#[98]⟩ : ByteArray), .string (⟨#[69, 85, 82]⟩ : ByteArray), .string (⟨#[102]⟩ : ByteArray), .string (⟨#[116]⟩ : ByteArray), .int .i64 0, .slice Ao5 y132.length co5] 24 (0, 0)) (by (with_reducible repeat (first | refine blk_drewN ?_ _ | refine blk_drew ?_ | refine blk_alloc ?_ _)); exact BK135.out) k_ hk_.2.1)⟩)) (below_size (by repeat (first | (with_reducible first | exact HB.out | apply below_alloc | apply pw_below_drewN | apply below_drew1 | refine below_set ?_ GE135.out) | exact HB.out)))); have n4_ := Aside0.mk (blk_below (g := gb135) (o := .cells #[.string (⟨#[111]⟩ : ByteArray), .string (⟨#[115]⟩ : ByteArray), .string (⟨#[98]⟩ : ByteArray), .string (⟨#[69, 85, 82]⟩ : ByteArray), .string (⟨#[102]⟩ : ByteArray), .string (⟨#[116]⟩ : ByteArray), .int .i64 0, .slice Ao5 y132.length co5] 24 (0, 0)) (by (with_reducible repeat (first | refine blk_drewN ?_ _ | refine blk_drew ?_ | refine blk_alloc ?_ _)); exact BK135.out) hb); have n5_ := Aside0.mk (below_step (by repeat (first | (with_reducible first | exact HB.out | apply below_alloc | apply pw_below_drewN | apply below_drew1 | refine below_set ?_ GE135.out) | exact HB.out)) hb); clear HO134; clear HO138; clear HO147; clear BK135; clear HB; have HO134 := n0_; have HO138 := n1_; have HO147 := n2_; have HO150 := n3_; have BK135 := n4_; have HB := n5_; clear n0_ n1_ n2_ n3_ n4_ n5_; (try clear hb); (try clear hb2); (try clear hk); (try clear hi); (try clear ho0)))
 (try simp only [Act.put, List.setIfInBounds_toArray, List.set_cons_zero, List.set_cons_succ])
 go_cut [33] (fun v33 wc => ∃ (kq : Nat) (x33_1 : Bool), v33 = .bool x33_1 ∧ Aside0 (awk.j0 kq t148 x33_1 (⟨#[111]⟩ : ByteArray) (⟨#[115]⟩ : ByteArray) (⟨#[98]⟩ : ByteArray) (⟨#[69, 85, 82]⟩ : ByteArray) (⟨#[102]⟩ : ByteArray) (⟨#[116]⟩ : ByteArray) 0 y132 = some r) ∧ Aside0 (kq ≤ k) ∧ Aside0 (Kd.N k42 42 wc w.heap.size (fun k_ => some k_ ≠ ((.slice Ao5 y132.length co5) : Value).ownBlock ∧ k_ ≠ gb135) v149 t148) ∧ Aside0 (Kd.R k65 65 wc w.heap.size (fun _ => True) (.slice Ao5 y132.length co5) y132) ∧ Aside0 (wc.heap[gb135]? = some (.cells #[.string (⟨#[111]⟩ : ByteArray), .string (⟨#[115]⟩ : ByteArray), .string (⟨#[98]⟩ : ByteArray), .string (⟨#[69, 85, 82]⟩ : ByteArray), .string (⟨#[102]⟩ : ByteArray), .string (⟨#[116]⟩ : ByteArray), .int .i64 0, (.slice Ao5 y132.length co5)] 24 (0, 0))) ∧ Aside0 (Below w.heap.size w wc))
 case first => (
have H := HC2.out
clear HC2
by_cases c21 : t151 = 0
·(
rw [if_pos c21] at H
have c21b0 : (t151 == 0) = true := beq_iff_eq.mpr c21
have c21b1 : (t151 != 0) = false := bne_eq_false_iff_eq.mpr c21
clear c21
(first | rw [c21b0] | (simp only [i64_w, i32_w]; rw [c21b0]) | skip)
by_cases c22 : (t148.length : Int) = 2
·(
rw [if_pos c22] at H
have c22b0 : ((t148.length : Int) == 2) = true := beq_iff_eq.mpr c22
have c22b1 : ((t148.length : Int) != 2) = false := bne_eq_false_iff_eq.mpr c22
clear c22
replace H := Option.bind_eq_some_iff.mp H
obtain ⟨t152, A230, H⟩ := H
replace H : (awk.j0 k t148 (!t152) (⟨#[111]⟩ : ByteArray) (⟨#[115]⟩ : ByteArray) (⟨#[98]⟩ : ByteArray) (⟨#[69, 85, 82]⟩ : ByteArray) (⟨#[102]⟩ : ByteArray) (⟨#[116]⟩ : ByteArray) 0 y132) = some r := H
have A23 := Aside0.mk A230
clear A230
have H' := Aside0.mk H
clear H
obtain ⟨Ao24, co24, eo24⟩ := Kd.N_slice HO150.out
subst eo24
have hcz25_0 : w20.cell? ⟨gb135, 0, none⟩ = some (.string (⟨#[111]⟩ : ByteArray)) := (blk_cell BK135.out 0).trans rfl
have hcz25_1 : w20.cell? ⟨gb135, 1, none⟩ = some (.string (⟨#[115]⟩ : ByteArray)) := (blk_cell BK135.out 1).trans rfl
have hcz25_2 : w20.cell? ⟨gb135, 2, none⟩ = some (.string (⟨#[98]⟩ : ByteArray)) := (blk_cell BK135.out 2).trans rfl
have hcz25_3 : w20.cell? ⟨gb135, 3, none⟩ = some (.string (⟨#[69, 85, 82]⟩ : ByteArray)) := (blk_cell BK135.out 3).trans rfl
have hcz25_4 : w20.cell? ⟨gb135, 4, none⟩ = some (.string (⟨#[102]⟩ : ByteArray)) := (blk_cell BK135.out 4).trans rfl
have hcz25_5 : w20.cell? ⟨gb135, 5, none⟩ = some (.string (⟨#[116]⟩ : ByteArray)) := (blk_cell BK135.out 5).trans rfl
have hcz25_6 : w20.cell? ⟨gb135, 6, none⟩ = some (.int .i64 0) := (blk_cell BK135.out 6).trans rfl
have hcz25_7 : w20.cell? ⟨gb135, 7, none⟩ = some (.slice Ao5 y132.length co5) := (blk_cell BK135.out 7).trans rfl
have hfz25_0 := blk_frozen BK135.out 0
have hfz25_1 := blk_frozen BK135.out 1
have hfz25_2 := blk_frozen BK135.out 2
have hfz25_3 := blk_frozen BK135.out 3
have hfz25_4 := blk_frozen BK135.out 4
have hfz25_5 := blk_frozen BK135.out 5
have hfz25_6 := blk_frozen BK135.out 6
have hfz25_7 := blk_frozen BK135.out 7
go_wp2_with (first | (go_at_call 15; (with_reducible refine (order_May.calls k (⟨#[111]⟩ : ByteArray) (⟨#[115]⟩ : ByteArray) (⟨#[98]⟩ : ByteArray) (⟨#[69, 85, 82]⟩ : ByteArray) (⟨#[102]⟩ : ByteArray) (⟨#[116]⟩ : ByteArray) 0 _ _ y132 t152 _ ?side1 ?side2 A23.out).mono ?_); (case side1 => repeat (first | exact (Kd.R_reads' HO134.out).2.2 | (with_reducible refine Kd.C_alloc ?_ _) | (with_reducible refine Kd.C_drewN ?_ _) | (with_reducible refine Kd.C_drew ?_))); (case side2 => exact (Kd.R_reads' HO134.out).2.1); rintro e w26 ⟨rfl, hb⟩; have n0_ := Aside0.mk (Kd.R_below (by (with_reducible repeat (first | apply Kd.R_alloc | apply Kd.R_drewN | apply Kd.R_drew)); exact HO134.out) hb); have n1_ := Aside0.mk (Kd.R_below (by (with_reducible repeat (first | apply Kd.R_alloc | apply Kd.R_drewN | apply Kd.R_drew)); exact HO138.out) hb); have n2_ := Aside0.mk (Kd.N_below (by (with_reducible repeat (first | apply Kd.N_alloc | apply Kd.N_drewN | apply Kd.N_drew)); exact HO147.out) hb); have n3_ := Aside0.mk (Kd.N_below (by (with_reducible repeat (first | apply Kd.N_alloc | apply Kd.N_drewN | apply Kd.N_drew)); exact HO150.out) hb); have n4_ := Aside0.mk (blk_below (g := gb135) (o := .cells #[.string (⟨#[111]⟩ : ByteArray), .string (⟨#[115]⟩ : ByteArray), .string (⟨#[98]⟩ : ByteArray), .string (⟨#[69, 85, 82]⟩ : ByteArray), .string (⟨#[102]⟩ : ByteArray), .string (⟨#[116]⟩ : ByteArray), .int .i64 0, .slice Ao5 y132.length co5] 24 (0, 0)) (by (with_reducible repeat (first | refine blk_drewN ?_ _ | refine blk_drew ?_ | refine blk_alloc ?_ _)); exact BK135.out) hb); have n5_ := Aside0.mk (below_step (by repeat (first | (with_reducible first | exact HB.out | apply below_alloc | apply pw_below_drewN | apply below_drew1 | refine below_set ?_ GE135.out) | exact HB.out)) hb); clear HO134; clear HO138; clear HO147; clear HO150; clear BK135; clear HB; have HO134 := n0_; have HO138 := n1_; have HO147 := n2_; have HO150 := n3_; have BK135 := n4_; have HB := n5_; clear n0_ n1_ n2_ n3_ n4_ n5_; (try clear hb); (try clear hb2); (try clear hk); (try clear hi)))
go_meet
case rel => exact ⟨_, (!t152), (by first | rfl | (simp; done) | (simp [*]; done)), H', ⟨by first | omega | exact Nat.le_refl _⟩, ⟨by (with_reducible repeat (first | apply Kd.N_alloc | apply Kd.N_drewN | apply Kd.N_drew)); exact Kd.N_mono HO150.out (fun _ hk => ⟨hk.1, hk.2.2.2⟩)⟩, ⟨by (with_reducible repeat (first | apply Kd.R_alloc | apply Kd.R_drewN | apply Kd.R_drew)); exact HO134.out⟩, ⟨by (with_reducible repeat (first | refine blk_drewN ?_ _ | refine blk_drew ?_ | refine blk_alloc ?_ _)); exact BK135.out⟩, ⟨by repeat (first | (with_reducible first | exact HB.out | apply below_alloc | apply pw_below_drewN | apply below_drew1 | refine below_set ?_ GE135.out) | exact HB.out)⟩⟩
)
·(
rw [if_neg c22] at H
have c22b0 : ((t148.length : Int) == 2) = false := beq_eq_false_iff_ne.mpr c22
have c22b1 : ((t148.length : Int) != 2) = true := bne_iff_ne.mpr c22
have H' := Aside0.mk H
clear H
obtain ⟨Ao27, co27, eo27⟩ := Kd.N_slice HO150.out
subst eo27
go_wp2
go_meet
case rel => exact ⟨_, (true), (by first | rfl | (simp; done) | (simp [*]; done)), H', ⟨by first | omega | exact Nat.le_refl _⟩, ⟨by (with_reducible repeat (first | apply Kd.N_alloc | apply Kd.N_drewN | apply Kd.N_drew)); exact Kd.N_mono HO150.out (fun _ hk => ⟨hk.1, hk.2.2.2⟩)⟩, ⟨by (with_reducible repeat (first | apply Kd.R_alloc | apply Kd.R_drewN | apply Kd.R_drew)); exact HO134.out⟩, ⟨by (with_reducible repeat (first | refine blk_drewN ?_ _ | refine blk_drew ?_ | refine blk_alloc ?_ _)); exact BK135.out⟩, ⟨by repeat (first | (with_reducible first | exact HB.out | apply below_alloc | apply pw_below_drewN | apply below_drew1 | refine below_set ?_ GE135.out) | exact HB.out)⟩⟩
)
)
·(
rw [if_neg c21] at H
have c21b0 : (t151 == 0) = false := beq_eq_false_iff_ne.mpr c21
have c21b1 : (t151 != 0) = true := bne_iff_ne.mpr c21
(first | rw [c21b0] | (simp only [i64_w, i32_w]; rw [c21b0]) | skip)
have H' := Aside0.mk H
clear H
go_wp2
go_meet
case rel => exact ⟨_, (true), (by first | rfl | (simp; done) | (simp [*]; done)), H', ⟨by first | omega | exact Nat.le_refl _⟩, ⟨by (with_reducible repeat (first | apply Kd.N_alloc | apply Kd.N_drewN | apply Kd.N_drew)); exact Kd.N_mono HO150.out (fun _ hk => ⟨hk.1, hk.2.2.2⟩)⟩, ⟨by (with_reducible repeat (first | apply Kd.R_alloc | apply Kd.R_drewN | apply Kd.R_drew)); exact HO134.out⟩, ⟨by (with_reducible repeat (first | refine blk_drewN ?_ _ | refine blk_drew ?_ | refine blk_alloc ?_ _)); exact BK135.out⟩, ⟨by repeat (first | (with_reducible first | exact HB.out | apply below_alloc | apply pw_below_drewN | apply below_drew1 | refine below_set ?_ GE135.out) | exact HB.out)⟩⟩
)
)
 case rest => (
clear HC2
try clear c1
try clear c2
try clear p2
try clear c3
try clear c11
try clear c19
try clear c21
try clear c21b0
try clear c21b1
try clear c22
try clear c22b0
try clear c22b1
try clear hcz25_0
try clear hcz25_1
try clear hcz25_2
try clear hcz25_3
try clear hcz25_4
try clear hcz25_5
try clear hcz25_6
try clear hcz25_7
try clear hcz7_0
try clear hcz7_1
try clear hcz7_2
try clear hcz7_3
try clear hcz7_4
try clear hcz7_5
try clear hcz7_6
try clear hcz7_7
try clear hfz25_0
try clear hfz25_1
try clear hfz25_2
try clear hfz25_3
try clear hfz25_4
try clear hfz25_5
try clear hfz25_6
try clear hfz25_7
try clear hfz7_0
try clear hfz7_1
try clear hfz7_2
try clear hfz7_3
try clear hfz7_4
try clear hfz7_5
try clear hfz7_6
try clear hfz7_7
obtain ⟨kq, x33_1, rfl, HA, HJ1, HO_2, HO_136007, BK135, HB⟩ := hcut
cases kq with
| zero => exact absurd HA.out (by simp [awk.j0])
| succ kj1 => (
have H := HA.out
clear HA
simp only [awk.j0] at H
by_cases c28 : x33_1 = true
·(
subst c28
have H1 : (some false) = some r := by rw [if_pos rfl] at H; exact H
clear H
have H := H1
clear H1
exact absurd (Option.some.inj H) (by rw [hT.out]; decide)
)
·(
replace c28 := Bool.eq_false_iff.mpr c28
subst c28
have H1 : (if 0 < (t148.length : Int) then ((order_Value.f kj1 (⟨#[111]⟩ : ByteArray) (⟨#[115]⟩ : ByteArray) (⟨#[98]⟩ : ByteArray) (⟨#[69, 85, 82]⟩ : ByteArray) (⟨#[102]⟩ : ByteArray) (⟨#[116]⟩ : ByteArray) 0 y132 ((rd_T42 t148 0).f0) ((rd_T42 t148 0).f1) ((rd_T42 t148 0).f2) ((rd_T42 t148 0).f3)).bind fun bt154 => (if 1 < (t148.length : Int) then ((order_Value.f kj1 (⟨#[111]⟩ : ByteArray) (⟨#[115]⟩ : ByteArray) (⟨#[98]⟩ : ByteArray) (⟨#[69, 85, 82]⟩ : ByteArray) (⟨#[102]⟩ : ByteArray) (⟨#[116]⟩ : ByteArray) 0 y132 ((rd_T42 t148 1).f0) ((rd_T42 t148 1).f1) ((rd_T42 t148 1).f2) ((rd_T42 t148 1).f3)).bind fun bt157 => ((order_Total.f kj1 (⟨#[111]⟩ : ByteArray) (⟨#[115]⟩ : ByteArray) (⟨#[98]⟩ : ByteArray) (⟨#[69, 85, 82]⟩ : ByteArray) (⟨#[102]⟩ : ByteArray) (⟨#[116]⟩ : ByteArray) 0 y132).bind fun bt159 => (if bt154.1 = 12 then (if bt157.1 = 18 then (if bt159.1 = 30 then (if bt154.2 = 0 then (if bt157.2 = 0 then (if bt159.2 = 0 then ((order_Same.f kj1 (⟨#[111]⟩ : ByteArray) (⟨#[115]⟩ : ByteArray) (⟨#[98]⟩ : ByteArray) (⟨#[69, 85, 82]⟩ : ByteArray) (⟨#[102]⟩ : ByteArray) (⟨#[116]⟩ : ByteArray) 0 y132 (⟨#[111]⟩ : ByteArray) (⟨#[115]⟩ : ByteArray) (⟨#[98]⟩ : ByteArray) (⟨#[69, 85, 82]⟩ : ByteArray) (⟨#[102]⟩ : ByteArray) (⟨#[116]⟩ : ByteArray) 0 y132).bind fun t161 => (some t161)) else (some false)) else (some false)) else (some false)) else (some false)) else (some false)) else (some false)))) else (none))) else (none)) = some r := by rw [if_neg (show ¬ (false = true) by decide)] at H; exact H
clear H
have H := H1
clear H1
by_cases c29 : 0 < (t148.length : Int)
·(
rw [if_pos c29] at H
have c29b0 : decide (0 < (t148.length : Int)) = true := decide_eq_true c29
have c29b1 : decide (0 < t148.length) = true := decide_eq_true (by omega)
clear c29
replace H := Option.bind_eq_some_iff.mp H
obtain ⟨⟨t154, t155⟩, A300, H⟩ := H
replace H : (if 1 < (t148.length : Int) then ((order_Value.f kj1 (⟨#[111]⟩ : ByteArray) (⟨#[115]⟩ : ByteArray) (⟨#[98]⟩ : ByteArray) (⟨#[69, 85, 82]⟩ : ByteArray) (⟨#[102]⟩ : ByteArray) (⟨#[116]⟩ : ByteArray) 0 y132 ((rd_T42 t148 1).f0) ((rd_T42 t148 1).f1) ((rd_T42 t148 1).f2) ((rd_T42 t148 1).f3)).bind fun bt157 => ((order_Total.f kj1 (⟨#[111]⟩ : ByteArray) (⟨#[115]⟩ : ByteArray) (⟨#[98]⟩ : ByteArray) (⟨#[69, 85, 82]⟩ : ByteArray) (⟨#[102]⟩ : ByteArray) (⟨#[116]⟩ : ByteArray) 0 y132).bind fun bt159 => (if t154 = 12 then (if bt157.1 = 18 then (if bt159.1 = 30 then (if t155 = 0 then (if bt157.2 = 0 then (if bt159.2 = 0 then ((order_Same.f kj1 (⟨#[111]⟩ : ByteArray) (⟨#[115]⟩ : ByteArray) (⟨#[98]⟩ : ByteArray) (⟨#[69, 85, 82]⟩ : ByteArray) (⟨#[102]⟩ : ByteArray) (⟨#[116]⟩ : ByteArray) 0 y132 (⟨#[111]⟩ : ByteArray) (⟨#[115]⟩ : ByteArray) (⟨#[98]⟩ : ByteArray) (⟨#[69, 85, 82]⟩ : ByteArray) (⟨#[102]⟩ : ByteArray) (⟨#[116]⟩ : ByteArray) 0 y132).bind fun t161 => (some t161)) else (some false)) else (some false)) else (some false)) else (some false)) else (some false)) else (some false)))) else (none)) = some r := H
have A30 := Aside0.mk A300
clear A300
by_cases c31 : 1 < (t148.length : Int)
·(
rw [if_pos c31] at H
have c31b0 : decide (1 < (t148.length : Int)) = true := decide_eq_true c31
have c31b1 : decide (1 < t148.length) = true := decide_eq_true (by omega)
clear c31
replace H := Option.bind_eq_some_iff.mp H
obtain ⟨⟨t157, t158⟩, A320, H⟩ := H
replace H : ((order_Total.f kj1 (⟨#[111]⟩ : ByteArray) (⟨#[115]⟩ : ByteArray) (⟨#[98]⟩ : ByteArray) (⟨#[69, 85, 82]⟩ : ByteArray) (⟨#[102]⟩ : ByteArray) (⟨#[116]⟩ : ByteArray) 0 y132).bind fun bt159 => (if t154 = 12 then (if t157 = 18 then (if bt159.1 = 30 then (if t155 = 0 then (if t158 = 0 then (if bt159.2 = 0 then ((order_Same.f kj1 (⟨#[111]⟩ : ByteArray) (⟨#[115]⟩ : ByteArray) (⟨#[98]⟩ : ByteArray) (⟨#[69, 85, 82]⟩ : ByteArray) (⟨#[102]⟩ : ByteArray) (⟨#[116]⟩ : ByteArray) 0 y132 (⟨#[111]⟩ : ByteArray) (⟨#[115]⟩ : ByteArray) (⟨#[98]⟩ : ByteArray) (⟨#[69, 85, 82]⟩ : ByteArray) (⟨#[102]⟩ : ByteArray) (⟨#[116]⟩ : ByteArray) 0 y132).bind fun t161 => (some t161)) else (some false)) else (some false)) else (some false)) else (some false)) else (some false)) else (some false))) = some r := H
have A32 := Aside0.mk A320
clear A320
replace H := Option.bind_eq_some_iff.mp H
obtain ⟨⟨t159, t160⟩, A330, H⟩ := H
replace H : (if t154 = 12 then (if t157 = 18 then (if t159 = 30 then (if t155 = 0 then (if t158 = 0 then (if t160 = 0 then ((order_Same.f kj1 (⟨#[111]⟩ : ByteArray) (⟨#[115]⟩ : ByteArray) (⟨#[98]⟩ : ByteArray) (⟨#[69, 85, 82]⟩ : ByteArray) (⟨#[102]⟩ : ByteArray) (⟨#[116]⟩ : ByteArray) 0 y132 (⟨#[111]⟩ : ByteArray) (⟨#[115]⟩ : ByteArray) (⟨#[98]⟩ : ByteArray) (⟨#[69, 85, 82]⟩ : ByteArray) (⟨#[102]⟩ : ByteArray) (⟨#[116]⟩ : ByteArray) 0 y132).bind fun t161 => (some t161)) else (some false)) else (some false)) else (some false)) else (some false)) else (some false)) else (some false)) = some r := H
have A33 := Aside0.mk A330
clear A330
by_cases c34 : t154 = 12
·(
rw [if_pos c34] at H
have c34b0 : (t154 == 12) = true := beq_iff_eq.mpr c34
have c34b1 : (t154 != 12) = false := bne_eq_false_iff_eq.mpr c34
clear c34
by_cases c35 : t157 = 18
·(
rw [if_pos c35] at H
have c35b0 : (t157 == 18) = true := beq_iff_eq.mpr c35
have c35b1 : (t157 != 18) = false := bne_eq_false_iff_eq.mpr c35
clear c35
by_cases c36 : t159 = 30
·(
rw [if_pos c36] at H
have c36b0 : (t159 == 30) = true := beq_iff_eq.mpr c36
have c36b1 : (t159 != 30) = false := bne_eq_false_iff_eq.mpr c36
clear c36
by_cases c37 : t155 = 0
·(
rw [if_pos c37] at H
have c37b0 : (t155 == 0) = true := beq_iff_eq.mpr c37
have c37b1 : (t155 != 0) = false := bne_eq_false_iff_eq.mpr c37
clear c37
by_cases c38 : t158 = 0
·(
rw [if_pos c38] at H
have c38b0 : (t158 == 0) = true := beq_iff_eq.mpr c38
have c38b1 : (t158 != 0) = false := bne_eq_false_iff_eq.mpr c38
clear c38
by_cases c39 : t160 = 0
·(
rw [if_pos c39] at H
have c39b0 : (t160 == 0) = true := beq_iff_eq.mpr c39
have c39b1 : (t160 != 0) = false := bne_eq_false_iff_eq.mpr c39
clear c39
replace H := Option.bind_eq_some_iff.mp H
obtain ⟨t161, A400, H⟩ := H
replace H : (some t161) = some r := H
have A40 := Aside0.mk A400
clear A400
clear hT; obtain rfl := Option.some.inj H
try go_wp2
have n0_ := Aside0.mk (Kd.N_drew HO_2.out)
have n1_ := Aside0.mk (Kd.R_drew HO_136007.out)
have n2_ := Aside0.mk (blk_drew BK135.out)
have n3_ := Aside0.mk (below_drew1 HB.out)
clear HO_2
clear HO_136007
clear BK135
clear HB
have HO_2 := n0_
have HO_136007 := n1_
have BK135 := n2_
have HB := n3_
clear n0_ n1_ n2_ n3_
obtain ⟨Ao42, co42, eo42⟩ := Kd.N_slice HO_2.out
(first | subst eo42 | (injection eo42 with f1_ f2_ f3_; have f4_ := f1_.symm; have f5_ := f3_.symm; clear f1_ f2_ f3_; subst f4_; subst f5_))
have p153 : 0 ≤ (0 : Int) := (by omega)
have q153 : 0 < (t148.length : Int) := of_decide_eq_true (by first | (with_reducible assumption) | assumption)
obtain ⟨ad153, A153_3, c153_3, e153, hx153_0, hx153_1, hx153_2, hx153_3, hl153_3, hi153_3⟩ := at_T42 (Kd.N_reads' HO_2.out).2.2 0 p153 q153
cases e153
obtain ⟨ce153, hce153, hMe153, hcc153⟩ := Kd.N_get HO_2.out z42 0 p153 (by first | exact q153 | exact of_decide_eq_true (by first | (with_reducible assumption) | assumption) | (have e_ := (Kd.N_reads' HO_2.out).1; omega))
obtain ⟨ua153_3, uc153_3, rfl, ul153_3, ge153_3⟩ := k42_openF hMe153
have hv153_3 := hcc153 3 _ rfl
rw [add_field _ _ 3 (by omega)] at hv153_3
replace hv153_3 := Option.some.inj (hv153_3.symm.trans hx153_3)
injection hv153_3 with hva_ hvn_ hvc_
rw [hva_] at ge153_3
rw [hvc_] at ul153_3
have HL153_3 := Aside0.mk (show Kd.V k67 67 _ w.heap.size _ _ ((rd_T42 t148 0).f3) from Kd.V_mk ul153_3 ge153_3)
clear hva_ hvn_ hvc_ ge153_3 ul153_3
clear hcc153 hce153
have qi153 : (0 < t148.length) = True := eq_true (by omega)
(try rw [show ((0 : Int)).toNat = 0 from rfl] at hx153_0)
(try rw [show 0 * 4 = 0 from rfl] at hx153_0)
(try rw [Addr.add_zero'] at hx153_0)
(try rw [show ((0 : Int)).toNat = 0 from rfl] at hx153_1)
(try rw [show 0 * 4 = 0 from rfl] at hx153_1)
(try rw [Addr.add_zero'] at hx153_1)
(try rw [show ((0 : Int)).toNat = 0 from rfl] at hx153_2)
(try rw [show 0 * 4 = 0 from rfl] at hx153_2)
(try rw [Addr.add_zero'] at hx153_2)
(try rw [show ((0 : Int)).toNat = 0 from rfl] at hx153_3)
(try rw [show 0 * 4 = 0 from rfl] at hx153_3)
(try rw [Addr.add_zero'] at hx153_3)
have HR153_3 := Aside0.mk hi153_3
have HC153_3 := Aside0.mk hl153_3
clear hi153_3 hl153_3
replace p153 := eq_true p153
replace q153 := eq_true q153
refine start_ (n := 10) (S := fun w' => w'.cell? ⟨gb135, 0, none⟩ = some (.string (⟨#[111]⟩ : ByteArray)) ∧ w'.cell? ⟨gb135, 1, none⟩ = some (.string (⟨#[115]⟩ : ByteArray)) ∧ w'.cell? ⟨gb135, 2, none⟩ = some (.string (⟨#[98]⟩ : ByteArray)) ∧ w'.cell? ⟨gb135, 3, none⟩ = some (.string (⟨#[69, 85, 82]⟩ : ByteArray)) ∧ w'.cell? ⟨gb135, 4, none⟩ = some (.string (⟨#[102]⟩ : ByteArray)) ∧ w'.cell? ⟨gb135, 5, none⟩ = some (.string (⟨#[116]⟩ : ByteArray)) ∧ w'.cell? ⟨gb135, 6, none⟩ = some (.int .i64 0) ∧ w'.cell? ⟨gb135, 7, none⟩ = some (.slice Ao5 y132.length co5) ∧ w'.cell? ad153 = some (.string ((rd_T42 t148 0).f0)) ∧ w'.cell? ⟨ad153.block, ad153.off + 1, none⟩ = some (.int .i64 ((rd_T42 t148 0).f1)) ∧ w'.cell? ⟨ad153.block, ad153.off + 2, none⟩ = some (.int .i64 ((rd_T42 t148 0).f2)) ∧ w'.cell? ⟨ad153.block, ad153.off + 3, none⟩ = some (.slice A153_3 ((rd_T42 t148 0).f3).length c153_3)) (ds := []) #[F,F,F,F,F,F,F,F,F,F] (by kernel_rfl) rfl rfl ⟨(blk_cell BK135.out 0).trans rfl, (blk_cell BK135.out 1).trans rfl, (blk_cell BK135.out 2).trans rfl, (blk_cell BK135.out 3).trans rfl, (blk_cell BK135.out 4).trans rfl, (blk_cell BK135.out 5).trans rfl, (blk_cell BK135.out 6).trans rfl, (blk_cell BK135.out 7).trans rfl, hx153_0, hx153_1, hx153_2, hx153_3⟩ (fun hHeld => ?_); refine with_tabW awk.tab5 awk.bits5 (fun HT_ HW_ => ?_)
generalize wc.drew = w41 at HO_2 HO_136007 BK135 HB HL153_3 HR153_3 hx153_0 hx153_1 hx153_2 hx153_3 hHeld ⊢
refine pure_ (i := 1) (N := some 36) (v := ?_) (a' := ?_) #[F,T,F,F,F,F,F,F,F,F] rfl rfl (any_of HT_.out (by kernel_rfl)) (fun _ _ _ h => h) (Or.inl ⟨by rfl, ?_⟩) ?_ ?_
rotate_left
·(
intro w'
go_simp
with_reducible rfl
)
rotate_left
·(
simp only [Act.put, List.setIfInBounds_toArray, List.set_cons_zero, List.set_cons_succ, i64_w, i32_w]
rfl
)
refine pure_ (i := 2) (N := some 37) (v := ?_) (a' := ?_) #[F,T,T,F,F,F,F,F,F,F] rfl rfl (any_of HT_.out (by kernel_rfl)) (fun _ _ _ h => h) (Or.inl ⟨by rfl, ?_⟩) ?_ ?_
rotate_left
·(
intro w'
go_simp
with_reducible rfl
)
rotate_left
·(
simp only [Act.put, List.setIfInBounds_toArray, List.set_cons_zero, List.set_cons_succ, i64_w, i32_w]
rfl
)
refine take_ (i := 0) (N := some 35) (v := ?_) (a' := ?_) #[T,T,T,F,F,F,F,F,F,F] rfl rfl (take_ofW HT_.out HW_.out (by kernel_rfl)) (fun _ _ _ h => h) (Or.inl ⟨by rfl, ?_⟩) hHeld ?_ ?_
rotate_left
·(
rintro w' ⟨s0, s1, s2, s3, s4, s5, s6, s7, s8, s9, s10, s11⟩
go_simp
with_reducible rfl
)
rotate_left
·(
simp only [Act.put, List.setIfInBounds_toArray, List.set_cons_zero, List.set_cons_succ, i64_w, i32_w]
rfl
)
refine take_ (i := 3) (N := some 38) (v := ?_) (a' := ?_) #[T,T,T,T,F,F,F,F,F,F] rfl rfl (take_ofW HT_.out HW_.out (by kernel_rfl)) (fun _ _ _ h => h) (Or.inl ⟨by rfl, ?_⟩) hHeld ?_ ?_
rotate_left
·(
rintro w' ⟨s0, s1, s2, s3, s4, s5, s6, s7, s8, s9, s10, s11⟩
go_simp
with_reducible rfl
)
rotate_left
·(
simp only [Act.put, List.setIfInBounds_toArray, List.set_cons_zero, List.set_cons_succ, i64_w, i32_w]
rfl
)
refine one_ (i := 4) (N := some 39) #[T,T,T,T,T,F,F,F,F,F] rfl rfl (one_of HT_.out (by kernel_rfl)) (by decide) (fun K hK => ?_)
refine goes_ Try.func31 (by kernel_rfl) rfl #[.agg #[.string (⟨#[111]⟩ : ByteArray), .string (⟨#[115]⟩ : ByteArray), .string (⟨#[98]⟩ : ByteArray), .string (⟨#[69, 85, 82]⟩ : ByteArray), .string (⟨#[102]⟩ : ByteArray), .string (⟨#[116]⟩ : ByteArray), .int .i64 0, .slice Ao5 y132.length co5], .agg #[.string ((rd_T42 t148 0).f0), .int .i64 ((rd_T42 t148 0).f1), .int .i64 ((rd_T42 t148 0).f2), .slice A153_3 ((rd_T42 t148 0).f3).length c153_3]] (by rfl) rfl rfl (by (try simp only [List.map_toArray, List.map_cons, List.map_nil]); first | done | rfl | (simp only [List.length_drop, List.length_take]; rfl)) ?_
with_reducible refine (order_Value.calls kj1 (⟨#[111]⟩ : ByteArray) (⟨#[115]⟩ : ByteArray) (⟨#[98]⟩ : ByteArray) (⟨#[69, 85, 82]⟩ : ByteArray) (⟨#[102]⟩ : ByteArray) (⟨#[116]⟩ : ByteArray) 0 _ _ y132 ((rd_T42 t148 0).f0) ((rd_T42 t148 0).f1) ((rd_T42 t148 0).f2) _ _ ((rd_T42 t148 0).f3) t154 t155 _ ?side1 ?side2 ?side3 ?side4 A30.out).mono ?_
(case side1 => repeat (first | exact (Kd.R_reads' HO_136007.out).2.2 | (with_reducible refine Kd.C_alloc ?_ _) | (with_reducible refine Kd.C_drewN ?_ _) | (with_reducible refine Kd.C_drew ?_)))
(case side2 => exact (Kd.R_reads' HO_136007.out).2.1)
(case side3 => repeat (first | exact (by repeat (first | (with_reducible exact HR153_3.out) | (with_reducible refine Kd.C_alloc ?_ _) | (with_reducible refine Kd.C_drewN ?_ _) | (with_reducible refine Kd.C_drew ?_) | exact HR153_3.out)) | (with_reducible refine Kd.C_alloc ?_ _) | (with_reducible refine Kd.C_drewN ?_ _) | (with_reducible refine Kd.C_drew ?_)))
(case side4 => exact HC153_3.out)
rintro e w43 ⟨rfl, hb⟩
have HS8_ := (hb.cell (World.block_lt_of_cell? _ _ (hHeld.2.2.2.2.2.2.2.2.1))).trans (hHeld.2.2.2.2.2.2.2.2.1)
have HS9_ := (hb.cell (World.block_lt_of_cell? _ _ (hHeld.2.2.2.2.2.2.2.2.2.1))).trans (hHeld.2.2.2.2.2.2.2.2.2.1)
have HS10_ := (hb.cell (World.block_lt_of_cell? _ _ (hHeld.2.2.2.2.2.2.2.2.2.2.1))).trans (hHeld.2.2.2.2.2.2.2.2.2.2.1)
have HS11_ := (hb.cell (World.block_lt_of_cell? _ _ (hHeld.2.2.2.2.2.2.2.2.2.2.2))).trans (hHeld.2.2.2.2.2.2.2.2.2.2.2)
refine ⟨_, rfl, ?_⟩
have n0_ := Aside0.mk (Kd.N_below (by (with_reducible repeat (first | apply Kd.N_alloc | apply Kd.N_drewN | apply Kd.N_drew)); exact HO_2.out) hb)
have n1_ := Aside0.mk (Kd.R_below (by (with_reducible repeat (first | apply Kd.R_alloc | apply Kd.R_drewN | apply Kd.R_drew)); exact HO_136007.out) hb)
have n2_ := Aside0.mk (Kd.V_below (by (with_reducible repeat (first | apply Kd.V_alloc | apply Kd.V_drewN | apply Kd.V_drew)); exact HL153_3.out) hb)
have n3_ := Aside0.mk (blk_below (g := gb135) (o := .cells #[.string (⟨#[111]⟩ : ByteArray), .string (⟨#[115]⟩ : ByteArray), .string (⟨#[98]⟩ : ByteArray), .string (⟨#[69, 85, 82]⟩ : ByteArray), .string (⟨#[102]⟩ : ByteArray), .string (⟨#[116]⟩ : ByteArray), .int .i64 0, .slice Ao5 y132.length co5] 24 (0, 0)) (by (with_reducible repeat (first | refine blk_drewN ?_ _ | refine blk_drew ?_ | refine blk_alloc ?_ _)); exact BK135.out) hb)
have n4_ := Aside0.mk (Kd.C_below (by repeat (first | (with_reducible exact HR153_3.out) | (with_reducible refine Kd.C_alloc ?_ _) | (with_reducible refine Kd.C_drewN ?_ _) | (with_reducible refine Kd.C_drew ?_) | exact HR153_3.out)) hb)
have n5_ := Aside0.mk (below_step (by repeat (first | (with_reducible first | exact HB.out | apply below_alloc | apply pw_below_drewN | apply below_drew1 | refine below_set ?_ GE135.out) | exact HB.out)) hb)
clear HO_2
clear HO_136007
clear HL153_3
clear BK135
clear HR153_3
clear HB
have HO_2 := n0_
have HO_136007 := n1_
have HL153_3 := n2_
have BK135 := n3_
have HR153_3 := n4_
have HB := n5_
clear n0_ n1_ n2_ n3_ n4_ n5_
(try clear hb)
(try clear hb2)
(try clear hk)
(try clear hi)
refine hK.out _ _ ⟨(blk_cell BK135.out 0).trans rfl, (blk_cell BK135.out 1).trans rfl, (blk_cell BK135.out 2).trans rfl, (blk_cell BK135.out 3).trans rfl, (blk_cell BK135.out 4).trans rfl, (blk_cell BK135.out 5).trans rfl, (blk_cell BK135.out 6).trans rfl, (blk_cell BK135.out 7).trans rfl, HS8_, HS9_, HS10_, HS11_⟩ (fun hHeld => ?_)
clear hK K
refine norm_ (a' := ?_) ?_ ?_
rotate_left
·(
show Act.put _ (some 39) _ = _
simp only [Act.put, List.setIfInBounds_toArray, List.set_cons_zero, List.set_cons_succ, i64_w, i32_w]
rfl
)
refine pure_ (i := 5) (N := some 34) (v := ?_) (a' := ?_) #[T,T,T,T,T,T,F,F,F,F] rfl rfl (any_of HT_.out (by kernel_rfl)) (fun _ _ _ h => h) (Or.inl ⟨by rfl, ?_⟩) ?_ ?_
rotate_left
·(
intro w'
go_simp
with_reducible rfl
)
rotate_left
·(
simp only [Act.put, List.setIfInBounds_toArray, List.set_cons_zero, List.set_cons_succ, i64_w, i32_w]
rfl
)
refine pure_ (i := 6) (N := some 40) (v := ?_) (a' := ?_) #[T,T,T,T,T,T,T,F,F,F] rfl rfl (any_of HT_.out (by kernel_rfl)) (fun _ _ _ h => h) (Or.inl ⟨by rfl, ?_⟩) ?_ ?_
rotate_left
·(
intro w'
go_simp
with_reducible rfl
)
rotate_left
·(
simp only [Act.put, List.setIfInBounds_toArray, List.set_cons_zero, List.set_cons_succ, i64_w, i32_w]
rfl
)
refine pure_ (i := 7) (N := some 41) (v := ?_) (a' := ?_) #[T,T,T,T,T,T,T,T,F,F] rfl rfl (any_of HT_.out (by kernel_rfl)) (fun _ _ _ h => h) (Or.inl ⟨by rfl, ?_⟩) ?_ ?_
rotate_left
·(
intro w'
go_simp
with_reducible rfl
)
rotate_left
·(
simp only [Act.put, List.setIfInBounds_toArray, List.set_cons_zero, List.set_cons_succ, i64_w, i32_w]
rfl
)
refine pure_ (i := 8) (N := some 4) (v := ?_) (a' := ?_) #[T,T,T,T,T,T,T,T,T,F] rfl rfl (any_of HT_.out (by kernel_rfl)) (fun _ _ _ h => h) (Or.inl ⟨by rfl, ?_⟩) ?_ ?_
rotate_left
·(
intro w'
go_simp
with_reducible rfl
)
rotate_left
·(
simp only [Act.put, List.setIfInBounds_toArray, List.set_cons_zero, List.set_cons_succ, i64_w, i32_w]
rfl
)
refine pure_ (i := 9) (N := some 5) (v := ?_) (a' := ?_) #[T,T,T,T,T,T,T,T,T,T] rfl rfl (any_of HT_.out (by kernel_rfl)) (fun _ _ _ h => h) (Or.inl ⟨by rfl, ?_⟩) ?_ ?_
rotate_left
·(
intro w'
go_simp
with_reducible rfl
)
rotate_left
·(
simp only [Act.put, List.setIfInBounds_toArray, List.set_cons_zero, List.set_cons_succ, i64_w, i32_w]
rfl
)
refine done_ (done_of HT_.out (by kernel_rfl)) ?_
try go_wp2
have n0_ := Aside0.mk (Kd.N_drew HO_2.out)
have n1_ := Aside0.mk (Kd.R_drew HO_136007.out)
have n2_ := Aside0.mk (Kd.V_drew HL153_3.out)
have n3_ := Aside0.mk (blk_drew BK135.out)
have n4_ := Aside0.mk (Kd.C_drew HR153_3.out)
have n5_ := Aside0.mk (below_drew1 HB.out)
clear HO_2
clear HO_136007
clear HL153_3
clear BK135
clear HR153_3
clear HB
have HO_2 := n0_
have HO_136007 := n1_
have HL153_3 := n2_
have BK135 := n3_
have HR153_3 := n4_
have HB := n5_
clear n0_ n1_ n2_ n3_ n4_ n5_
have p156 : 0 ≤ (1 : Int) := (by omega)
have q156 : 1 < (t148.length : Int) := of_decide_eq_true (by first | (with_reducible assumption) | assumption)
obtain ⟨ad156, A156_3, c156_3, e156, hx156_0, hx156_1, hx156_2, hx156_3, hl156_3, hi156_3⟩ := at_T42 (Kd.N_reads' HO_2.out).2.2 1 p156 q156
obtain rfl : ad153 = ad156 := (by injection e156)
obtain ⟨ce156, hce156, hMe156, hcc156⟩ := Kd.N_get HO_2.out z42 1 p156 (by first | exact q156 | exact of_decide_eq_true (by first | (with_reducible assumption) | assumption) | (have e_ := (Kd.N_reads' HO_2.out).1; omega))
obtain ⟨ua156_3, uc156_3, rfl, ul156_3, ge156_3⟩ := k42_openF hMe156
have hv156_3 := hcc156 3 _ rfl
rw [add_field _ _ 3 (by omega)] at hv156_3
replace hv156_3 := Option.some.inj (hv156_3.symm.trans hx156_3)
injection hv156_3 with hva_ hvn_ hvc_
rw [hva_] at ge156_3
rw [hvc_] at ul156_3
have HL156_3 := Aside0.mk (show Kd.V k67 67 _ w.heap.size _ _ ((rd_T42 t148 1).f3) from Kd.V_mk ul156_3 ge156_3)
clear hva_ hvn_ hvc_ ge156_3 ul156_3
clear hcc156 hce156
(try simp only [show (1 : Int).toNat = 1 from rfl, Nat.reduceMul, Nat.reduceEqDiff, Go.Addr.add, ↓reduceIte] at hx156_0)
(try simp only [show (1 : Int).toNat = 1 from rfl, Nat.reduceMul, Nat.reduceEqDiff, Go.Addr.add, ↓reduceIte] at hx156_1)
(try simp only [show (1 : Int).toNat = 1 from rfl, Nat.reduceMul, Nat.reduceEqDiff, Go.Addr.add, ↓reduceIte] at hx156_2)
(try simp only [show (1 : Int).toNat = 1 from rfl, Nat.reduceMul, Nat.reduceEqDiff, Go.Addr.add, ↓reduceIte] at hx156_3)
have qi156 : (1 < t148.length) = True := eq_true (by omega)
(try rw [show ((1 : Int)).toNat = 1 from rfl] at hx156_0)
(try rw [show 1 * 4 = 4 from rfl] at hx156_0)
(try rw [show ((1 : Int)).toNat = 1 from rfl] at hx156_1)
(try rw [show 1 * 4 = 4 from rfl] at hx156_1)
(try rw [show ((1 : Int)).toNat = 1 from rfl] at hx156_2)
(try rw [show 1 * 4 = 4 from rfl] at hx156_2)
(try rw [show ((1 : Int)).toNat = 1 from rfl] at hx156_3)
(try rw [show 1 * 4 = 4 from rfl] at hx156_3)
have HR156_3 := Aside0.mk hi156_3
have HC156_3 := Aside0.mk hl156_3
clear hi156_3 hl156_3
replace p156 := eq_true p156
replace q156 := eq_true q156
refine start_ (n := 10) (S := fun w' => w'.cell? ⟨gb135, 0, none⟩ = some (.string (⟨#[111]⟩ : ByteArray)) ∧ w'.cell? ⟨gb135, 1, none⟩ = some (.string (⟨#[115]⟩ : ByteArray)) ∧ w'.cell? ⟨gb135, 2, none⟩ = some (.string (⟨#[98]⟩ : ByteArray)) ∧ w'.cell? ⟨gb135, 3, none⟩ = some (.string (⟨#[69, 85, 82]⟩ : ByteArray)) ∧ w'.cell? ⟨gb135, 4, none⟩ = some (.string (⟨#[102]⟩ : ByteArray)) ∧ w'.cell? ⟨gb135, 5, none⟩ = some (.string (⟨#[116]⟩ : ByteArray)) ∧ w'.cell? ⟨gb135, 6, none⟩ = some (.int .i64 0) ∧ w'.cell? ⟨gb135, 7, none⟩ = some (.slice Ao5 y132.length co5) ∧ w'.cell? ⟨ad153.block, ad153.off + 4, none⟩ = some (.string ((rd_T42 t148 1).f0)) ∧ w'.cell? ⟨ad153.block, ad153.off + 4 + 1, none⟩ = some (.int .i64 ((rd_T42 t148 1).f1)) ∧ w'.cell? ⟨ad153.block, ad153.off + 4 + 2, none⟩ = some (.int .i64 ((rd_T42 t148 1).f2)) ∧ w'.cell? ⟨ad153.block, ad153.off + 4 + 3, none⟩ = some (.slice A156_3 ((rd_T42 t148 1).f3).length c156_3)) (ds := []) #[F,F,F,F,F,F,F,F,F,F] (by kernel_rfl) rfl rfl ⟨(blk_cell BK135.out 0).trans rfl, (blk_cell BK135.out 1).trans rfl, (blk_cell BK135.out 2).trans rfl, (blk_cell BK135.out 3).trans rfl, (blk_cell BK135.out 4).trans rfl, (blk_cell BK135.out 5).trans rfl, (blk_cell BK135.out 6).trans rfl, (blk_cell BK135.out 7).trans rfl, hx156_0, hx156_1, hx156_2, hx156_3⟩ (fun hHeld => ?_); refine with_tabW awk.tab6 awk.bits6 (fun HT_ HW_ => ?_)
generalize w43.drew = w44 at HO_2 HO_136007 HL153_3 BK135 HR153_3 HB HL156_3 HR156_3 hx156_0 hx156_1 hx156_2 hx156_3 hHeld ⊢
refine pure_ (i := 1) (N := some 44) (v := ?_) (a' := ?_) #[F,T,F,F,F,F,F,F,F,F] rfl rfl (any_of HT_.out (by kernel_rfl)) (fun _ _ _ h => h) (Or.inl ⟨by rfl, ?_⟩) ?_ ?_
rotate_left
·(
intro w'
go_simp
with_reducible rfl
)
rotate_left
·(
simp only [Act.put, List.setIfInBounds_toArray, List.set_cons_zero, List.set_cons_succ, i64_w, i32_w]
rfl
)
refine pure_ (i := 2) (N := some 45) (v := ?_) (a' := ?_) #[F,T,T,F,F,F,F,F,F,F] rfl rfl (any_of HT_.out (by kernel_rfl)) (fun _ _ _ h => h) (Or.inl ⟨by rfl, ?_⟩) ?_ ?_
rotate_left
·(
intro w'
go_simp
with_reducible rfl
)
rotate_left
·(
simp only [Act.put, List.setIfInBounds_toArray, List.set_cons_zero, List.set_cons_succ, i64_w, i32_w]
rfl
)
refine take_ (i := 0) (N := some 43) (v := ?_) (a' := ?_) #[T,T,T,F,F,F,F,F,F,F] rfl rfl (take_ofW HT_.out HW_.out (by kernel_rfl)) (fun _ _ _ h => h) (Or.inl ⟨by rfl, ?_⟩) hHeld ?_ ?_
rotate_left
·(
rintro w' ⟨s0, s1, s2, s3, s4, s5, s6, s7, s8, s9, s10, s11⟩
go_simp
with_reducible rfl
)
rotate_left
·(
simp only [Act.put, List.setIfInBounds_toArray, List.set_cons_zero, List.set_cons_succ, i64_w, i32_w]
rfl
)
refine take_ (i := 3) (N := some 46) (v := ?_) (a' := ?_) #[T,T,T,T,F,F,F,F,F,F] rfl rfl (take_ofW HT_.out HW_.out (by kernel_rfl)) (fun _ _ _ h => h) (Or.inl ⟨by rfl, ?_⟩) hHeld ?_ ?_
rotate_left
·(
rintro w' ⟨s0, s1, s2, s3, s4, s5, s6, s7, s8, s9, s10, s11⟩
go_simp
with_reducible rfl
)
rotate_left
·(
simp only [Act.put, List.setIfInBounds_toArray, List.set_cons_zero, List.set_cons_succ, i64_w, i32_w]
rfl
)
refine one_ (i := 4) (N := some 47) #[T,T,T,T,T,F,F,F,F,F] rfl rfl (one_of HT_.out (by kernel_rfl)) (by decide) (fun K hK => ?_)
refine goes_ Try.func31 (by kernel_rfl) rfl #[.agg #[.string (⟨#[111]⟩ : ByteArray), .string (⟨#[115]⟩ : ByteArray), .string (⟨#[98]⟩ : ByteArray), .string (⟨#[69, 85, 82]⟩ : ByteArray), .string (⟨#[102]⟩ : ByteArray), .string (⟨#[116]⟩ : ByteArray), .int .i64 0, .slice Ao5 y132.length co5], .agg #[.string ((rd_T42 t148 1).f0), .int .i64 ((rd_T42 t148 1).f1), .int .i64 ((rd_T42 t148 1).f2), .slice A156_3 ((rd_T42 t148 1).f3).length c156_3]] (by rfl) rfl rfl (by (try simp only [List.map_toArray, List.map_cons, List.map_nil]); first | done | rfl | (simp only [List.length_drop, List.length_take]; rfl)) ?_
with_reducible refine (order_Value.calls kj1 (⟨#[111]⟩ : ByteArray) (⟨#[115]⟩ : ByteArray) (⟨#[98]⟩ : ByteArray) (⟨#[69, 85, 82]⟩ : ByteArray) (⟨#[102]⟩ : ByteArray) (⟨#[116]⟩ : ByteArray) 0 _ _ y132 ((rd_T42 t148 1).f0) ((rd_T42 t148 1).f1) ((rd_T42 t148 1).f2) _ _ ((rd_T42 t148 1).f3) t157 t158 _ ?side1 ?side2 ?side3 ?side4 A32.out).mono ?_
(case side1 => repeat (first | exact (Kd.R_reads' HO_136007.out).2.2 | (with_reducible refine Kd.C_alloc ?_ _) | (with_reducible refine Kd.C_drewN ?_ _) | (with_reducible refine Kd.C_drew ?_)))
(case side2 => exact (Kd.R_reads' HO_136007.out).2.1)
(case side3 => repeat (first | exact (by repeat (first | (with_reducible exact HR156_3.out) | (with_reducible refine Kd.C_alloc ?_ _) | (with_reducible refine Kd.C_drewN ?_ _) | (with_reducible refine Kd.C_drew ?_) | exact HR156_3.out)) | (with_reducible refine Kd.C_alloc ?_ _) | (with_reducible refine Kd.C_drewN ?_ _) | (with_reducible refine Kd.C_drew ?_)))
(case side4 => exact HC156_3.out)
rintro e w45 ⟨rfl, hb⟩
have HS8_ := (hb.cell (World.block_lt_of_cell? _ _ (hHeld.2.2.2.2.2.2.2.2.1))).trans (hHeld.2.2.2.2.2.2.2.2.1)
have HS9_ := (hb.cell (World.block_lt_of_cell? _ _ (hHeld.2.2.2.2.2.2.2.2.2.1))).trans (hHeld.2.2.2.2.2.2.2.2.2.1)
have HS10_ := (hb.cell (World.block_lt_of_cell? _ _ (hHeld.2.2.2.2.2.2.2.2.2.2.1))).trans (hHeld.2.2.2.2.2.2.2.2.2.2.1)
have HS11_ := (hb.cell (World.block_lt_of_cell? _ _ (hHeld.2.2.2.2.2.2.2.2.2.2.2))).trans (hHeld.2.2.2.2.2.2.2.2.2.2.2)
refine ⟨_, rfl, ?_⟩
have n0_ := Aside0.mk (Kd.N_below (by (with_reducible repeat (first | apply Kd.N_alloc | apply Kd.N_drewN | apply Kd.N_drew)); exact HO_2.out) hb)
have n1_ := Aside0.mk (Kd.R_below (by (with_reducible repeat (first | apply Kd.R_alloc | apply Kd.R_drewN | apply Kd.R_drew)); exact HO_136007.out) hb)
have n2_ := Aside0.mk (Kd.V_below (by (with_reducible repeat (first | apply Kd.V_alloc | apply Kd.V_drewN | apply Kd.V_drew)); exact HL153_3.out) hb)
have n3_ := Aside0.mk (Kd.V_below (by (with_reducible repeat (first | apply Kd.V_alloc | apply Kd.V_drewN | apply Kd.V_drew)); exact HL156_3.out) hb)
have n4_ := Aside0.mk (blk_below (g := gb135) (o := .cells #[.string (⟨#[111]⟩ : ByteArray), .string (⟨#[115]⟩ : ByteArray), .string (⟨#[98]⟩ : ByteArray), .string (⟨#[69, 85, 82]⟩ : ByteArray), .string (⟨#[102]⟩ : ByteArray), .string (⟨#[116]⟩ : ByteArray), .int .i64 0, .slice Ao5 y132.length co5] 24 (0, 0)) (by (with_reducible repeat (first | refine blk_drewN ?_ _ | refine blk_drew ?_ | refine blk_alloc ?_ _)); exact BK135.out) hb)
have n5_ := Aside0.mk (Kd.C_below (by repeat (first | (with_reducible exact HR153_3.out) | (with_reducible refine Kd.C_alloc ?_ _) | (with_reducible refine Kd.C_drewN ?_ _) | (with_reducible refine Kd.C_drew ?_) | exact HR153_3.out)) hb)
have n6_ := Aside0.mk (Kd.C_below (by repeat (first | (with_reducible exact HR156_3.out) | (with_reducible refine Kd.C_alloc ?_ _) | (with_reducible refine Kd.C_drewN ?_ _) | (with_reducible refine Kd.C_drew ?_) | exact HR156_3.out)) hb)
have n7_ := Aside0.mk (below_step (by repeat (first | (with_reducible first | exact HB.out | apply below_alloc | apply pw_below_drewN | apply below_drew1 | refine below_set ?_ GE135.out) | exact HB.out)) hb)
clear HO_2
clear HO_136007
clear HL153_3
clear HL156_3
clear BK135
clear HR153_3
clear HR156_3
clear HB
have HO_2 := n0_
have HO_136007 := n1_
have HL153_3 := n2_
have HL156_3 := n3_
have BK135 := n4_
have HR153_3 := n5_
have HR156_3 := n6_
have HB := n7_
clear n0_ n1_ n2_ n3_ n4_ n5_ n6_ n7_
(try clear hb)
(try clear hb2)
(try clear hk)
(try clear hi)
refine hK.out _ _ ⟨(blk_cell BK135.out 0).trans rfl, (blk_cell BK135.out 1).trans rfl, (blk_cell BK135.out 2).trans rfl, (blk_cell BK135.out 3).trans rfl, (blk_cell BK135.out 4).trans rfl, (blk_cell BK135.out 5).trans rfl, (blk_cell BK135.out 6).trans rfl, (blk_cell BK135.out 7).trans rfl, HS8_, HS9_, HS10_, HS11_⟩ (fun hHeld => ?_)
clear hK K
refine norm_ (a' := ?_) ?_ ?_
rotate_left
·(
show Act.put _ (some 47) _ = _
simp only [Act.put, List.setIfInBounds_toArray, List.set_cons_zero, List.set_cons_succ, i64_w, i32_w]
rfl
)
refine pure_ (i := 5) (N := some 42) (v := ?_) (a' := ?_) #[T,T,T,T,T,T,F,F,F,F] rfl rfl (any_of HT_.out (by kernel_rfl)) (fun _ _ _ h => h) (Or.inl ⟨by rfl, ?_⟩) ?_ ?_
rotate_left
·(
intro w'
go_simp
with_reducible rfl
)
rotate_left
·(
simp only [Act.put, List.setIfInBounds_toArray, List.set_cons_zero, List.set_cons_succ, i64_w, i32_w]
rfl
)
refine pure_ (i := 6) (N := some 48) (v := ?_) (a' := ?_) #[T,T,T,T,T,T,T,F,F,F] rfl rfl (any_of HT_.out (by kernel_rfl)) (fun _ _ _ h => h) (Or.inl ⟨by rfl, ?_⟩) ?_ ?_
rotate_left
·(
intro w'
go_simp
with_reducible rfl
)
rotate_left
·(
simp only [Act.put, List.setIfInBounds_toArray, List.set_cons_zero, List.set_cons_succ, i64_w, i32_w]
rfl
)
refine pure_ (i := 7) (N := some 49) (v := ?_) (a' := ?_) #[T,T,T,T,T,T,T,T,F,F] rfl rfl (any_of HT_.out (by kernel_rfl)) (fun _ _ _ h => h) (Or.inl ⟨by rfl, ?_⟩) ?_ ?_
rotate_left
·(
intro w'
go_simp
with_reducible rfl
)
rotate_left
·(
simp only [Act.put, List.setIfInBounds_toArray, List.set_cons_zero, List.set_cons_succ, i64_w, i32_w]
rfl
)
refine pure_ (i := 8) (N := some 6) (v := ?_) (a' := ?_) #[T,T,T,T,T,T,T,T,T,F] rfl rfl (any_of HT_.out (by kernel_rfl)) (fun _ _ _ h => h) (Or.inl ⟨by rfl, ?_⟩) ?_ ?_
rotate_left
·(
intro w'
go_simp
with_reducible rfl
)
rotate_left
·(
simp only [Act.put, List.setIfInBounds_toArray, List.set_cons_zero, List.set_cons_succ, i64_w, i32_w]
rfl
)
refine pure_ (i := 9) (N := some 7) (v := ?_) (a' := ?_) #[T,T,T,T,T,T,T,T,T,T] rfl rfl (any_of HT_.out (by kernel_rfl)) (fun _ _ _ h => h) (Or.inl ⟨by rfl, ?_⟩) ?_ ?_
rotate_left
·(
intro w'
go_simp
with_reducible rfl
)
rotate_left
·(
simp only [Act.put, List.setIfInBounds_toArray, List.set_cons_zero, List.set_cons_succ, i64_w, i32_w]
rfl
)
refine done_ (done_of HT_.out (by kernel_rfl)) ?_
have hcz46_0 : w45.cell? ⟨gb135, 0, none⟩ = some (.string (⟨#[111]⟩ : ByteArray)) := (blk_cell BK135.out 0).trans rfl
have hcz46_1 : w45.cell? ⟨gb135, 1, none⟩ = some (.string (⟨#[115]⟩ : ByteArray)) := (blk_cell BK135.out 1).trans rfl
have hcz46_2 : w45.cell? ⟨gb135, 2, none⟩ = some (.string (⟨#[98]⟩ : ByteArray)) := (blk_cell BK135.out 2).trans rfl
have hcz46_3 : w45.cell? ⟨gb135, 3, none⟩ = some (.string (⟨#[69, 85, 82]⟩ : ByteArray)) := (blk_cell BK135.out 3).trans rfl
have hcz46_4 : w45.cell? ⟨gb135, 4, none⟩ = some (.string (⟨#[102]⟩ : ByteArray)) := (blk_cell BK135.out 4).trans rfl
have hcz46_5 : w45.cell? ⟨gb135, 5, none⟩ = some (.string (⟨#[116]⟩ : ByteArray)) := (blk_cell BK135.out 5).trans rfl
have hcz46_6 : w45.cell? ⟨gb135, 6, none⟩ = some (.int .i64 0) := (blk_cell BK135.out 6).trans rfl
have hcz46_7 : w45.cell? ⟨gb135, 7, none⟩ = some (.slice Ao5 y132.length co5) := (blk_cell BK135.out 7).trans rfl
have hfz46_0 := blk_frozen BK135.out 0
have hfz46_1 := blk_frozen BK135.out 1
have hfz46_2 := blk_frozen BK135.out 2
have hfz46_3 := blk_frozen BK135.out 3
have hfz46_4 := blk_frozen BK135.out 4
have hfz46_5 := blk_frozen BK135.out 5
have hfz46_6 := blk_frozen BK135.out 6
have hfz46_7 := blk_frozen BK135.out 7
try go_wp2_with (first | ((with_reducible refine gate_callee (f := 13) rfl ?_); refine goesL_ (some 52) rfl rfl Try.func13 (by kernel_rfl) rfl #[.agg #[.string (⟨#[111]⟩ : ByteArray), .string (⟨#[115]⟩ : ByteArray), .string (⟨#[98]⟩ : ByteArray), .string (⟨#[69, 85, 82]⟩ : ByteArray), .string (⟨#[102]⟩ : ByteArray), .string (⟨#[116]⟩ : ByteArray), .int .i64 0, .slice Ao5 y132.length co5]] rfl (by (try simp only [List.map_toArray, List.map_cons, List.map_nil]); first | done | rfl | (simp only [List.length_drop, List.length_take]; rfl)) ?_; (with_reducible refine (order_Total.calls kj1 (⟨#[111]⟩ : ByteArray) (⟨#[115]⟩ : ByteArray) (⟨#[98]⟩ : ByteArray) (⟨#[69, 85, 82]⟩ : ByteArray) (⟨#[102]⟩ : ByteArray) (⟨#[116]⟩ : ByteArray) 0 _ _ y132 t159 t160 _ ?side1 ?side2 A33.out).mono ?_); (case side1 => repeat (first | exact (Kd.R_reads' HO_136007.out).2.2 | (with_reducible refine Kd.C_alloc ?_ _) | (with_reducible refine Kd.C_drewN ?_ _) | (with_reducible refine Kd.C_drew ?_))); (case side2 => exact (Kd.R_reads' HO_136007.out).2.1); rintro e w47 ⟨rfl, hb⟩; refine ⟨_, rfl, ?_⟩; have n0_ := Aside0.mk (Kd.N_below (by (with_reducible repeat (first | apply Kd.N_alloc | apply Kd.N_drewN | apply Kd.N_drew)); exact HO_2.out) hb); have n1_ := Aside0.mk (Kd.R_below (by (with_reducible repeat (first | apply Kd.R_alloc | apply Kd.R_drewN | apply Kd.R_drew)); exact HO_136007.out) hb); have n2_ := Aside0.mk (Kd.V_below (by (with_reducible repeat (first | apply Kd.V_alloc | apply Kd.V_drewN | apply Kd.V_drew)); exact HL153_3.out) hb); have n3_ := Aside0.mk (Kd.V_below (by (with_reducible repeat (first | apply Kd.V_alloc | apply Kd.V_drewN | apply Kd.V_drew)); exact HL156_3.out) hb); have n4_ := Aside0.mk (blk_below (g := gb135) (o := .cells #[.string (⟨#[111]⟩ : ByteArray), .string (⟨#[115]⟩ : ByteArray), .string (⟨#[98]⟩ : ByteArray), .string (⟨#[69, 85, 82]⟩ : ByteArray), .string (⟨#[102]⟩ : ByteArray), .string (⟨#[116]⟩ : ByteArray), .int .i64 0, .slice Ao5 y132.length co5] 24 (0, 0)) (by (with_reducible repeat (first | refine blk_drewN ?_ _ | refine blk_drew ?_ | refine blk_alloc ?_ _)); exact BK135.out) hb); have n5_ := Aside0.mk (Kd.C_below (by repeat (first | (with_reducible exact HR153_3.out) | (with_reducible refine Kd.C_alloc ?_ _) | (with_reducible refine Kd.C_drewN ?_ _) | (with_reducible refine Kd.C_drew ?_) | exact HR153_3.out)) hb); have n6_ := Aside0.mk (Kd.C_below (by repeat (first | (with_reducible exact HR156_3.out) | (with_reducible refine Kd.C_alloc ?_ _) | (with_reducible refine Kd.C_drewN ?_ _) | (with_reducible refine Kd.C_drew ?_) | exact HR156_3.out)) hb); have n7_ := Aside0.mk (below_step (by repeat (first | (with_reducible first | exact HB.out | apply below_alloc | apply pw_below_drewN | apply below_drew1 | refine below_set ?_ GE135.out) | exact HB.out)) hb); clear HO_2; clear HO_136007; clear HL153_3; clear HL156_3; clear BK135; clear HR153_3; clear HR156_3; clear HB; have HO_2 := n0_; have HO_136007 := n1_; have HL153_3 := n2_; have HL156_3 := n3_; have BK135 := n4_; have HR153_3 := n5_; have HR156_3 := n6_; have HB := n7_; clear n0_ n1_ n2_ n3_ n4_ n5_ n6_ n7_; (try clear hb); (try clear hb2); (try clear hk); (try clear hi); have hcz48_0 : w47.cell? ⟨gb135, 0, none⟩ = some (.string (⟨#[111]⟩ : ByteArray)) := (blk_cell BK135.out 0).trans rfl; have hcz48_1 : w47.cell? ⟨gb135, 1, none⟩ = some (.string (⟨#[115]⟩ : ByteArray)) := (blk_cell BK135.out 1).trans rfl; have hcz48_2 : w47.cell? ⟨gb135, 2, none⟩ = some (.string (⟨#[98]⟩ : ByteArray)) := (blk_cell BK135.out 2).trans rfl; have hcz48_3 : w47.cell? ⟨gb135, 3, none⟩ = some (.string (⟨#[69, 85, 82]⟩ : ByteArray)) := (blk_cell BK135.out 3).trans rfl; have hcz48_4 : w47.cell? ⟨gb135, 4, none⟩ = some (.string (⟨#[102]⟩ : ByteArray)) := (blk_cell BK135.out 4).trans rfl; have hcz48_5 : w47.cell? ⟨gb135, 5, none⟩ = some (.string (⟨#[116]⟩ : ByteArray)) := (blk_cell BK135.out 5).trans rfl; have hcz48_6 : w47.cell? ⟨gb135, 6, none⟩ = some (.int .i64 0) := (blk_cell BK135.out 6).trans rfl; have hcz48_7 : w47.cell? ⟨gb135, 7, none⟩ = some (.slice Ao5 y132.length co5) := (blk_cell BK135.out 7).trans rfl; have hfz48_0 := blk_frozen BK135.out 0; have hfz48_1 := blk_frozen BK135.out 1; have hfz48_2 := blk_frozen BK135.out 2; have hfz48_3 := blk_frozen BK135.out 3; have hfz48_4 := blk_frozen BK135.out 4; have hfz48_5 := blk_frozen BK135.out 5; have hfz48_6 := blk_frozen BK135.out 6; have hfz48_7 := blk_frozen BK135.out 7) | (go_at_call 17; (with_reducible refine (order_Same.calls kj1 (⟨#[111]⟩ : ByteArray) (⟨#[115]⟩ : ByteArray) (⟨#[98]⟩ : ByteArray) (⟨#[69, 85, 82]⟩ : ByteArray) (⟨#[102]⟩ : ByteArray) (⟨#[116]⟩ : ByteArray) 0 _ _ y132 (⟨#[111]⟩ : ByteArray) (⟨#[115]⟩ : ByteArray) (⟨#[98]⟩ : ByteArray) (⟨#[69, 85, 82]⟩ : ByteArray) (⟨#[102]⟩ : ByteArray) (⟨#[116]⟩ : ByteArray) 0 _ _ y132 t161 _ ?side1 ?side2 ?side3 ?side4 A40.out).mono ?_); (case side1 => repeat (first | exact (Kd.R_reads' HO_136007.out).2.2 | (with_reducible refine Kd.C_alloc ?_ _) | (with_reducible refine Kd.C_drewN ?_ _) | (with_reducible refine Kd.C_drew ?_))); (case side2 => exact (Kd.R_reads' HO_136007.out).2.1); (case side3 => repeat (first | exact (Kd.R_reads' HO_136007.out).2.2 | (with_reducible refine Kd.C_alloc ?_ _) | (with_reducible refine Kd.C_drewN ?_ _) | (with_reducible refine Kd.C_drew ?_))); (case side4 => exact (Kd.R_reads' HO_136007.out).2.1); rintro e w49 ⟨rfl, hb⟩; have n0_ := Aside0.mk (Kd.N_below (by (with_reducible repeat (first | apply Kd.N_alloc | apply Kd.N_drewN | apply Kd.N_drew)); exact HO_2.out) hb); have n1_ := Aside0.mk (Kd.R_below (by (with_reducible repeat (first | apply Kd.R_alloc | apply Kd.R_drewN | apply Kd.R_drew)); exact HO_136007.out) hb); have n2_ := Aside0.mk (Kd.V_below (by (with_reducible repeat (first | apply Kd.V_alloc | apply Kd.V_drewN | apply Kd.V_drew)); exact HL153_3.out) hb); have n3_ := Aside0.mk (Kd.V_below (by (with_reducible repeat (first | apply Kd.V_alloc | apply Kd.V_drewN | apply Kd.V_drew)); exact HL156_3.out) hb); have n4_ := Aside0.mk (blk_below (g := gb135) (o := .cells #[.string (⟨#[111]⟩ : ByteArray), .string (⟨#[115]⟩ : ByteArray), .string (⟨#[98]⟩ : ByteArray), .string (⟨#[69, 85, 82]⟩ : ByteArray), .string (⟨#[102]⟩ : ByteArray), .string (⟨#[116]⟩ : ByteArray), .int .i64 0, .slice Ao5 y132.length co5] 24 (0, 0)) (by (with_reducible repeat (first | refine blk_drewN ?_ _ | refine blk_drew ?_ | refine blk_alloc ?_ _)); exact BK135.out) hb); have n5_ := Aside0.mk (Kd.C_below (by repeat (first | (with_reducible exact HR153_3.out) | (with_reducible refine Kd.C_alloc ?_ _) | (with_reducible refine Kd.C_drewN ?_ _) | (with_reducible refine Kd.C_drew ?_) | exact HR153_3.out)) hb); have n6_ := Aside0.mk (Kd.C_below (by repeat (first | (with_reducible exact HR156_3.out) | (with_reducible refine Kd.C_alloc ?_ _) | (with_reducible refine Kd.C_drewN ?_ _) | (with_reducible refine Kd.C_drew ?_) | exact HR156_3.out)) hb); have n7_ := Aside0.mk (below_step (by repeat (first | (with_reducible first | exact HB.out | apply below_alloc | apply pw_below_drewN | apply below_drew1 | refine below_set ?_ GE135.out) | exact HB.out)) hb); clear HO_2; clear HO_136007; clear HL153_3; clear HL156_3; clear BK135; clear HR153_3; clear HR156_3; clear HB; have HO_2 := n0_; have HO_136007 := n1_; have HL153_3 := n2_; have HL156_3 := n3_; have BK135 := n4_; have HR153_3 := n5_; have HR156_3 := n6_; have HB := n7_; clear n0_ n1_ n2_ n3_ n4_ n5_ n6_ n7_; (try clear hb); (try clear hb2); (try clear hk); (try clear hi)))
go_ret
exact ⟨by first | rfl | (simp [errW_none, errW_some] <;> rfl) | (simp [*, errW_none, errW_some] <;> rfl), by repeat (first | (with_reducible first | exact HB.out | apply below_alloc | apply pw_below_drewN | apply below_drew1 | refine below_set ?_ GE135.out) | exact HB.out)⟩
)
·(
rw [if_neg c39] at H
have c39b0 : (t160 == 0) = false := beq_eq_false_iff_ne.mpr c39
have c39b1 : (t160 != 0) = true := bne_iff_ne.mpr c39
exact absurd (Option.some.inj H) (by rw [hT.out]; decide)
)
)
·(
rw [if_neg c38] at H
have c38b0 : (t158 == 0) = false := beq_eq_false_iff_ne.mpr c38
have c38b1 : (t158 != 0) = true := bne_iff_ne.mpr c38
exact absurd (Option.some.inj H) (by rw [hT.out]; decide)
)
)
·(
rw [if_neg c37] at H
have c37b0 : (t155 == 0) = false := beq_eq_false_iff_ne.mpr c37
have c37b1 : (t155 != 0) = true := bne_iff_ne.mpr c37
exact absurd (Option.some.inj H) (by rw [hT.out]; decide)
)
)
·(
rw [if_neg c36] at H
have c36b0 : (t159 == 30) = false := beq_eq_false_iff_ne.mpr c36
have c36b1 : (t159 != 30) = true := bne_iff_ne.mpr c36
exact absurd (Option.some.inj H) (by rw [hT.out]; decide)
)
)
·(
rw [if_neg c35] at H
have c35b0 : (t157 == 18) = false := beq_eq_false_iff_ne.mpr c35
have c35b1 : (t157 != 18) = true := bne_iff_ne.mpr c35
exact absurd (Option.some.inj H) (by rw [hT.out]; decide)
)
)
·(
rw [if_neg c34] at H
have c34b0 : (t154 == 12) = false := beq_eq_false_iff_ne.mpr c34
have c34b1 : (t154 != 12) = true := bne_iff_ne.mpr c34
exact absurd (Option.some.inj H) (by rw [hT.out]; decide)
)
)
·(
rw [if_neg c31] at H
exact absurd H (by simp)
)
)
·(
rw [if_neg c29] at H
exact absurd H (by simp)
)
)
)
)

def supercargolaw19_awake.f (k : Nat) : Option Bool := (awk.f k).bind fun t => if t = true then some true else none
theorem supercargolaw19_awake.mono : ∀ k, LeO (supercargolaw19_awake.f k) (supercargolaw19_awake.f (k + 1)) := fun k => LeO.bind (awk.mono k) (fun _ => LeO.refl _)
theorem supercargolaw19_awake.calls (k : Nat) (r : Bool) (w : World) (h : supercargolaw19_awake.f k = some r) : Calls Try.prog 11 #[] w fun e w' => e = .returned (.bool r) ∧ Below w.heap.size w w' := by
 unfold supercargolaw19_awake.f at h
 obtain ⟨t, ht, h⟩ := Option.bind_eq_some_iff.mp h
 cases t with
 | true => rw [if_pos rfl] at h; obtain rfl := Option.some.inj h; exact awk.calls k true w ht ⟨rfl⟩
 | false => rw [if_neg (by decide)] at h; cases h
end Go.Proofs.Ytlhaaccdiienbaa.X
