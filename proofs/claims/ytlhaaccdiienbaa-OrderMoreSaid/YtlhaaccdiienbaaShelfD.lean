/-
  DERIVED: THE SHELF's CONTRACTS AT THIS DUMP, IN PLAIN WORDS (tools/lay-plain.mjs out of 'TryShD.lean', which tools/lay-shelf.mjs wrote): THE SAME DECLARATIONS UNDER THE SAME NAMES: 'import', 'namespace', 'open', 'def', 'theorem' AND NOTHING ELSE: no command of the shelf's: FOR A HAND-IN. Each laying: the table of numbers ('.._ren') and one theorem, a field a fact of the dump's own or the kernel's comparison; each contract: ONE APPLICATION.
-/
import Derived.Shelf.SlGeneric
import Derived.Shelf.SlIter.Nil
import Derived.Shelf.SortM.Plain
import Derived.Shelf.SortM.SortNone
import Derived.Ground.GgzProg
import Derived.Ground.SlgmProg
import Derived.Test.YtlhaaccdiienbaaProg
namespace Go.Proofs
open Go.Shelf
def Try.keys76_ren : Go.Shelf.Ren := ⟨fun | 7 => 76 | 10 => 133 | n => n, fun | 23 => 114 | 26 => 9 | 3 => 3 | 28 => 118 | 0 => 0 | 27 => 117 | 33 => 75 | 4 => 4 | n => n, fun | n => n⟩
theorem Try.keys76 : Go.Proofs.SlLaysZ.n7 Try.prog Try.keys76_ren := {
  mixed := by kernel_rfl
  f7 := ⟨Try.f76.name, by decide, Try.func76.trans (congrArg some (by kernel_rfl))⟩
  f10 := ⟨Try.f133.name, by decide, Try.func133.trans (congrArg some (by kernel_rfl))⟩
  t0 := Try.underlying0
  a0 := Try.isAgg0
  z0 := Try.sizeOf0
  v0 := Try.zeroValue0
  t4 := Try.underlying4
  a4 := Try.isAgg4
  z4 := Try.sizeOf4
  v4 := Try.zeroValue4
  t23 := Try.underlying114
  a23 := Try.isAgg114
  z23 := Try.sizeOf114
  v23 := Try.zeroValue114
  t26 := Try.underlying9
  a26 := Try.isAgg9
  z26 := Try.sizeOf9
  v26 := Try.zeroValue9
  t27 := Try.underlying117
  a27 := Try.isAgg117
  z27 := Try.sizeOf117
  v27 := Try.zeroValue117
  t28 := Try.underlying118
  a28 := Try.isAgg118
  z28 := Try.sizeOf118
  v28 := Try.zeroValue118
  t33 := Try.underlying75
  a33 := Try.isAgg75
  z33 := Try.sizeOf75
  v33 := Try.zeroValue75 }
def Try.sorted75_ren : Go.Shelf.Ren := ⟨fun | 6 => 75 | 8 => 131 | 9 => 132 | 11 => 162 | 13 => 90 | 12 => 163 | 23 => 145 | 24 => 146 | 14 => 171 | 15 => 172 | 16 => 173 | 17 => 174 | 18 => 175 | 19 => 176 | 20 => 177 | 21 => 178 | 22 => 179 | 25 => 182 | 26 => 166 | 27 => 167 | 28 => 183 | 29 => 184 | 30 => 185 | 31 => 186 | n => n, fun | 26 => 9 | 28 => 118 | 24 => 48 | 0 => 0 | 3 => 3 | 37 => 129 | 48 => 164 | 50 => 166 | 4 => 4 | 40 => 157 | 39 => 156 | 45 => 161 | 5 => 5 | 9 => 9 | 51 => 179 | 55 => 183 | 57 => 192 | 58 => 193 | 33 => 75 | n => n, fun | n => n⟩
theorem Try.sorted75 : Go.Proofs.SlLaysZ.n6 Try.prog Try.sorted75_ren := {
  mixed := by kernel_rfl
  f6 := ⟨Try.f75.name, by decide, Try.func75.trans (congrArg some (by kernel_rfl))⟩
  f8 := ⟨Try.f131.name, by decide, Try.func131.trans (congrArg some (by kernel_rfl))⟩
  f11 := ⟨Try.f162.name, by decide, Try.func162.trans (congrArg some (by kernel_rfl))⟩
  t0 := Try.underlying0
  a0 := Try.isAgg0
  z0 := Try.sizeOf0
  v0 := Try.zeroValue0
  t24 := Try.underlying48
  a24 := Try.isAgg48
  z24 := Try.sizeOf48
  v24 := Try.zeroValue48
  t26 := Try.underlying9
  a26 := Try.isAgg9
  z26 := Try.sizeOf9
  v26 := Try.zeroValue9
  t28 := Try.underlying118
  a28 := Try.isAgg118
  z28 := Try.sizeOf118
  v28 := Try.zeroValue118
  i26 := by kernel_rfl }
def Try.sort132_ren : Go.Shelf.Ren := ⟨fun | 6 => 132 | 8 => 90 | 9 => 163 | 19 => 145 | 20 => 146 | 21 => 171 | 22 => 172 | 23 => 173 | 24 => 174 | 25 => 175 | 26 => 176 | 27 => 177 | 28 => 178 | 29 => 179 | 36 => 182 | 31 => 166 | 32 => 167 | 37 => 183 | 38 => 184 | 39 => 185 | 41 => 186 | n => n, fun | 27 => 48 | 29 => 9 | 3 => 3 | 32 => 129 | 26 => 48 | 0 => 0 | 44 => 164 | 46 => 166 | 4 => 4 | 36 => 157 | 35 => 156 | 41 => 161 | 5 => 5 | 9 => 9 | 53 => 179 | 57 => 183 | 63 => 192 | 64 => 193 | n => n, fun | n => n⟩
theorem Try.sort132 : Go.Proofs.SlLaysM.n6 Try.prog Try.sort132_ren := {
  mixed := by kernel_rfl
  f6 := ⟨Try.f132.name, by decide, Try.func132.trans (congrArg some (by kernel_rfl))⟩
  f8 := Try.func90.trans (congrArg some (by kernel_rfl))
  f9 := ⟨Try.f163.name, by decide, Try.func163.trans (congrArg some (by kernel_rfl))⟩
  f19 := Try.func145.trans (congrArg some (by kernel_rfl))
  f20 := Try.func146.trans (congrArg some (by kernel_rfl))
  f21 := ⟨Try.f171.name, by decide, Try.func171.trans (congrArg some (by kernel_rfl))⟩
  f22 := ⟨Try.f172.name, by decide, Try.func172.trans (congrArg some (by kernel_rfl))⟩
  f23 := ⟨Try.f173.name, by decide, Try.func173.trans (congrArg some (by kernel_rfl))⟩
  f24 := ⟨Try.f174.name, by decide, Try.func174.trans (congrArg some (by kernel_rfl))⟩
  f25 := ⟨Try.f175.name, by decide, Try.func175.trans (congrArg some (by kernel_rfl))⟩
  f26 := ⟨Try.f176.name, by decide, Try.func176.trans (congrArg some (by kernel_rfl))⟩
  f27 := ⟨Try.f177.name, by decide, Try.func177.trans (congrArg some (by kernel_rfl))⟩
  f28 := ⟨Try.f178.name, by decide, Try.func178.trans (congrArg some (by kernel_rfl))⟩
  f29 := ⟨Try.f179.name, by decide, Try.func179.trans (congrArg some (by kernel_rfl))⟩
  f31 := Try.func166.trans (congrArg some (by kernel_rfl))
  f32 := Try.func167.trans (congrArg some (by kernel_rfl))
  f36 := ⟨Try.f182.name, by decide, Try.func182.trans (congrArg some (by kernel_rfl))⟩
  f37 := ⟨Try.f183.name, by decide, Try.func183.trans (congrArg some (by kernel_rfl))⟩
  f38 := ⟨Try.f184.name, by decide, Try.func184.trans (congrArg some (by kernel_rfl))⟩
  f39 := ⟨Try.f185.name, by decide, Try.func185.trans (congrArg some (by kernel_rfl))⟩
  f41 := ⟨Try.f186.name, by decide, Try.func186.trans (congrArg some (by kernel_rfl))⟩
  t0 := Try.underlying0
  a0 := Try.isAgg0
  z0 := Try.sizeOf0
  v0 := Try.zeroValue0
  t3 := Try.underlying3
  a3 := Try.isAgg3
  z3 := Try.sizeOf3
  v3 := Try.zeroValue3
  t4 := Try.underlying4
  a4 := Try.isAgg4
  z4 := Try.sizeOf4
  v4 := Try.zeroValue4
  t5 := Try.underlying5
  a5 := Try.isAgg5
  z5 := Try.sizeOf5
  v5 := Try.zeroValue5
  t9 := Try.underlying9
  a9 := Try.isAgg9
  z9 := Try.sizeOf9
  v9 := Try.zeroValue9
  t26 := Try.underlying48
  a26 := Try.isAgg48
  z26 := Try.sizeOf48
  v26 := Try.zeroValue48
  t27 := Try.underlying48
  a27 := Try.isAgg48
  z27 := Try.sizeOf48
  v27 := Try.zeroValue48
  t29 := Try.underlying9
  a29 := Try.isAgg9
  z29 := Try.sizeOf9
  v29 := Try.zeroValue9
  t32 := Try.underlying129
  a32 := Try.isAgg129
  z32 := Try.sizeOf129
  v32 := Try.zeroValue129
  t35 := Try.underlying156
  a35 := Try.isAgg156
  z35 := Try.sizeOf156
  v35 := Try.zeroValue156
  t36 := Try.underlying157
  a36 := Try.isAgg157
  z36 := Try.sizeOf157
  v36 := Try.zeroValue157
  t41 := Try.underlying161
  a41 := Try.isAgg161
  z41 := Try.sizeOf161
  v41 := Try.zeroValue161
  t44 := Try.underlying164
  a44 := Try.isAgg164
  z44 := Try.sizeOf164
  v44 := Try.zeroValue164
  t46 := Try.underlying166
  a46 := Try.isAgg166
  z46 := Try.sizeOf166
  v46 := Try.zeroValue166
  t53 := Try.underlying179
  a53 := Try.isAgg179
  z53 := Try.sizeOf179
  v53 := Try.zeroValue179
  t57 := Try.underlying183
  a57 := Try.isAgg183
  z57 := Try.sizeOf183
  v57 := Try.zeroValue183
  t63 := Try.underlying192
  a63 := Try.isAgg192
  z63 := Try.sizeOf192
  v63 := Try.zeroValue192
  t64 := Try.underlying193
  a64 := Try.isAgg193
  z64 := Try.sizeOf193
  v64 := Try.zeroValue193 }
open Go.RowKit Go.Maps Go.Sort Go.Shelf in
theorem Try.sorts75 (m : Nat) : AnyZ.SortsIn Try.prog Try.sorted75_ren Fence.wide m :=
  ⟨fun blk off cap ss W hH hblk hsz => callsIn_wide.2 (AnyM.slices_Sort_string Try.sort132 blk off cap ss W hH hblk hsz),
   fun p cap W => callsIn_wide.2 (AnyM.slices_Sort_string_none Try.sort132 p cap W)⟩
open Go.RowKit Go.Maps Go.Sort Go.Shelf in
theorem Try.maps_Keys_76 (mb : Option Nat) (W : World) : CallsIn Fence.wide 5 Try.prog 76 #[.map mb] W fun e w' => e = .returned (.func (.func 133) #[] #[.pointer (some ⟨W.heap.size, 0, none⟩)]) ∧ w' = W.alloc (.cells #[.map mb] 114) :=
  AnyZ.keys_in Try.keys76 Fence.wide 5 trivial rfl mb W
open Go.RowKit Go.Maps Go.Sort Go.Shelf in
theorem Try.slices_Sorted_keys_75_76 {H : Type} (b nn : Nat) (D0 : DataW H) (R : Value → Option (DataW H × List MemPlace)) (w : World) (hown : w.ownsMap Try.prog 9 R b nn D0) (hmax : Maps.size D0 ≤ maxLen) (hbytes : Maps.size D0 * 16 ≤ 140737488355328) :
    CallsIn Fence.wide 5 Try.prog 75 #[.func (.func 133) #[] #[.pointer (some ⟨w.heap.size, 0, none⟩)]] (w.alloc (.cells #[.map (some b)] 114)) fun e w' => ∃ (v : Value) (ss : List (List UInt8)), e = .returned v ∧ ss.Perm (strKeys D0) ∧
      w'.ownsRow (w.alloc (.cells #[.map (some b)] 114)).heap.size 9 1 v ss.length ((ss.mergeSort (fun x y => decide (x ≤ y))).map encStr) ∧ (v = .slice none 0 0 ↔ ss = []) ∧ Below (w.alloc (.cells #[.map (some b)] 114)).heap.size (w.alloc (.cells #[.map (some b)] 114)) w' := by
  have hbl := hown.lt
  have hseq : SeqGives Fence.wide 2 Try.prog 133 #[.pointer (some ⟨w.heap.size, 0, none⟩)] encStr (fun ss => ss.Perm (strKeys D0)) (Maps.size D0) (w.alloc (.cells #[.map (some b)] 114)) :=
    AnyZ.keys_gives (ρ := Try.keys76_ren) { Try.keys76 with } Fence.wide _ trivial rfl (by omega) w.heap.size b nn D0 _ (by simp) (by simp) (by
      obtain ⟨es, clock, hb, Ft, hs, hD⟩ := hown
      exact ⟨es, clock, (Below.heap_alloc _ _ b hbl).trans hb, Ft, hs, hD⟩)
  exact AnyZ.sorted_in Try.sorted75 Fence.wide 5 trivial trivial trivial trivial rfl (by omega) (Try.sorts75 _) (enters_of Try.func132 (by kernel_rfl) rfl) 133 #[.pointer (some ⟨w.heap.size, 0, none⟩)] trivial (enters_of Try.func133 (by kernel_rfl) rfl) _ _ hmax hbytes _ hseq
open Go.RowKit Go.Maps Go.Sort Go.Shelf in
theorem Try.slices_Sorted_keys_nil_75_76 (w : World) :
    CallsIn Fence.wide 5 Try.prog 75 #[.func (.func 133) #[] #[.pointer (some ⟨w.heap.size, 0, none⟩)]] (w.alloc (.cells #[.map none] 114)) fun e w' => ∃ (v : Value) (ss : List (List UInt8)), e = .returned v ∧ ss = [] ∧
      w'.ownsRow (w.alloc (.cells #[.map none] 114)).heap.size 9 1 v ss.length ((ss.mergeSort (fun x y => decide (x ≤ y))).map encStr) ∧ (v = .slice none 0 0 ↔ ss = []) ∧ Below (w.alloc (.cells #[.map none] 114)).heap.size (w.alloc (.cells #[.map none] 114)) w' := by
  have hseq : SeqGives Fence.wide 2 Try.prog 133 #[.pointer (some ⟨w.heap.size, 0, none⟩)] encStr (fun ss : List (List UInt8) => ss = []) 0 (w.alloc (.cells #[.map none] 114)) :=
    AnyZ.keys_gives_nil (ρ := Try.keys76_ren) { Try.keys76 with } Fence.wide _ trivial rfl w.heap.size _ (by simp) (by simp)
  exact AnyZ.sorted_in Try.sorted75 Fence.wide 5 trivial trivial trivial trivial rfl (by omega) (Try.sorts75 _) (enters_of Try.func132 (by kernel_rfl) rfl) 133 #[.pointer (some ⟨w.heap.size, 0, none⟩)] trivial (enters_of Try.func133 (by kernel_rfl) rfl) _ 0 (Nat.zero_le _) (by omega) _ hseq
end Go.Proofs
