/-
  NARROWER THAN 'FOR EVERY INPUT', by the rows' own cells (each row's printed sentence says how): NoticeHoliday: loops.
  DERIVED. THE GIVEN ROWS OF THIS SEAT. 6 by the template 'for every input the law returns true; each argument reads behind the call as it read before'; 0 by the template 'total and deterministic' (their statements: YtjagffhmdafnmaaTotals.lean).
  GIVEN WITH THE SEED: the statements are not yours to turn. If you find one false, say at which input.
  Laid BY PROGRAM, IN A SANDBOX (cutbox-rows.mjs): the forced cells as the released guide's own fill.sh prints them over the translation 4a60e965baba9744… (all of the seat's roots in one cut). By AI agents, Wed Nov 11 2026. No macro, syntax, notation, axiom, sorry.
-/
import Derived.Test.YtjagffhmdafnmaaChecked
import GoSem.Claim
import GoSem.ClaimJoined
import GoSem.ClaimMapViews
import Derived.JoinedTies
import Derived.KernelRfl
namespace Go.Proofs.Ytjagffhmdafnmaa
/- THE CELL 'sum', in the pinned program and in every row, IS THE sha256 OF THE DUMP (.gsa) THAT YtjagffhmdafnmaaProg.lean LOADS. Nothing in Lean hashes anything: it is a label: what it is worth is what the hold of that sum in a sandbox is worth. -/
noncomputable def Try.pinned : Pinned := { name := "ytjagffhmdafnmaa", sum := "4a60e965baba9744e30ca76edd19b2106c91f0c9fae5701b34cc0e3a26c8a256", checked := Try.checked }
namespace Rows
def none {H : Type} : Left H := { results := [], args := [] }

/-- 'supercargolaw35.NoticeCounts': WHATEVER THE INPUT: true; the input reads as it did. -/
def noticeCountsSpec : ChangeSpec := { name := "noticeCounts", fn := fun _ => fun
  | [d1, d2] => { results := [.lit (.bool true)], args := [d1, d2] }
  | _ => none }
def noticeCountsRow : OpenClaim := { program := "ytjagffhmdafnmaa", sum := "4a60e965baba9744e30ca76edd19b2106c91f0c9fae5701b34cc0e3a26c8a256", func := "supercargo/supercargolaw35.NoticeCounts", spec := "noticeCounts", apart := false }
def NoticeCountsSaid : Prop := noticeCountsRow.holds Try.pinned (OpenSpec.ofChange noticeCountsSpec)

/-- ITS FALSE NEIGHBOUR: 'it returns false'. Refute it at one input. -/
def noticeCountsWrong : ChangeSpec := { name := "noticeCounts", fn := fun _ => fun
  | [d1, d2] => { results := [.lit (.bool false)], args := [d1, d2] }
  | _ => none }
def NoticeCountsWrongFalsely : Prop := noticeCountsRow.holds Try.pinned (OpenSpec.ofChange noticeCountsWrong)

/-- 'supercargolaw35.NoticeDays': WHATEVER THE INPUT: true; the input reads as it did. -/
def noticeDaysSpec : ChangeSpec := { name := "noticeDays", fn := fun _ => fun
  | [d1, d2, d3, d4] => { results := [.lit (.bool true)], args := [d1, d2, d3, d4] }
  | _ => none }
def noticeDaysRow : OpenClaim := { program := "ytjagffhmdafnmaa", sum := "4a60e965baba9744e30ca76edd19b2106c91f0c9fae5701b34cc0e3a26c8a256", func := "supercargo/supercargolaw35.NoticeDays", spec := "noticeDays", apart := false }
def NoticeDaysSaid : Prop := noticeDaysRow.holds Try.pinned (OpenSpec.ofChange noticeDaysSpec)

/-- ITS FALSE NEIGHBOUR: 'it returns false'. Refute it at one input. -/
def noticeDaysWrong : ChangeSpec := { name := "noticeDays", fn := fun _ => fun
  | [d1, d2, d3, d4] => { results := [.lit (.bool false)], args := [d1, d2, d3, d4] }
  | _ => none }
def NoticeDaysWrongFalsely : Prop := noticeDaysRow.holds Try.pinned (OpenSpec.ofChange noticeDaysWrong)

/-- 'supercargolaw35.NoticeAnswers': WHATEVER THE INPUT: true; the input reads as it did. -/
def noticeAnswersSpec : ChangeSpec := { name := "noticeAnswers", fn := fun _ => fun
  | [d1, d2, d3, d4, d5] => { results := [.lit (.bool true)], args := [d1, d2, d3, d4, d5] }
  | _ => none }
def noticeAnswersRow : OpenClaim := { program := "ytjagffhmdafnmaa", sum := "4a60e965baba9744e30ca76edd19b2106c91f0c9fae5701b34cc0e3a26c8a256", func := "supercargo/supercargolaw35.NoticeAnswers", spec := "noticeAnswers", unfollowed := true, recurses := true, apart := false }
def NoticeAnswersSaid : Prop := noticeAnswersRow.holds Try.pinned (OpenSpec.ofChange noticeAnswersSpec)

/-- ITS FALSE NEIGHBOUR: 'it returns false'. Refute it at one input. -/
def noticeAnswersWrong : ChangeSpec := { name := "noticeAnswers", fn := fun _ => fun
  | [d1, d2, d3, d4, d5] => { results := [.lit (.bool false)], args := [d1, d2, d3, d4, d5] }
  | _ => none }
def NoticeAnswersWrongFalsely : Prop := noticeAnswersRow.holds Try.pinned (OpenSpec.ofChange noticeAnswersWrong)

/-- 'supercargolaw35.NoticeTold': WHATEVER THE INPUT: true; the input reads as it did. -/
def noticeToldSpec : ChangeSpec := { name := "noticeTold", fn := fun _ => fun
  | [d1, d2, d3, d4, d5, d6] => { results := [.lit (.bool true)], args := [d1, d2, d3, d4, d5, d6] }
  | _ => none }
def noticeToldRow : OpenClaim := { program := "ytjagffhmdafnmaa", sum := "4a60e965baba9744e30ca76edd19b2106c91f0c9fae5701b34cc0e3a26c8a256", func := "supercargo/supercargolaw35.NoticeTold", spec := "noticeTold", unfollowed := true, recurses := true, apart := false }
def NoticeToldSaid : Prop := noticeToldRow.holds Try.pinned (OpenSpec.ofChange noticeToldSpec)

/-- ITS FALSE NEIGHBOUR: 'it returns false'. Refute it at one input. -/
def noticeToldWrong : ChangeSpec := { name := "noticeTold", fn := fun _ => fun
  | [d1, d2, d3, d4, d5, d6] => { results := [.lit (.bool false)], args := [d1, d2, d3, d4, d5, d6] }
  | _ => none }
def NoticeToldWrongFalsely : Prop := noticeToldRow.holds Try.pinned (OpenSpec.ofChange noticeToldWrong)

/-- 'supercargolaw35.NoticeLast': WHATEVER THE INPUT: true; the input reads as it did. -/
def noticeLastSpec : ChangeSpec := { name := "noticeLast", fn := fun _ => fun
  | [d1, d2, d3, d4] => { results := [.lit (.bool true)], args := [d1, d2, d3, d4] }
  | _ => none }
def noticeLastRow : OpenClaim := { program := "ytjagffhmdafnmaa", sum := "4a60e965baba9744e30ca76edd19b2106c91f0c9fae5701b34cc0e3a26c8a256", func := "supercargo/supercargolaw35.NoticeLast", spec := "noticeLast", unfollowed := true, recurses := true, apart := false }
def NoticeLastSaid : Prop := noticeLastRow.holds Try.pinned (OpenSpec.ofChange noticeLastSpec)

/-- ITS FALSE NEIGHBOUR: 'it returns false'. Refute it at one input. -/
def noticeLastWrong : ChangeSpec := { name := "noticeLast", fn := fun _ => fun
  | [d1, d2, d3, d4] => { results := [.lit (.bool false)], args := [d1, d2, d3, d4] }
  | _ => none }
def NoticeLastWrongFalsely : Prop := noticeLastRow.holds Try.pinned (OpenSpec.ofChange noticeLastWrong)

/-- 'supercargolaw35.NoticeHoliday': WHATEVER THE INPUT: true; the input reads as it did. -/
def noticeHolidaySpec : ChangeSpec := { name := "noticeHoliday", fn := fun _ => fun
  | [d1, d2, d3, d4, d5, d6] => { results := [.lit (.bool true)], args := [d1, d2, d3, d4, d5, d6] }
  | _ => none }
def noticeHolidayRow : OpenClaim := { program := "ytjagffhmdafnmaa", sum := "4a60e965baba9744e30ca76edd19b2106c91f0c9fae5701b34cc0e3a26c8a256", func := "supercargo/supercargolaw35.NoticeHoliday", spec := "noticeHoliday", unfollowed := true, recurses := true, loops := true, apart := false }
def NoticeHolidaySaid : Prop := noticeHolidayRow.holds Try.pinned (OpenSpec.ofChange noticeHolidaySpec)

/-- ITS FALSE NEIGHBOUR: 'it returns false'. Refute it at one input. -/
def noticeHolidayWrong : ChangeSpec := { name := "noticeHoliday", fn := fun _ => fun
  | [d1, d2, d3, d4, d5, d6] => { results := [.lit (.bool false)], args := [d1, d2, d3, d4, d5, d6] }
  | _ => none }
def NoticeHolidayWrongFalsely : Prop := noticeHolidayRow.holds Try.pinned (OpenSpec.ofChange noticeHolidayWrong)

/- THE SECOND FORM. 'bulk': how many values and letters a reading holds, each counted each time it is reached (what is shared counts as often as it is met; a slice's spare places count too). A statement '..UptoSaid' is the law's where the arguments, and the package variables that the reading takes, are together of bulk at most 1048576: NARROWER than '..Said'. Prove '..Said' where nothing that the law and all that it calls make is longer than what came in: it says more and counts as full. Else prove '..UptoSaid'. A law counts once. -/
mutual
def uptoBulk {H : Type} : DataW H → Nat
  | .lit (.string bytes) => bytes.length + 1
  | .lit _ => 1
  | .nil => 1
  | .ptr d => uptoBulk d + 1
  | .slice elems spare => uptoBulkAll elems + uptoBulkAll spare + 1
  | .agg parts => uptoBulkAll parts + 1
  | .iface _ d => uptoBulk d + 1
  | .map entries => uptoBulkEntries entries + 1
  | .held _ => 1
def uptoBulkAll {H : Type} : List (DataW H) → Nat
  | [] => 0
  | d :: r => uptoBulk d + uptoBulkAll r
def uptoBulkEntries {H : Type} : List (Lit × DataW H) → Nat
  | [] => 0
  | x :: r => uptoBulkEntry x + uptoBulkEntries r
def uptoBulkEntry {H : Type} : Lit × DataW H → Nat
  | (.string bytes, d) => bytes.length + uptoBulk d + 1
  | (_, d) => uptoBulk d + 1
 end
def uptoSmall : (H : Type) → List (DataW H) → Bool := fun _ ds => decide (uptoBulkAll ds ≤ 1048576)
def OpenSpec.upto (s : _root_.Go.ChangeSpec) : _root_.Go.OpenSpec := { _root_.Go.OpenSpec.ofChange s with cond := some uptoSmall }

/-- 'supercargolaw35.NoticeCounts', WHERE WHAT IT READS IS OF BULK AT MOST 1048576: true; the input reads as it did. -/
def noticeCountsUptoRow : OpenClaim := { program := "ytjagffhmdafnmaa", sum := "4a60e965baba9744e30ca76edd19b2106c91f0c9fae5701b34cc0e3a26c8a256", func := "supercargo/supercargolaw35.NoticeCounts", spec := "noticeCounts", apart := false, narrowed := true }
def NoticeCountsUptoSaid : Prop := noticeCountsUptoRow.holds Try.pinned (OpenSpec.upto noticeCountsSpec)

/-- 'supercargolaw35.NoticeDays', WHERE WHAT IT READS IS OF BULK AT MOST 1048576: true; the input reads as it did. -/
def noticeDaysUptoRow : OpenClaim := { program := "ytjagffhmdafnmaa", sum := "4a60e965baba9744e30ca76edd19b2106c91f0c9fae5701b34cc0e3a26c8a256", func := "supercargo/supercargolaw35.NoticeDays", spec := "noticeDays", apart := false, narrowed := true }
def NoticeDaysUptoSaid : Prop := noticeDaysUptoRow.holds Try.pinned (OpenSpec.upto noticeDaysSpec)

/-- 'supercargolaw35.NoticeAnswers', WHERE WHAT IT READS IS OF BULK AT MOST 1048576: true; the input reads as it did. -/
def noticeAnswersUptoRow : OpenClaim := { program := "ytjagffhmdafnmaa", sum := "4a60e965baba9744e30ca76edd19b2106c91f0c9fae5701b34cc0e3a26c8a256", func := "supercargo/supercargolaw35.NoticeAnswers", spec := "noticeAnswers", unfollowed := true, recurses := true, apart := false, narrowed := true }
def NoticeAnswersUptoSaid : Prop := noticeAnswersUptoRow.holds Try.pinned (OpenSpec.upto noticeAnswersSpec)

/-- 'supercargolaw35.NoticeTold', WHERE WHAT IT READS IS OF BULK AT MOST 1048576: true; the input reads as it did. -/
def noticeToldUptoRow : OpenClaim := { program := "ytjagffhmdafnmaa", sum := "4a60e965baba9744e30ca76edd19b2106c91f0c9fae5701b34cc0e3a26c8a256", func := "supercargo/supercargolaw35.NoticeTold", spec := "noticeTold", unfollowed := true, recurses := true, apart := false, narrowed := true }
def NoticeToldUptoSaid : Prop := noticeToldUptoRow.holds Try.pinned (OpenSpec.upto noticeToldSpec)

/-- 'supercargolaw35.NoticeLast', WHERE WHAT IT READS IS OF BULK AT MOST 1048576: true; the input reads as it did. -/
def noticeLastUptoRow : OpenClaim := { program := "ytjagffhmdafnmaa", sum := "4a60e965baba9744e30ca76edd19b2106c91f0c9fae5701b34cc0e3a26c8a256", func := "supercargo/supercargolaw35.NoticeLast", spec := "noticeLast", unfollowed := true, recurses := true, apart := false, narrowed := true }
def NoticeLastUptoSaid : Prop := noticeLastUptoRow.holds Try.pinned (OpenSpec.upto noticeLastSpec)

/-- 'supercargolaw35.NoticeHoliday', WHERE WHAT IT READS IS OF BULK AT MOST 1048576: true; the input reads as it did. -/
def noticeHolidayUptoRow : OpenClaim := { program := "ytjagffhmdafnmaa", sum := "4a60e965baba9744e30ca76edd19b2106c91f0c9fae5701b34cc0e3a26c8a256", func := "supercargo/supercargolaw35.NoticeHoliday", spec := "noticeHoliday", unfollowed := true, recurses := true, loops := true, apart := false, narrowed := true }
def NoticeHolidayUptoSaid : Prop := noticeHolidayUptoRow.holds Try.pinned (OpenSpec.upto noticeHolidaySpec)

end Rows
end Go.Proofs.Ytjagffhmdafnmaa
