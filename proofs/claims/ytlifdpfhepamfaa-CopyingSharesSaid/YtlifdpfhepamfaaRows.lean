/-
  NARROWER THAN 'FOR EVERY INPUT', by the rows' own cells (each row's printed sentence says how): HeapPlays: loops · CopyingKeeps: loops.
  DERIVED. THE GIVEN ROWS OF THIS SEAT. 10 by the template 'for every input the law returns true; each argument reads behind the call as it read before'; 0 by the template 'total and deterministic' (their statements: YtlifdpfhepamfaaTotals.lean).
  GIVEN WITH THE SEED: the statements are not yours to turn. If you find one false, say at which input.
  Laid BY PROGRAM, IN A SANDBOX (cutbox-rows.mjs): the forced cells as the released guide's own fill.sh prints them over the translation 2ffba69f4d4e40d9… (all of the seat's roots in one cut). By AI agents, Wed Nov 11 2026. No macro, syntax, notation, axiom, sorry.
-/
import Derived.Test.YtlifdpfhepamfaaChecked
import GoSem.Claim
import GoSem.ClaimJoined
import GoSem.ClaimMapViews
import Derived.JoinedTies
import Derived.KernelRfl
namespace Go.Proofs.Ytlifdpfhepamfaa
/- THE CELL 'sum', in the pinned program and in every row, IS THE sha256 OF THE DUMP (.gsa) THAT YtlifdpfhepamfaaProg.lean LOADS. Nothing in Lean hashes anything: it is a label: what it is worth is what the hold of that sum in a sandbox is worth. -/
noncomputable def Try.pinned : Pinned := { name := "ytlifdpfhepamfaa", sum := "2ffba69f4d4e40d9ad073d8c5581308c31b34e137206e495e6a6d70516da82a9", checked := Try.checked }
namespace Rows
def none {H : Type} : Left H := { results := [], args := [] }

/-- 'relictlaw12.HeapAtoms': WHATEVER THE INPUT: true; the input reads as it did. -/
def heapAtomsSpec : ChangeSpec := { name := "heapAtoms", fn := fun _ => fun
  | [d] => { results := [.lit (.bool true)], args := [d] }
  | _ => none }
def heapAtomsRow : OpenClaim := { program := "ytlifdpfhepamfaa", sum := "2ffba69f4d4e40d9ad073d8c5581308c31b34e137206e495e6a6d70516da82a9", func := "relict/relictlaw12.HeapAtoms", spec := "heapAtoms", recurses := true, apart := false }
def HeapAtomsSaid : Prop := heapAtomsRow.holds Try.pinned (OpenSpec.ofChange heapAtomsSpec)

/-- ITS FALSE NEIGHBOUR: 'it returns false'. Refute it at one input. -/
def heapAtomsWrong : ChangeSpec := { name := "heapAtoms", fn := fun _ => fun
  | [d] => { results := [.lit (.bool false)], args := [d] }
  | _ => none }
def HeapAtomsWrongFalsely : Prop := heapAtomsRow.holds Try.pinned (OpenSpec.ofChange heapAtomsWrong)

/-- 'relictlaw12.HeapPlays': WHATEVER THE INPUT: true; the input reads as it did. -/
def heapPlaysSpec : ChangeSpec := { name := "heapPlays", fn := fun _ => fun
  | [d1, d2, d3, d4] => { results := [.lit (.bool true)], args := [d1, d2, d3, d4] }
  | _ => none }
def heapPlaysRow : OpenClaim := { program := "ytlifdpfhepamfaa", sum := "2ffba69f4d4e40d9ad073d8c5581308c31b34e137206e495e6a6d70516da82a9", func := "relict/relictlaw12.HeapPlays", spec := "heapPlays", recurses := true, loops := true, apart := false }
def HeapPlaysSaid : Prop := heapPlaysRow.holds Try.pinned (OpenSpec.ofChange heapPlaysSpec)

/-- ITS FALSE NEIGHBOUR: 'it returns false'. Refute it at one input. -/
def heapPlaysWrong : ChangeSpec := { name := "heapPlays", fn := fun _ => fun
  | [d1, d2, d3, d4] => { results := [.lit (.bool false)], args := [d1, d2, d3, d4] }
  | _ => none }
def HeapPlaysWrongFalsely : Prop := heapPlaysRow.holds Try.pinned (OpenSpec.ofChange heapPlaysWrong)

/-- 'relictlaw13.CopyingNone': WHATEVER THE INPUT: true; the input reads as it did. -/
def copyingNoneSpec : ChangeSpec := { name := "copyingNone", fn := fun _ => fun
  | [d1, d2] => { results := [.lit (.bool true)], args := [d1, d2] }
  | _ => none }
def copyingNoneRow : OpenClaim := { program := "ytlifdpfhepamfaa", sum := "2ffba69f4d4e40d9ad073d8c5581308c31b34e137206e495e6a6d70516da82a9", func := "relict/relictlaw13.CopyingNone", spec := "copyingNone", unfollowed := true, recurses := true, apart := false }
def CopyingNoneSaid : Prop := copyingNoneRow.holds Try.pinned (OpenSpec.ofChange copyingNoneSpec)

/-- ITS FALSE NEIGHBOUR: 'it returns false'. Refute it at one input. -/
def copyingNoneWrong : ChangeSpec := { name := "copyingNone", fn := fun _ => fun
  | [d1, d2] => { results := [.lit (.bool false)], args := [d1, d2] }
  | _ => none }
def CopyingNoneWrongFalsely : Prop := copyingNoneRow.holds Try.pinned (OpenSpec.ofChange copyingNoneWrong)

/-- 'relictlaw12.HeapNumbers': WHATEVER THE INPUT: true; the input reads as it did. -/
def heapNumbersSpec : ChangeSpec := { name := "heapNumbers", fn := fun _ => fun
  | [d1, d2, d3] => { results := [.lit (.bool true)], args := [d1, d2, d3] }
  | _ => none }
def heapNumbersRow : OpenClaim := { program := "ytlifdpfhepamfaa", sum := "2ffba69f4d4e40d9ad073d8c5581308c31b34e137206e495e6a6d70516da82a9", func := "relict/relictlaw12.HeapNumbers", spec := "heapNumbers", unfollowed := true, recurses := true, apart := false }
def HeapNumbersSaid : Prop := heapNumbersRow.holds Try.pinned (OpenSpec.ofChange heapNumbersSpec)

/-- ITS FALSE NEIGHBOUR: 'it returns false'. Refute it at one input. -/
def heapNumbersWrong : ChangeSpec := { name := "heapNumbers", fn := fun _ => fun
  | [d1, d2, d3] => { results := [.lit (.bool false)], args := [d1, d2, d3] }
  | _ => none }
def HeapNumbersWrongFalsely : Prop := heapNumbersRow.holds Try.pinned (OpenSpec.ofChange heapNumbersWrong)

/-- 'relictlaw12.HeapBytes': WHATEVER THE INPUT: true; the input reads as it did. -/
def heapBytesSpec : ChangeSpec := { name := "heapBytes", fn := fun _ => fun
  | [d1, d2] => { results := [.lit (.bool true)], args := [d1, d2] }
  | _ => none }
def heapBytesRow : OpenClaim := { program := "ytlifdpfhepamfaa", sum := "2ffba69f4d4e40d9ad073d8c5581308c31b34e137206e495e6a6d70516da82a9", func := "relict/relictlaw12.HeapBytes", spec := "heapBytes", unfollowed := true, recurses := true, apart := false }
def HeapBytesSaid : Prop := heapBytesRow.holds Try.pinned (OpenSpec.ofChange heapBytesSpec)

/-- ITS FALSE NEIGHBOUR: 'it returns false'. Refute it at one input. -/
def heapBytesWrong : ChangeSpec := { name := "heapBytes", fn := fun _ => fun
  | [d1, d2] => { results := [.lit (.bool false)], args := [d1, d2] }
  | _ => none }
def HeapBytesWrongFalsely : Prop := heapBytesRow.holds Try.pinned (OpenSpec.ofChange heapBytesWrong)

/-- 'relictlaw12.HeapShares': WHATEVER THE INPUT: true; the input reads as it did. -/
def heapSharesSpec : ChangeSpec := { name := "heapShares", fn := fun _ => fun
  | [d1, d2, d3] => { results := [.lit (.bool true)], args := [d1, d2, d3] }
  | _ => none }
def heapSharesRow : OpenClaim := { program := "ytlifdpfhepamfaa", sum := "2ffba69f4d4e40d9ad073d8c5581308c31b34e137206e495e6a6d70516da82a9", func := "relict/relictlaw12.HeapShares", spec := "heapShares", unfollowed := true, recurses := true, apart := false }
def HeapSharesSaid : Prop := heapSharesRow.holds Try.pinned (OpenSpec.ofChange heapSharesSpec)

/-- ITS FALSE NEIGHBOUR: 'it returns false'. Refute it at one input. -/
def heapSharesWrong : ChangeSpec := { name := "heapShares", fn := fun _ => fun
  | [d1, d2, d3] => { results := [.lit (.bool false)], args := [d1, d2, d3] }
  | _ => none }
def HeapSharesWrongFalsely : Prop := heapSharesRow.holds Try.pinned (OpenSpec.ofChange heapSharesWrong)

/-- 'relictlaw12.HeapWords': WHATEVER THE INPUT: true; the input reads as it did. -/
def heapWordsSpec : ChangeSpec := { name := "heapWords", fn := fun _ => fun
  | [d1, d2, d3] => { results := [.lit (.bool true)], args := [d1, d2, d3] }
  | _ => none }
def heapWordsRow : OpenClaim := { program := "ytlifdpfhepamfaa", sum := "2ffba69f4d4e40d9ad073d8c5581308c31b34e137206e495e6a6d70516da82a9", func := "relict/relictlaw12.HeapWords", spec := "heapWords", unfollowed := true, recurses := true, apart := false }
def HeapWordsSaid : Prop := heapWordsRow.holds Try.pinned (OpenSpec.ofChange heapWordsSpec)

/-- ITS FALSE NEIGHBOUR: 'it returns false'. Refute it at one input. -/
def heapWordsWrong : ChangeSpec := { name := "heapWords", fn := fun _ => fun
  | [d1, d2, d3] => { results := [.lit (.bool false)], args := [d1, d2, d3] }
  | _ => none }
def HeapWordsWrongFalsely : Prop := heapWordsRow.holds Try.pinned (OpenSpec.ofChange heapWordsWrong)

/-- 'relictlaw13.CopyingShares': WHATEVER THE INPUT: true; the input reads as it did. -/
def copyingSharesSpec : ChangeSpec := { name := "copyingShares", fn := fun _ => fun
  | [d1, d2] => { results := [.lit (.bool true)], args := [d1, d2] }
  | _ => none }
def copyingSharesRow : OpenClaim := { program := "ytlifdpfhepamfaa", sum := "2ffba69f4d4e40d9ad073d8c5581308c31b34e137206e495e6a6d70516da82a9", func := "relict/relictlaw13.CopyingShares", spec := "copyingShares", unfollowed := true, recurses := true, apart := false }
def CopyingSharesSaid : Prop := copyingSharesRow.holds Try.pinned (OpenSpec.ofChange copyingSharesSpec)

/-- ITS FALSE NEIGHBOUR: 'it returns false'. Refute it at one input. -/
def copyingSharesWrong : ChangeSpec := { name := "copyingShares", fn := fun _ => fun
  | [d1, d2] => { results := [.lit (.bool false)], args := [d1, d2] }
  | _ => none }
def CopyingSharesWrongFalsely : Prop := copyingSharesRow.holds Try.pinned (OpenSpec.ofChange copyingSharesWrong)

/-- 'relictlaw13.CopyingRound': WHATEVER THE INPUT: true; the input reads as it did. -/
def copyingRoundSpec : ChangeSpec := { name := "copyingRound", fn := fun _ => fun
  | [d1, d2, d3] => { results := [.lit (.bool true)], args := [d1, d2, d3] }
  | _ => none }
def copyingRoundRow : OpenClaim := { program := "ytlifdpfhepamfaa", sum := "2ffba69f4d4e40d9ad073d8c5581308c31b34e137206e495e6a6d70516da82a9", func := "relict/relictlaw13.CopyingRound", spec := "copyingRound", unfollowed := true, recurses := true, apart := false }
def CopyingRoundSaid : Prop := copyingRoundRow.holds Try.pinned (OpenSpec.ofChange copyingRoundSpec)

/-- ITS FALSE NEIGHBOUR: 'it returns false'. Refute it at one input. -/
def copyingRoundWrong : ChangeSpec := { name := "copyingRound", fn := fun _ => fun
  | [d1, d2, d3] => { results := [.lit (.bool false)], args := [d1, d2, d3] }
  | _ => none }
def CopyingRoundWrongFalsely : Prop := copyingRoundRow.holds Try.pinned (OpenSpec.ofChange copyingRoundWrong)

/-- 'relictlaw13.CopyingKeeps': WHATEVER THE INPUT: true; the input reads as it did. -/
def copyingKeepsSpec : ChangeSpec := { name := "copyingKeeps", fn := fun _ => fun
  | [d1, d2, d3] => { results := [.lit (.bool true)], args := [d1, d2, d3] }
  | _ => none }
def copyingKeepsRow : OpenClaim := { program := "ytlifdpfhepamfaa", sum := "2ffba69f4d4e40d9ad073d8c5581308c31b34e137206e495e6a6d70516da82a9", func := "relict/relictlaw13.CopyingKeeps", spec := "copyingKeeps", unfollowed := true, recurses := true, loops := true, apart := false }
def CopyingKeepsSaid : Prop := copyingKeepsRow.holds Try.pinned (OpenSpec.ofChange copyingKeepsSpec)

/-- ITS FALSE NEIGHBOUR: 'it returns false'. Refute it at one input. -/
def copyingKeepsWrong : ChangeSpec := { name := "copyingKeeps", fn := fun _ => fun
  | [d1, d2, d3] => { results := [.lit (.bool false)], args := [d1, d2, d3] }
  | _ => none }
def CopyingKeepsWrongFalsely : Prop := copyingKeepsRow.holds Try.pinned (OpenSpec.ofChange copyingKeepsWrong)

/- THE SECOND FORM. 'bulk': how many values and letters a reading holds, each counted each time it is reached (what is shared counts as often as it is met; a slice's spare places count too). A statement '..UptoSaid' is the law's where the arguments, and the package variables that the reading takes, are together of bulk at most 1048576: NARROWER than '..Said'. Prove '..Said' where nothing that the law and all that it calls make is longer than what came in: it says more and counts as full. Else prove '..UptoSaid'. A law counts once. -/
mutual
def uptoBulk {H : Type} : DataW H → Nat
  | .lit (.string bytes) => bytes.length + 1
  | .lit _ => 1
  | .nil => 1
  | .ptr d => uptoBulk d + 1
  | .slice elems spare => uptoBulkAll elems + uptoBulkAll spare + 1
  | .agg parts => uptoBulkAll parts + 1
  | .iface _ d => uptoBulk d + 1
  | .map entries => uptoBulkEntries entries + 1
  | .held _ => 1
def uptoBulkAll {H : Type} : List (DataW H) → Nat
  | [] => 0
  | d :: r => uptoBulk d + uptoBulkAll r
def uptoBulkEntries {H : Type} : List (Lit × DataW H) → Nat
  | [] => 0
  | x :: r => uptoBulkEntry x + uptoBulkEntries r
def uptoBulkEntry {H : Type} : Lit × DataW H → Nat
  | (.string bytes, d) => bytes.length + uptoBulk d + 1
  | (_, d) => uptoBulk d + 1
 end
def uptoSmall : (H : Type) → List (DataW H) → Bool := fun _ ds => decide (uptoBulkAll ds ≤ 1048576)
def OpenSpec.upto (s : _root_.Go.ChangeSpec) : _root_.Go.OpenSpec := { _root_.Go.OpenSpec.ofChange s with cond := some uptoSmall }

/-- 'relictlaw12.HeapAtoms', WHERE WHAT IT READS IS OF BULK AT MOST 1048576: true; the input reads as it did. -/
def heapAtomsUptoRow : OpenClaim := { program := "ytlifdpfhepamfaa", sum := "2ffba69f4d4e40d9ad073d8c5581308c31b34e137206e495e6a6d70516da82a9", func := "relict/relictlaw12.HeapAtoms", spec := "heapAtoms", recurses := true, apart := false, narrowed := true }
def HeapAtomsUptoSaid : Prop := heapAtomsUptoRow.holds Try.pinned (OpenSpec.upto heapAtomsSpec)

/-- 'relictlaw12.HeapPlays', WHERE WHAT IT READS IS OF BULK AT MOST 1048576: true; the input reads as it did. -/
def heapPlaysUptoRow : OpenClaim := { program := "ytlifdpfhepamfaa", sum := "2ffba69f4d4e40d9ad073d8c5581308c31b34e137206e495e6a6d70516da82a9", func := "relict/relictlaw12.HeapPlays", spec := "heapPlays", recurses := true, loops := true, apart := false, narrowed := true }
def HeapPlaysUptoSaid : Prop := heapPlaysUptoRow.holds Try.pinned (OpenSpec.upto heapPlaysSpec)

/-- 'relictlaw13.CopyingNone', WHERE WHAT IT READS IS OF BULK AT MOST 1048576: true; the input reads as it did. -/
def copyingNoneUptoRow : OpenClaim := { program := "ytlifdpfhepamfaa", sum := "2ffba69f4d4e40d9ad073d8c5581308c31b34e137206e495e6a6d70516da82a9", func := "relict/relictlaw13.CopyingNone", spec := "copyingNone", unfollowed := true, recurses := true, apart := false, narrowed := true }
def CopyingNoneUptoSaid : Prop := copyingNoneUptoRow.holds Try.pinned (OpenSpec.upto copyingNoneSpec)

/-- 'relictlaw12.HeapNumbers', WHERE WHAT IT READS IS OF BULK AT MOST 1048576: true; the input reads as it did. -/
def heapNumbersUptoRow : OpenClaim := { program := "ytlifdpfhepamfaa", sum := "2ffba69f4d4e40d9ad073d8c5581308c31b34e137206e495e6a6d70516da82a9", func := "relict/relictlaw12.HeapNumbers", spec := "heapNumbers", unfollowed := true, recurses := true, apart := false, narrowed := true }
def HeapNumbersUptoSaid : Prop := heapNumbersUptoRow.holds Try.pinned (OpenSpec.upto heapNumbersSpec)

/-- 'relictlaw12.HeapBytes', WHERE WHAT IT READS IS OF BULK AT MOST 1048576: true; the input reads as it did. -/
def heapBytesUptoRow : OpenClaim := { program := "ytlifdpfhepamfaa", sum := "2ffba69f4d4e40d9ad073d8c5581308c31b34e137206e495e6a6d70516da82a9", func := "relict/relictlaw12.HeapBytes", spec := "heapBytes", unfollowed := true, recurses := true, apart := false, narrowed := true }
def HeapBytesUptoSaid : Prop := heapBytesUptoRow.holds Try.pinned (OpenSpec.upto heapBytesSpec)

/-- 'relictlaw12.HeapShares', WHERE WHAT IT READS IS OF BULK AT MOST 1048576: true; the input reads as it did. -/
def heapSharesUptoRow : OpenClaim := { program := "ytlifdpfhepamfaa", sum := "2ffba69f4d4e40d9ad073d8c5581308c31b34e137206e495e6a6d70516da82a9", func := "relict/relictlaw12.HeapShares", spec := "heapShares", unfollowed := true, recurses := true, apart := false, narrowed := true }
def HeapSharesUptoSaid : Prop := heapSharesUptoRow.holds Try.pinned (OpenSpec.upto heapSharesSpec)

/-- 'relictlaw12.HeapWords', WHERE WHAT IT READS IS OF BULK AT MOST 1048576: true; the input reads as it did. -/
def heapWordsUptoRow : OpenClaim := { program := "ytlifdpfhepamfaa", sum := "2ffba69f4d4e40d9ad073d8c5581308c31b34e137206e495e6a6d70516da82a9", func := "relict/relictlaw12.HeapWords", spec := "heapWords", unfollowed := true, recurses := true, apart := false, narrowed := true }
def HeapWordsUptoSaid : Prop := heapWordsUptoRow.holds Try.pinned (OpenSpec.upto heapWordsSpec)

/-- 'relictlaw13.CopyingShares', WHERE WHAT IT READS IS OF BULK AT MOST 1048576: true; the input reads as it did. -/
def copyingSharesUptoRow : OpenClaim := { program := "ytlifdpfhepamfaa", sum := "2ffba69f4d4e40d9ad073d8c5581308c31b34e137206e495e6a6d70516da82a9", func := "relict/relictlaw13.CopyingShares", spec := "copyingShares", unfollowed := true, recurses := true, apart := false, narrowed := true }
def CopyingSharesUptoSaid : Prop := copyingSharesUptoRow.holds Try.pinned (OpenSpec.upto copyingSharesSpec)

/-- 'relictlaw13.CopyingRound', WHERE WHAT IT READS IS OF BULK AT MOST 1048576: true; the input reads as it did. -/
def copyingRoundUptoRow : OpenClaim := { program := "ytlifdpfhepamfaa", sum := "2ffba69f4d4e40d9ad073d8c5581308c31b34e137206e495e6a6d70516da82a9", func := "relict/relictlaw13.CopyingRound", spec := "copyingRound", unfollowed := true, recurses := true, apart := false, narrowed := true }
def CopyingRoundUptoSaid : Prop := copyingRoundUptoRow.holds Try.pinned (OpenSpec.upto copyingRoundSpec)

/-- 'relictlaw13.CopyingKeeps', WHERE WHAT IT READS IS OF BULK AT MOST 1048576: true; the input reads as it did. -/
def copyingKeepsUptoRow : OpenClaim := { program := "ytlifdpfhepamfaa", sum := "2ffba69f4d4e40d9ad073d8c5581308c31b34e137206e495e6a6d70516da82a9", func := "relict/relictlaw13.CopyingKeeps", spec := "copyingKeeps", unfollowed := true, recurses := true, loops := true, apart := false, narrowed := true }
def CopyingKeepsUptoSaid : Prop := copyingKeepsUptoRow.holds Try.pinned (OpenSpec.upto copyingKeepsSpec)

end Rows
end Go.Proofs.Ytlifdpfhepamfaa
