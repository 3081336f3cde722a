/-
  NARROWER THAN 'FOR EVERY INPUT', by the rows' own cells (each row's printed sentence says how): MatchAll: loops · MatchNone: loops · RegsPuts: loops · RegsAll: loops.
  DERIVED. THE GIVEN ROWS OF THIS SEAT. 11 by the template 'for every input the law returns true; each argument reads behind the call as it read before'; 0 by the template 'total and deterministic' (their statements: YthdmacdeefohkaaTotals.lean).
  GIVEN WITH THE SEED: the statements are not yours to turn. If you find one false, say at which input.
  Laid BY PROGRAM, IN A SANDBOX (cutbox-rows.mjs): the forced cells as the released guide's own fill.sh prints them over the translation 2df7878ab415ec4f… (all of the seat's roots in one cut). By AI agents, Wed Nov 11 2026. No macro, syntax, notation, axiom, sorry.
-/
import Derived.Test.YthdmacdeefohkaaChecked
import GoSem.Claim
import GoSem.ClaimJoined
import GoSem.ClaimMapViews
import Derived.JoinedTies
import Derived.KernelRfl
namespace Go.Proofs.Ythdmacdeefohkaa
/- THE CELL 'sum', in the pinned program and in every row, IS THE sha256 OF THE DUMP (.gsa) THAT YthdmacdeefohkaaProg.lean LOADS. Nothing in Lean hashes anything: it is a label: what it is worth is what the hold of that sum in a sandbox is worth. -/
noncomputable def Try.pinned : Pinned := { name := "ythdmacdeefohkaa", sum := "2df7878ab415ec4fe817df267a591017ed644c53c9d6bb5fc2a936d2161c3f16", checked := Try.checked }
namespace Rows
def none {H : Type} : Left H := { results := [], args := [] }

/-- 'relictlaw24.StackFrames': WHATEVER THE INPUT: true; the input reads as it did. -/
def stackFramesSpec : ChangeSpec := { name := "stackFrames", fn := fun _ => fun
  | [d] => { results := [.lit (.bool true)], args := [d] }
  | _ => none }
def stackFramesRow : OpenClaim := { program := "ythdmacdeefohkaa", sum := "2df7878ab415ec4fe817df267a591017ed644c53c9d6bb5fc2a936d2161c3f16", func := "relict/relictlaw24.StackFrames", spec := "stackFrames", apart := false }
def StackFramesSaid : Prop := stackFramesRow.holds Try.pinned (OpenSpec.ofChange stackFramesSpec)

/-- ITS FALSE NEIGHBOUR: 'it returns false'. Refute it at one input. -/
def stackFramesWrong : ChangeSpec := { name := "stackFrames", fn := fun _ => fun
  | [d] => { results := [.lit (.bool false)], args := [d] }
  | _ => none }
def StackFramesWrongFalsely : Prop := stackFramesRow.holds Try.pinned (OpenSpec.ofChange stackFramesWrong)

/-- 'relictlaw24.StackRoots': WHATEVER THE INPUT: true; the input reads as it did. -/
def stackRootsSpec : ChangeSpec := { name := "stackRoots", fn := fun _ => fun
  | [d1, d2] => { results := [.lit (.bool true)], args := [d1, d2] }
  | _ => none }
def stackRootsRow : OpenClaim := { program := "ythdmacdeefohkaa", sum := "2df7878ab415ec4fe817df267a591017ed644c53c9d6bb5fc2a936d2161c3f16", func := "relict/relictlaw24.StackRoots", spec := "stackRoots", apart := false }
def StackRootsSaid : Prop := stackRootsRow.holds Try.pinned (OpenSpec.ofChange stackRootsSpec)

/-- ITS FALSE NEIGHBOUR: 'it returns false'. Refute it at one input. -/
def stackRootsWrong : ChangeSpec := { name := "stackRoots", fn := fun _ => fun
  | [d1, d2] => { results := [.lit (.bool false)], args := [d1, d2] }
  | _ => none }
def StackRootsWrongFalsely : Prop := stackRootsRow.holds Try.pinned (OpenSpec.ofChange stackRootsWrong)

/-- 'relictlaw20.MatchNumbers': WHATEVER THE INPUT: true; the input reads as it did. -/
def matchNumbersSpec : ChangeSpec := { name := "matchNumbers", fn := fun _ => fun
  | [d1, d2, d3] => { results := [.lit (.bool true)], args := [d1, d2, d3] }
  | _ => none }
def matchNumbersRow : OpenClaim := { program := "ythdmacdeefohkaa", sum := "2df7878ab415ec4fe817df267a591017ed644c53c9d6bb5fc2a936d2161c3f16", func := "relict/relictlaw20.MatchNumbers", spec := "matchNumbers", recurses := true, apart := false }
def MatchNumbersSaid : Prop := matchNumbersRow.holds Try.pinned (OpenSpec.ofChange matchNumbersSpec)

/-- ITS FALSE NEIGHBOUR: 'it returns false'. Refute it at one input. -/
def matchNumbersWrong : ChangeSpec := { name := "matchNumbers", fn := fun _ => fun
  | [d1, d2, d3] => { results := [.lit (.bool false)], args := [d1, d2, d3] }
  | _ => none }
def MatchNumbersWrongFalsely : Prop := matchNumbersRow.holds Try.pinned (OpenSpec.ofChange matchNumbersWrong)

/-- 'relictlaw24.StackUnwinds': WHATEVER THE INPUT: true; the input reads as it did. -/
def stackUnwindsSpec : ChangeSpec := { name := "stackUnwinds", fn := fun _ => fun
  | [d1, d2, d3, d4, d5] => { results := [.lit (.bool true)], args := [d1, d2, d3, d4, d5] }
  | _ => none }
def stackUnwindsRow : OpenClaim := { program := "ythdmacdeefohkaa", sum := "2df7878ab415ec4fe817df267a591017ed644c53c9d6bb5fc2a936d2161c3f16", func := "relict/relictlaw24.StackUnwinds", spec := "stackUnwinds", apart := false }
def StackUnwindsSaid : Prop := stackUnwindsRow.holds Try.pinned (OpenSpec.ofChange stackUnwindsSpec)

/-- ITS FALSE NEIGHBOUR: 'it returns false'. Refute it at one input. -/
def stackUnwindsWrong : ChangeSpec := { name := "stackUnwinds", fn := fun _ => fun
  | [d1, d2, d3, d4, d5] => { results := [.lit (.bool false)], args := [d1, d2, d3, d4, d5] }
  | _ => none }
def StackUnwindsWrongFalsely : Prop := stackUnwindsRow.holds Try.pinned (OpenSpec.ofChange stackUnwindsWrong)

/-- 'relictlaw20.MatchAll': WHATEVER THE INPUT: true; the input reads as it did. -/
def matchAllSpec : ChangeSpec := { name := "matchAll", fn := fun _ => fun
  | [d1, d2] => { results := [.lit (.bool true)], args := [d1, d2] }
  | _ => none }
def matchAllRow : OpenClaim := { program := "ythdmacdeefohkaa", sum := "2df7878ab415ec4fe817df267a591017ed644c53c9d6bb5fc2a936d2161c3f16", func := "relict/relictlaw20.MatchAll", spec := "matchAll", unfollowed := true, recurses := true, loops := true, apart := false }
def MatchAllSaid : Prop := matchAllRow.holds Try.pinned (OpenSpec.ofChange matchAllSpec)

/-- ITS FALSE NEIGHBOUR: 'it returns false'. Refute it at one input. -/
def matchAllWrong : ChangeSpec := { name := "matchAll", fn := fun _ => fun
  | [d1, d2] => { results := [.lit (.bool false)], args := [d1, d2] }
  | _ => none }
def MatchAllWrongFalsely : Prop := matchAllRow.holds Try.pinned (OpenSpec.ofChange matchAllWrong)

/-- 'relictlaw20.MatchParts': WHATEVER THE INPUT: true; the input reads as it did. -/
def matchPartsSpec : ChangeSpec := { name := "matchParts", fn := fun _ => fun
  | [d1, d2] => { results := [.lit (.bool true)], args := [d1, d2] }
  | _ => none }
def matchPartsRow : OpenClaim := { program := "ythdmacdeefohkaa", sum := "2df7878ab415ec4fe817df267a591017ed644c53c9d6bb5fc2a936d2161c3f16", func := "relict/relictlaw20.MatchParts", spec := "matchParts", apart := false }
def MatchPartsSaid : Prop := matchPartsRow.holds Try.pinned (OpenSpec.ofChange matchPartsSpec)

/-- ITS FALSE NEIGHBOUR: 'it returns false'. Refute it at one input. -/
def matchPartsWrong : ChangeSpec := { name := "matchParts", fn := fun _ => fun
  | [d1, d2] => { results := [.lit (.bool false)], args := [d1, d2] }
  | _ => none }
def MatchPartsWrongFalsely : Prop := matchPartsRow.holds Try.pinned (OpenSpec.ofChange matchPartsWrong)

/-- 'relictlaw20.MatchNone': WHATEVER THE INPUT: true; the input reads as it did. -/
def matchNoneSpec : ChangeSpec := { name := "matchNone", fn := fun _ => fun
  | [d1, d2] => { results := [.lit (.bool true)], args := [d1, d2] }
  | _ => none }
def matchNoneRow : OpenClaim := { program := "ythdmacdeefohkaa", sum := "2df7878ab415ec4fe817df267a591017ed644c53c9d6bb5fc2a936d2161c3f16", func := "relict/relictlaw20.MatchNone", spec := "matchNone", recurses := true, loops := true, apart := false }
def MatchNoneSaid : Prop := matchNoneRow.holds Try.pinned (OpenSpec.ofChange matchNoneSpec)

/-- ITS FALSE NEIGHBOUR: 'it returns false'. Refute it at one input. -/
def matchNoneWrong : ChangeSpec := { name := "matchNone", fn := fun _ => fun
  | [d1, d2] => { results := [.lit (.bool false)], args := [d1, d2] }
  | _ => none }
def MatchNoneWrongFalsely : Prop := matchNoneRow.holds Try.pinned (OpenSpec.ofChange matchNoneWrong)

/-- 'relictlaw21.RegsSources': WHATEVER THE INPUT: true; the input reads as it did. -/
def regsSourcesSpec : ChangeSpec := { name := "regsSources", fn := fun _ => fun
  | [d1, d2, d3] => { results := [.lit (.bool true)], args := [d1, d2, d3] }
  | _ => none }
def regsSourcesRow : OpenClaim := { program := "ythdmacdeefohkaa", sum := "2df7878ab415ec4fe817df267a591017ed644c53c9d6bb5fc2a936d2161c3f16", func := "relict/relictlaw21.RegsSources", spec := "regsSources", unfollowed := true, recurses := true, apart := false }
def RegsSourcesSaid : Prop := regsSourcesRow.holds Try.pinned (OpenSpec.ofChange regsSourcesSpec)

/-- ITS FALSE NEIGHBOUR: 'it returns false'. Refute it at one input. -/
def regsSourcesWrong : ChangeSpec := { name := "regsSources", fn := fun _ => fun
  | [d1, d2, d3] => { results := [.lit (.bool false)], args := [d1, d2, d3] }
  | _ => none }
def RegsSourcesWrongFalsely : Prop := regsSourcesRow.holds Try.pinned (OpenSpec.ofChange regsSourcesWrong)

/-- 'relictlaw24.StackPlays': WHATEVER THE INPUT: true; the input reads as it did. -/
def stackPlaysSpec : ChangeSpec := { name := "stackPlays", fn := fun _ => fun
  | [d] => { results := [.lit (.bool true)], args := [d] }
  | _ => none }
def stackPlaysRow : OpenClaim := { program := "ythdmacdeefohkaa", sum := "2df7878ab415ec4fe817df267a591017ed644c53c9d6bb5fc2a936d2161c3f16", func := "relict/relictlaw24.StackPlays", spec := "stackPlays", apart := false }
def StackPlaysSaid : Prop := stackPlaysRow.holds Try.pinned (OpenSpec.ofChange stackPlaysSpec)

/-- ITS FALSE NEIGHBOUR: 'it returns false'. Refute it at one input. -/
def stackPlaysWrong : ChangeSpec := { name := "stackPlays", fn := fun _ => fun
  | [d] => { results := [.lit (.bool false)], args := [d] }
  | _ => none }
def StackPlaysWrongFalsely : Prop := stackPlaysRow.holds Try.pinned (OpenSpec.ofChange stackPlaysWrong)

/-- 'relictlaw21.RegsPuts': WHATEVER THE INPUT: true; the input reads as it did. -/
def regsPutsSpec : ChangeSpec := { name := "regsPuts", fn := fun _ => fun
  | [d1, d2, d3] => { results := [.lit (.bool true)], args := [d1, d2, d3] }
  | _ => none }
def regsPutsRow : OpenClaim := { program := "ythdmacdeefohkaa", sum := "2df7878ab415ec4fe817df267a591017ed644c53c9d6bb5fc2a936d2161c3f16", func := "relict/relictlaw21.RegsPuts", spec := "regsPuts", unfollowed := true, recurses := true, loops := true, apart := false }
def RegsPutsSaid : Prop := regsPutsRow.holds Try.pinned (OpenSpec.ofChange regsPutsSpec)

/-- ITS FALSE NEIGHBOUR: 'it returns false'. Refute it at one input. -/
def regsPutsWrong : ChangeSpec := { name := "regsPuts", fn := fun _ => fun
  | [d1, d2, d3] => { results := [.lit (.bool false)], args := [d1, d2, d3] }
  | _ => none }
def RegsPutsWrongFalsely : Prop := regsPutsRow.holds Try.pinned (OpenSpec.ofChange regsPutsWrong)

/-- 'relictlaw21.RegsAll': WHATEVER THE INPUT: true; the input reads as it did. -/
def regsAllSpec : ChangeSpec := { name := "regsAll", fn := fun _ => fun
  | [d1, d2, d3, d4, d5, d6, d7] => { results := [.lit (.bool true)], args := [d1, d2, d3, d4, d5, d6, d7] }
  | _ => none }
def regsAllRow : OpenClaim := { program := "ythdmacdeefohkaa", sum := "2df7878ab415ec4fe817df267a591017ed644c53c9d6bb5fc2a936d2161c3f16", func := "relict/relictlaw21.RegsAll", spec := "regsAll", unfollowed := true, recurses := true, loops := true, apart := false }
def RegsAllSaid : Prop := regsAllRow.holds Try.pinned (OpenSpec.ofChange regsAllSpec)

/-- ITS FALSE NEIGHBOUR: 'it returns false'. Refute it at one input. -/
def regsAllWrong : ChangeSpec := { name := "regsAll", fn := fun _ => fun
  | [d1, d2, d3, d4, d5, d6, d7] => { results := [.lit (.bool false)], args := [d1, d2, d3, d4, d5, d6, d7] }
  | _ => none }
def RegsAllWrongFalsely : Prop := regsAllRow.holds Try.pinned (OpenSpec.ofChange regsAllWrong)

/- THE SECOND FORM. 'bulk': how many values and letters a reading holds, each counted each time it is reached (what is shared counts as often as it is met; a slice's spare places count too). A statement '..UptoSaid' is the law's where the arguments, and the package variables that the reading takes, are together of bulk at most 1048576: NARROWER than '..Said'. Prove '..Said' where nothing that the law and all that it calls make is longer than what came in: it says more and counts as full. Else prove '..UptoSaid'. A law counts once. -/
mutual
def uptoBulk {H : Type} : DataW H → Nat
  | .lit (.string bytes) => bytes.length + 1
  | .lit _ => 1
  | .nil => 1
  | .ptr d => uptoBulk d + 1
  | .slice elems spare => uptoBulkAll elems + uptoBulkAll spare + 1
  | .agg parts => uptoBulkAll parts + 1
  | .iface _ d => uptoBulk d + 1
  | .map entries => uptoBulkEntries entries + 1
  | .held _ => 1
def uptoBulkAll {H : Type} : List (DataW H) → Nat
  | [] => 0
  | d :: r => uptoBulk d + uptoBulkAll r
def uptoBulkEntries {H : Type} : List (Lit × DataW H) → Nat
  | [] => 0
  | x :: r => uptoBulkEntry x + uptoBulkEntries r
def uptoBulkEntry {H : Type} : Lit × DataW H → Nat
  | (.string bytes, d) => bytes.length + uptoBulk d + 1
  | (_, d) => uptoBulk d + 1
 end
def uptoSmall : (H : Type) → List (DataW H) → Bool := fun _ ds => decide (uptoBulkAll ds ≤ 1048576)
def OpenSpec.upto (s : _root_.Go.ChangeSpec) : _root_.Go.OpenSpec := { _root_.Go.OpenSpec.ofChange s with cond := some uptoSmall }

/-- 'relictlaw24.StackFrames', WHERE WHAT IT READS IS OF BULK AT MOST 1048576: true; the input reads as it did. -/
def stackFramesUptoRow : OpenClaim := { program := "ythdmacdeefohkaa", sum := "2df7878ab415ec4fe817df267a591017ed644c53c9d6bb5fc2a936d2161c3f16", func := "relict/relictlaw24.StackFrames", spec := "stackFrames", apart := false, narrowed := true }
def StackFramesUptoSaid : Prop := stackFramesUptoRow.holds Try.pinned (OpenSpec.upto stackFramesSpec)

/-- 'relictlaw24.StackRoots', WHERE WHAT IT READS IS OF BULK AT MOST 1048576: true; the input reads as it did. -/
def stackRootsUptoRow : OpenClaim := { program := "ythdmacdeefohkaa", sum := "2df7878ab415ec4fe817df267a591017ed644c53c9d6bb5fc2a936d2161c3f16", func := "relict/relictlaw24.StackRoots", spec := "stackRoots", apart := false, narrowed := true }
def StackRootsUptoSaid : Prop := stackRootsUptoRow.holds Try.pinned (OpenSpec.upto stackRootsSpec)

/-- 'relictlaw20.MatchNumbers', WHERE WHAT IT READS IS OF BULK AT MOST 1048576: true; the input reads as it did. -/
def matchNumbersUptoRow : OpenClaim := { program := "ythdmacdeefohkaa", sum := "2df7878ab415ec4fe817df267a591017ed644c53c9d6bb5fc2a936d2161c3f16", func := "relict/relictlaw20.MatchNumbers", spec := "matchNumbers", recurses := true, apart := false, narrowed := true }
def MatchNumbersUptoSaid : Prop := matchNumbersUptoRow.holds Try.pinned (OpenSpec.upto matchNumbersSpec)

/-- 'relictlaw24.StackUnwinds', WHERE WHAT IT READS IS OF BULK AT MOST 1048576: true; the input reads as it did. -/
def stackUnwindsUptoRow : OpenClaim := { program := "ythdmacdeefohkaa", sum := "2df7878ab415ec4fe817df267a591017ed644c53c9d6bb5fc2a936d2161c3f16", func := "relict/relictlaw24.StackUnwinds", spec := "stackUnwinds", apart := false, narrowed := true }
def StackUnwindsUptoSaid : Prop := stackUnwindsUptoRow.holds Try.pinned (OpenSpec.upto stackUnwindsSpec)

/-- 'relictlaw20.MatchAll', WHERE WHAT IT READS IS OF BULK AT MOST 1048576: true; the input reads as it did. -/
def matchAllUptoRow : OpenClaim := { program := "ythdmacdeefohkaa", sum := "2df7878ab415ec4fe817df267a591017ed644c53c9d6bb5fc2a936d2161c3f16", func := "relict/relictlaw20.MatchAll", spec := "matchAll", unfollowed := true, recurses := true, loops := true, apart := false, narrowed := true }
def MatchAllUptoSaid : Prop := matchAllUptoRow.holds Try.pinned (OpenSpec.upto matchAllSpec)

/-- 'relictlaw20.MatchParts', WHERE WHAT IT READS IS OF BULK AT MOST 1048576: true; the input reads as it did. -/
def matchPartsUptoRow : OpenClaim := { program := "ythdmacdeefohkaa", sum := "2df7878ab415ec4fe817df267a591017ed644c53c9d6bb5fc2a936d2161c3f16", func := "relict/relictlaw20.MatchParts", spec := "matchParts", apart := false, narrowed := true }
def MatchPartsUptoSaid : Prop := matchPartsUptoRow.holds Try.pinned (OpenSpec.upto matchPartsSpec)

/-- 'relictlaw20.MatchNone', WHERE WHAT IT READS IS OF BULK AT MOST 1048576: true; the input reads as it did. -/
def matchNoneUptoRow : OpenClaim := { program := "ythdmacdeefohkaa", sum := "2df7878ab415ec4fe817df267a591017ed644c53c9d6bb5fc2a936d2161c3f16", func := "relict/relictlaw20.MatchNone", spec := "matchNone", recurses := true, loops := true, apart := false, narrowed := true }
def MatchNoneUptoSaid : Prop := matchNoneUptoRow.holds Try.pinned (OpenSpec.upto matchNoneSpec)

/-- 'relictlaw21.RegsSources', WHERE WHAT IT READS IS OF BULK AT MOST 1048576: true; the input reads as it did. -/
def regsSourcesUptoRow : OpenClaim := { program := "ythdmacdeefohkaa", sum := "2df7878ab415ec4fe817df267a591017ed644c53c9d6bb5fc2a936d2161c3f16", func := "relict/relictlaw21.RegsSources", spec := "regsSources", unfollowed := true, recurses := true, apart := false, narrowed := true }
def RegsSourcesUptoSaid : Prop := regsSourcesUptoRow.holds Try.pinned (OpenSpec.upto regsSourcesSpec)

/-- 'relictlaw24.StackPlays', WHERE WHAT IT READS IS OF BULK AT MOST 1048576: true; the input reads as it did. -/
def stackPlaysUptoRow : OpenClaim := { program := "ythdmacdeefohkaa", sum := "2df7878ab415ec4fe817df267a591017ed644c53c9d6bb5fc2a936d2161c3f16", func := "relict/relictlaw24.StackPlays", spec := "stackPlays", apart := false, narrowed := true }
def StackPlaysUptoSaid : Prop := stackPlaysUptoRow.holds Try.pinned (OpenSpec.upto stackPlaysSpec)

/-- 'relictlaw21.RegsPuts', WHERE WHAT IT READS IS OF BULK AT MOST 1048576: true; the input reads as it did. -/
def regsPutsUptoRow : OpenClaim := { program := "ythdmacdeefohkaa", sum := "2df7878ab415ec4fe817df267a591017ed644c53c9d6bb5fc2a936d2161c3f16", func := "relict/relictlaw21.RegsPuts", spec := "regsPuts", unfollowed := true, recurses := true, loops := true, apart := false, narrowed := true }
def RegsPutsUptoSaid : Prop := regsPutsUptoRow.holds Try.pinned (OpenSpec.upto regsPutsSpec)

/-- 'relictlaw21.RegsAll', WHERE WHAT IT READS IS OF BULK AT MOST 1048576: true; the input reads as it did. -/
def regsAllUptoRow : OpenClaim := { program := "ythdmacdeefohkaa", sum := "2df7878ab415ec4fe817df267a591017ed644c53c9d6bb5fc2a936d2161c3f16", func := "relict/relictlaw21.RegsAll", spec := "regsAll", unfollowed := true, recurses := true, loops := true, apart := false, narrowed := true }
def RegsAllUptoSaid : Prop := regsAllUptoRow.holds Try.pinned (OpenSpec.upto regsAllSpec)

end Rows
end Go.Proofs.Ythdmacdeefohkaa
