/-
  No cell of these rows narrows 'for every input' (looked for: loops, veiled, ifaces, maps, wideKeys, modest, calm, conditions, laid).
  DERIVED. THE GIVEN ROWS OF THIS SEAT. 7 by the template 'for every input the law returns true; each argument reads behind the call as it read before'; 0 by the template 'total and deterministic' (their statements: YtbephainjmgpjaaTotals.lean).
  GIVEN WITH THE SEED: the statements are not yours to turn. If you find one false, say at which input.
  Laid BY PROGRAM, IN A SANDBOX (cutbox-rows.mjs): the forced cells as the released guide's own fill.sh prints them over the translation 58fc3017a6d18db8… (all of the seat's roots in one cut). By AI agents, Wed Nov 11 2026. No macro, syntax, notation, axiom, sorry.
-/
import Derived.Test.YtbephainjmgpjaaChecked
import GoSem.Claim
import GoSem.ClaimJoined
import GoSem.ClaimMapViews
import Derived.JoinedTies
import Derived.KernelRfl
namespace Go.Proofs.Ytbephainjmgpjaa
/- THE CELL 'sum', in the pinned program and in every row, IS THE sha256 OF THE DUMP (.gsa) THAT YtbephainjmgpjaaProg.lean LOADS. Nothing in Lean hashes anything: it is a label: what it is worth is what the hold of that sum in a sandbox is worth. -/
noncomputable def Try.pinned : Pinned := { name := "ytbephainjmgpjaa", sum := "58fc3017a6d18db8018d63031f10e9c389cfab3660c50f20421e8c1048784fb0", checked := Try.checked }
namespace Rows
def none {H : Type} : Left H := { results := [], args := [] }

/-- 'relictlaw10.WordApart': WHATEVER THE INPUT: true; the input reads as it did. -/
def wordApartSpec : ChangeSpec := { name := "wordApart", fn := fun _ => fun
  | [d1, d2, d3, d4] => { results := [.lit (.bool true)], args := [d1, d2, d3, d4] }
  | _ => none }
def wordApartRow : OpenClaim := { program := "ytbephainjmgpjaa", sum := "58fc3017a6d18db8018d63031f10e9c389cfab3660c50f20421e8c1048784fb0", func := "relict/relictlaw10.WordApart", spec := "wordApart", apart := false }
def WordApartSaid : Prop := wordApartRow.holds Try.pinned (OpenSpec.ofChange wordApartSpec)

/-- ITS FALSE NEIGHBOUR: 'it returns false'. Refute it at one input. -/
def wordApartWrong : ChangeSpec := { name := "wordApart", fn := fun _ => fun
  | [d1, d2, d3, d4] => { results := [.lit (.bool false)], args := [d1, d2, d3, d4] }
  | _ => none }
def WordApartWrongFalsely : Prop := wordApartRow.holds Try.pinned (OpenSpec.ofChange wordApartWrong)

/-- 'relictlaw10.WordOrders': WHATEVER THE INPUT: true; the input reads as it did. -/
def wordOrdersSpec : ChangeSpec := { name := "wordOrders", fn := fun _ => fun
  | [d1, d2, d3, d4] => { results := [.lit (.bool true)], args := [d1, d2, d3, d4] }
  | _ => none }
def wordOrdersRow : OpenClaim := { program := "ytbephainjmgpjaa", sum := "58fc3017a6d18db8018d63031f10e9c389cfab3660c50f20421e8c1048784fb0", func := "relict/relictlaw10.WordOrders", spec := "wordOrders", apart := false }
def WordOrdersSaid : Prop := wordOrdersRow.holds Try.pinned (OpenSpec.ofChange wordOrdersSpec)

/-- ITS FALSE NEIGHBOUR: 'it returns false'. Refute it at one input. -/
def wordOrdersWrong : ChangeSpec := { name := "wordOrders", fn := fun _ => fun
  | [d1, d2, d3, d4] => { results := [.lit (.bool false)], args := [d1, d2, d3, d4] }
  | _ => none }
def WordOrdersWrongFalsely : Prop := wordOrdersRow.holds Try.pinned (OpenSpec.ofChange wordOrdersWrong)

/-- 'relictlaw11.ArenaRooms': WHATEVER THE INPUT: true; the input reads as it did. -/
def arenaRoomsSpec : ChangeSpec := { name := "arenaRooms", fn := fun _ => fun
  | [d1, d2] => { results := [.lit (.bool true)], args := [d1, d2] }
  | _ => none }
def arenaRoomsRow : OpenClaim := { program := "ytbephainjmgpjaa", sum := "58fc3017a6d18db8018d63031f10e9c389cfab3660c50f20421e8c1048784fb0", func := "relict/relictlaw11.ArenaRooms", spec := "arenaRooms", apart := false }
def ArenaRoomsSaid : Prop := arenaRoomsRow.holds Try.pinned (OpenSpec.ofChange arenaRoomsSpec)

/-- ITS FALSE NEIGHBOUR: 'it returns false'. Refute it at one input. -/
def arenaRoomsWrong : ChangeSpec := { name := "arenaRooms", fn := fun _ => fun
  | [d1, d2] => { results := [.lit (.bool false)], args := [d1, d2] }
  | _ => none }
def ArenaRoomsWrongFalsely : Prop := arenaRoomsRow.holds Try.pinned (OpenSpec.ofChange arenaRoomsWrong)

/-- 'relictlaw10.WordAll': WHATEVER THE INPUT: true; the input reads as it did. -/
def wordAllSpec : ChangeSpec := { name := "wordAll", fn := fun _ => fun
  | [d1, d2, d3, d4] => { results := [.lit (.bool true)], args := [d1, d2, d3, d4] }
  | _ => none }
def wordAllRow : OpenClaim := { program := "ytbephainjmgpjaa", sum := "58fc3017a6d18db8018d63031f10e9c389cfab3660c50f20421e8c1048784fb0", func := "relict/relictlaw10.WordAll", spec := "wordAll", apart := false }
def WordAllSaid : Prop := wordAllRow.holds Try.pinned (OpenSpec.ofChange wordAllSpec)

/-- ITS FALSE NEIGHBOUR: 'it returns false'. Refute it at one input. -/
def wordAllWrong : ChangeSpec := { name := "wordAll", fn := fun _ => fun
  | [d1, d2, d3, d4] => { results := [.lit (.bool false)], args := [d1, d2, d3, d4] }
  | _ => none }
def WordAllWrongFalsely : Prop := wordAllRow.holds Try.pinned (OpenSpec.ofChange wordAllWrong)

/-- 'relictlaw10.WordBack': WHATEVER THE INPUT: true; the input reads as it did. -/
def wordBackSpec : ChangeSpec := { name := "wordBack", fn := fun _ => fun
  | [d1, d2, d3] => { results := [.lit (.bool true)], args := [d1, d2, d3] }
  | _ => none }
def wordBackRow : OpenClaim := { program := "ytbephainjmgpjaa", sum := "58fc3017a6d18db8018d63031f10e9c389cfab3660c50f20421e8c1048784fb0", func := "relict/relictlaw10.WordBack", spec := "wordBack", apart := false }
def WordBackSaid : Prop := wordBackRow.holds Try.pinned (OpenSpec.ofChange wordBackSpec)

/-- ITS FALSE NEIGHBOUR: 'it returns false'. Refute it at one input. -/
def wordBackWrong : ChangeSpec := { name := "wordBack", fn := fun _ => fun
  | [d1, d2, d3] => { results := [.lit (.bool false)], args := [d1, d2, d3] }
  | _ => none }
def WordBackWrongFalsely : Prop := wordBackRow.holds Try.pinned (OpenSpec.ofChange wordBackWrong)

/-- 'relictlaw11.ArenaObjects': WHATEVER THE INPUT: true; the input reads as it did. -/
def arenaObjectsSpec : ChangeSpec := { name := "arenaObjects", fn := fun _ => fun
  | [d1, d2] => { results := [.lit (.bool true)], args := [d1, d2] }
  | _ => none }
def arenaObjectsRow : OpenClaim := { program := "ytbephainjmgpjaa", sum := "58fc3017a6d18db8018d63031f10e9c389cfab3660c50f20421e8c1048784fb0", func := "relict/relictlaw11.ArenaObjects", spec := "arenaObjects", apart := false }
def ArenaObjectsSaid : Prop := arenaObjectsRow.holds Try.pinned (OpenSpec.ofChange arenaObjectsSpec)

/-- ITS FALSE NEIGHBOUR: 'it returns false'. Refute it at one input. -/
def arenaObjectsWrong : ChangeSpec := { name := "arenaObjects", fn := fun _ => fun
  | [d1, d2] => { results := [.lit (.bool false)], args := [d1, d2] }
  | _ => none }
def ArenaObjectsWrongFalsely : Prop := arenaObjectsRow.holds Try.pinned (OpenSpec.ofChange arenaObjectsWrong)

/-- 'relictlaw11.ArenaPlays': WHATEVER THE INPUT: true; the input reads as it did. -/
def arenaPlaysSpec : ChangeSpec := { name := "arenaPlays", fn := fun _ => fun
  | [d1, d2] => { results := [.lit (.bool true)], args := [d1, d2] }
  | _ => none }
def arenaPlaysRow : OpenClaim := { program := "ytbephainjmgpjaa", sum := "58fc3017a6d18db8018d63031f10e9c389cfab3660c50f20421e8c1048784fb0", func := "relict/relictlaw11.ArenaPlays", spec := "arenaPlays", apart := false }
def ArenaPlaysSaid : Prop := arenaPlaysRow.holds Try.pinned (OpenSpec.ofChange arenaPlaysSpec)

/-- ITS FALSE NEIGHBOUR: 'it returns false'. Refute it at one input. -/
def arenaPlaysWrong : ChangeSpec := { name := "arenaPlays", fn := fun _ => fun
  | [d1, d2] => { results := [.lit (.bool false)], args := [d1, d2] }
  | _ => none }
def ArenaPlaysWrongFalsely : Prop := arenaPlaysRow.holds Try.pinned (OpenSpec.ofChange arenaPlaysWrong)

/- THE SECOND FORM. 'bulk': how many values and letters a reading holds, each counted each time it is reached (what is shared counts as often as it is met; a slice's spare places count too). A statement '..UptoSaid' is the law's where the arguments, and the package variables that the reading takes, are together of bulk at most 1048576: NARROWER than '..Said'. Prove '..Said' where nothing that the law and all that it calls make is longer than what came in: it says more and counts as full. Else prove '..UptoSaid'. A law counts once. -/
mutual
def uptoBulk {H : Type} : DataW H → Nat
  | .lit (.string bytes) => bytes.length + 1
  | .lit _ => 1
  | .nil => 1
  | .ptr d => uptoBulk d + 1
  | .slice elems spare => uptoBulkAll elems + uptoBulkAll spare + 1
  | .agg parts => uptoBulkAll parts + 1
  | .iface _ d => uptoBulk d + 1
  | .map entries => uptoBulkEntries entries + 1
  | .held _ => 1
def uptoBulkAll {H : Type} : List (DataW H) → Nat
  | [] => 0
  | d :: r => uptoBulk d + uptoBulkAll r
def uptoBulkEntries {H : Type} : List (Lit × DataW H) → Nat
  | [] => 0
  | x :: r => uptoBulkEntry x + uptoBulkEntries r
def uptoBulkEntry {H : Type} : Lit × DataW H → Nat
  | (.string bytes, d) => bytes.length + uptoBulk d + 1
  | (_, d) => uptoBulk d + 1
 end
def uptoSmall : (H : Type) → List (DataW H) → Bool := fun _ ds => decide (uptoBulkAll ds ≤ 1048576)
def OpenSpec.upto (s : _root_.Go.ChangeSpec) : _root_.Go.OpenSpec := { _root_.Go.OpenSpec.ofChange s with cond := some uptoSmall }

/-- 'relictlaw10.WordApart', WHERE WHAT IT READS IS OF BULK AT MOST 1048576: true; the input reads as it did. -/
def wordApartUptoRow : OpenClaim := { program := "ytbephainjmgpjaa", sum := "58fc3017a6d18db8018d63031f10e9c389cfab3660c50f20421e8c1048784fb0", func := "relict/relictlaw10.WordApart", spec := "wordApart", apart := false, narrowed := true }
def WordApartUptoSaid : Prop := wordApartUptoRow.holds Try.pinned (OpenSpec.upto wordApartSpec)

/-- 'relictlaw10.WordOrders', WHERE WHAT IT READS IS OF BULK AT MOST 1048576: true; the input reads as it did. -/
def wordOrdersUptoRow : OpenClaim := { program := "ytbephainjmgpjaa", sum := "58fc3017a6d18db8018d63031f10e9c389cfab3660c50f20421e8c1048784fb0", func := "relict/relictlaw10.WordOrders", spec := "wordOrders", apart := false, narrowed := true }
def WordOrdersUptoSaid : Prop := wordOrdersUptoRow.holds Try.pinned (OpenSpec.upto wordOrdersSpec)

/-- 'relictlaw11.ArenaRooms', WHERE WHAT IT READS IS OF BULK AT MOST 1048576: true; the input reads as it did. -/
def arenaRoomsUptoRow : OpenClaim := { program := "ytbephainjmgpjaa", sum := "58fc3017a6d18db8018d63031f10e9c389cfab3660c50f20421e8c1048784fb0", func := "relict/relictlaw11.ArenaRooms", spec := "arenaRooms", apart := false, narrowed := true }
def ArenaRoomsUptoSaid : Prop := arenaRoomsUptoRow.holds Try.pinned (OpenSpec.upto arenaRoomsSpec)

/-- 'relictlaw10.WordAll', WHERE WHAT IT READS IS OF BULK AT MOST 1048576: true; the input reads as it did. -/
def wordAllUptoRow : OpenClaim := { program := "ytbephainjmgpjaa", sum := "58fc3017a6d18db8018d63031f10e9c389cfab3660c50f20421e8c1048784fb0", func := "relict/relictlaw10.WordAll", spec := "wordAll", apart := false, narrowed := true }
def WordAllUptoSaid : Prop := wordAllUptoRow.holds Try.pinned (OpenSpec.upto wordAllSpec)

/-- 'relictlaw10.WordBack', WHERE WHAT IT READS IS OF BULK AT MOST 1048576: true; the input reads as it did. -/
def wordBackUptoRow : OpenClaim := { program := "ytbephainjmgpjaa", sum := "58fc3017a6d18db8018d63031f10e9c389cfab3660c50f20421e8c1048784fb0", func := "relict/relictlaw10.WordBack", spec := "wordBack", apart := false, narrowed := true }
def WordBackUptoSaid : Prop := wordBackUptoRow.holds Try.pinned (OpenSpec.upto wordBackSpec)

/-- 'relictlaw11.ArenaObjects', WHERE WHAT IT READS IS OF BULK AT MOST 1048576: true; the input reads as it did. -/
def arenaObjectsUptoRow : OpenClaim := { program := "ytbephainjmgpjaa", sum := "58fc3017a6d18db8018d63031f10e9c389cfab3660c50f20421e8c1048784fb0", func := "relict/relictlaw11.ArenaObjects", spec := "arenaObjects", apart := false, narrowed := true }
def ArenaObjectsUptoSaid : Prop := arenaObjectsUptoRow.holds Try.pinned (OpenSpec.upto arenaObjectsSpec)

/-- 'relictlaw11.ArenaPlays', WHERE WHAT IT READS IS OF BULK AT MOST 1048576: true; the input reads as it did. -/
def arenaPlaysUptoRow : OpenClaim := { program := "ytbephainjmgpjaa", sum := "58fc3017a6d18db8018d63031f10e9c389cfab3660c50f20421e8c1048784fb0", func := "relict/relictlaw11.ArenaPlays", spec := "arenaPlays", apart := false, narrowed := true }
def ArenaPlaysUptoSaid : Prop := arenaPlaysUptoRow.holds Try.pinned (OpenSpec.upto arenaPlaysSpec)

end Rows
end Go.Proofs.Ytbephainjmgpjaa
