/-
  No cell of these rows narrows 'for every input' (looked for: loops, veiled, ifaces, maps, wideKeys, modest, calm, conditions, laid).
  DERIVED. THE GIVEN ROWS OF THIS SEAT. 6 by the template 'for every input the law returns true; each argument reads behind the call as it read before'; 0 by the template 'total and deterministic' (their statements: YtmamjhmoegjapaaGreatTotals.lean).
  GIVEN WITH THE SEED: the statements are not yours to turn. If you find one false, say at which input.
  Laid BY PROGRAM, IN A SANDBOX (cutbox-rows.mjs): the forced cells as the released guide's own fill.sh prints them over the translation 3ed30d02b5626a11… (all of the seat's roots in one cut). By AI agents, Wed Nov 11 2026. No macro, syntax, notation, axiom, sorry.
-/
import Derived.Test.YtmamjhmoegjapaaGreatChecked
import GoSem.Claim
import GoSem.ClaimJoined
import GoSem.ClaimMapViews
import Derived.JoinedTies
import Derived.KernelRfl
namespace Go.Proofs.YtmamjhmoegjapaaGreat
/- THE CELL 'sum', in the pinned program and in every row, IS THE sha256 OF THE DUMP (.gsa) THAT YtmamjhmoegjapaaGreatProg.lean LOADS. Nothing in Lean hashes anything: it is a label: what it is worth is what the hold of that sum in a sandbox is worth. -/
noncomputable def Tryz.pinned : Pinned := { name := "ytmamjhmoegjapaagreat", sum := "3ed30d02b5626a1115251fc812bedc88a920d86fe14000ff812d2106375396d6", checked := Tryz.checked }
namespace Rows
def none {H : Type} : Left H := { results := [], args := [] }

/-- 'signalbrokerlaw28.BrokerDrops': WHATEVER THE INPUT: true; the input reads as it did. -/
def brokerDropsSpec : ChangeSpec := { name := "brokerDrops", fn := fun _ => fun
  | [d1, d2] => { results := [.lit (.bool true)], args := [d1, d2] }
  | _ => none }
def brokerDropsRow : OpenClaim := { program := "ytmamjhmoegjapaagreat", sum := "3ed30d02b5626a1115251fc812bedc88a920d86fe14000ff812d2106375396d6", func := "signalbroker/signalbrokerlaw28.BrokerDrops", spec := "brokerDrops", inPlace := ["slices.overlaps[signalbroker/api.Request]"], unfollowed := true, recurses := true, apart := false }
def BrokerDropsSaid : Prop := brokerDropsRow.holds Tryz.pinned (OpenSpec.ofChange brokerDropsSpec)

/-- ITS FALSE NEIGHBOUR: 'it returns false'. Refute it at one input. -/
def brokerDropsWrong : ChangeSpec := { name := "brokerDrops", fn := fun _ => fun
  | [d1, d2] => { results := [.lit (.bool false)], args := [d1, d2] }
  | _ => none }
def BrokerDropsWrongFalsely : Prop := brokerDropsRow.holds Tryz.pinned (OpenSpec.ofChange brokerDropsWrong)

/-- 'signalbrokerlaw28.BrokerEncodes': WHATEVER THE INPUT: true; the input reads as it did. -/
def brokerEncodesSpec : ChangeSpec := { name := "brokerEncodes", fn := fun _ => fun
  | [d] => { results := [.lit (.bool true)], args := [d] }
  | _ => none }
def brokerEncodesRow : OpenClaim := { program := "ytmamjhmoegjapaagreat", sum := "3ed30d02b5626a1115251fc812bedc88a920d86fe14000ff812d2106375396d6", func := "signalbroker/signalbrokerlaw28.BrokerEncodes", spec := "brokerEncodes", inPlace := ["slices.overlaps[signalbroker/api.Request]"], unfollowed := true, recurses := true, apart := false }
def BrokerEncodesSaid : Prop := brokerEncodesRow.holds Tryz.pinned (OpenSpec.ofChange brokerEncodesSpec)

/-- ITS FALSE NEIGHBOUR: 'it returns false'. Refute it at one input. -/
def brokerEncodesWrong : ChangeSpec := { name := "brokerEncodes", fn := fun _ => fun
  | [d] => { results := [.lit (.bool false)], args := [d] }
  | _ => none }
def BrokerEncodesWrongFalsely : Prop := brokerEncodesRow.holds Tryz.pinned (OpenSpec.ofChange brokerEncodesWrong)

/-- 'signalbrokerlaw28.BrokerPieces': WHATEVER THE INPUT: true; the input reads as it did. -/
def brokerPiecesSpec : ChangeSpec := { name := "brokerPieces", fn := fun _ => fun
  | [d1, d2] => { results := [.lit (.bool true)], args := [d1, d2] }
  | _ => none }
def brokerPiecesRow : OpenClaim := { program := "ytmamjhmoegjapaagreat", sum := "3ed30d02b5626a1115251fc812bedc88a920d86fe14000ff812d2106375396d6", func := "signalbroker/signalbrokerlaw28.BrokerPieces", spec := "brokerPieces", inPlace := ["slices.overlaps[signalbroker/api.Request]"], unfollowed := true, recurses := true, apart := false }
def BrokerPiecesSaid : Prop := brokerPiecesRow.holds Tryz.pinned (OpenSpec.ofChange brokerPiecesSpec)

/-- ITS FALSE NEIGHBOUR: 'it returns false'. Refute it at one input. -/
def brokerPiecesWrong : ChangeSpec := { name := "brokerPieces", fn := fun _ => fun
  | [d1, d2] => { results := [.lit (.bool false)], args := [d1, d2] }
  | _ => none }
def BrokerPiecesWrongFalsely : Prop := brokerPiecesRow.holds Tryz.pinned (OpenSpec.ofChange brokerPiecesWrong)

/-- 'signalbrokerlaw29.ViewTwice': WHATEVER THE INPUT: true; the input reads as it did. -/
def viewTwiceSpec : ChangeSpec := { name := "viewTwice", fn := fun _ => fun
  | [d1, d2, d3] => { results := [.lit (.bool true)], args := [d1, d2, d3] }
  | _ => none }
def viewTwiceRow : OpenClaim := { program := "ytmamjhmoegjapaagreat", sum := "3ed30d02b5626a1115251fc812bedc88a920d86fe14000ff812d2106375396d6", func := "signalbroker/signalbrokerlaw29.ViewTwice", spec := "viewTwice", inPlace := ["slices.overlaps[signalbroker/api.Request]"], unfollowed := true, recurses := true, apart := false }
def ViewTwiceSaid : Prop := viewTwiceRow.holds Tryz.pinned (OpenSpec.ofChange viewTwiceSpec)

/-- ITS FALSE NEIGHBOUR: 'it returns false'. Refute it at one input. -/
def viewTwiceWrong : ChangeSpec := { name := "viewTwice", fn := fun _ => fun
  | [d1, d2, d3] => { results := [.lit (.bool false)], args := [d1, d2, d3] }
  | _ => none }
def ViewTwiceWrongFalsely : Prop := viewTwiceRow.holds Tryz.pinned (OpenSpec.ofChange viewTwiceWrong)

/-- 'signalbrokertop.TopFeed': WHATEVER THE INPUT: true; the input reads as it did. -/
def topFeedSpec : ChangeSpec := { name := "topFeed", fn := fun _ => fun
  | [d] => { results := [.lit (.bool true)], args := [d] }
  | _ => none }
def topFeedRow : OpenClaim := { program := "ytmamjhmoegjapaagreat", sum := "3ed30d02b5626a1115251fc812bedc88a920d86fe14000ff812d2106375396d6", func := "signalbroker/signalbrokertop.TopFeed", spec := "topFeed", inPlace := ["slices.overlaps[signalbroker/api.Request]"], unfollowed := true, recurses := true, apart := false }
def TopFeedSaid : Prop := topFeedRow.holds Tryz.pinned (OpenSpec.ofChange topFeedSpec)

/-- ITS FALSE NEIGHBOUR: 'it returns false'. Refute it at one input. -/
def topFeedWrong : ChangeSpec := { name := "topFeed", fn := fun _ => fun
  | [d] => { results := [.lit (.bool false)], args := [d] }
  | _ => none }
def TopFeedWrongFalsely : Prop := topFeedRow.holds Tryz.pinned (OpenSpec.ofChange topFeedWrong)

/-- 'signalbrokertop.TopInterlock': WHATEVER THE INPUT: true; the input reads as it did. -/
def topInterlockSpec : ChangeSpec := { name := "topInterlock", fn := fun _ => fun
  | [d] => { results := [.lit (.bool true)], args := [d] }
  | _ => none }
def topInterlockRow : OpenClaim := { program := "ytmamjhmoegjapaagreat", sum := "3ed30d02b5626a1115251fc812bedc88a920d86fe14000ff812d2106375396d6", func := "signalbroker/signalbrokertop.TopInterlock", spec := "topInterlock", inPlace := ["slices.overlaps[signalbroker/api.Request]"], unfollowed := true, recurses := true, apart := false }
def TopInterlockSaid : Prop := topInterlockRow.holds Tryz.pinned (OpenSpec.ofChange topInterlockSpec)

/-- ITS FALSE NEIGHBOUR: 'it returns false'. Refute it at one input. -/
def topInterlockWrong : ChangeSpec := { name := "topInterlock", fn := fun _ => fun
  | [d] => { results := [.lit (.bool false)], args := [d] }
  | _ => none }
def TopInterlockWrongFalsely : Prop := topInterlockRow.holds Tryz.pinned (OpenSpec.ofChange topInterlockWrong)

/- THE SECOND FORM. 'bulk': how many values and letters a reading holds, each counted each time it is reached (what is shared counts as often as it is met; a slice's spare places count too). A statement '..UptoSaid' is the law's where the arguments, and the package variables that the reading takes, are together of bulk at most 1048576: NARROWER than '..Said'. Prove '..Said' where nothing that the law and all that it calls make is longer than what came in: it says more and counts as full. Else prove '..UptoSaid'. A law counts once. -/
mutual
def uptoBulk {H : Type} : DataW H → Nat
  | .lit (.string bytes) => bytes.length + 1
  | .lit _ => 1
  | .nil => 1
  | .ptr d => uptoBulk d + 1
  | .slice elems spare => uptoBulkAll elems + uptoBulkAll spare + 1
  | .agg parts => uptoBulkAll parts + 1
  | .iface _ d => uptoBulk d + 1
  | .map entries => uptoBulkEntries entries + 1
  | .held _ => 1
def uptoBulkAll {H : Type} : List (DataW H) → Nat
  | [] => 0
  | d :: r => uptoBulk d + uptoBulkAll r
def uptoBulkEntries {H : Type} : List (Lit × DataW H) → Nat
  | [] => 0
  | x :: r => uptoBulkEntry x + uptoBulkEntries r
def uptoBulkEntry {H : Type} : Lit × DataW H → Nat
  | (.string bytes, d) => bytes.length + uptoBulk d + 1
  | (_, d) => uptoBulk d + 1
 end
def uptoSmall : (H : Type) → List (DataW H) → Bool := fun _ ds => decide (uptoBulkAll ds ≤ 1048576)
def OpenSpec.upto (s : _root_.Go.ChangeSpec) : _root_.Go.OpenSpec := { _root_.Go.OpenSpec.ofChange s with cond := some uptoSmall }

/-- 'signalbrokerlaw28.BrokerDrops', WHERE WHAT IT READS IS OF BULK AT MOST 1048576: true; the input reads as it did. -/
def brokerDropsUptoRow : OpenClaim := { program := "ytmamjhmoegjapaagreat", sum := "3ed30d02b5626a1115251fc812bedc88a920d86fe14000ff812d2106375396d6", func := "signalbroker/signalbrokerlaw28.BrokerDrops", spec := "brokerDrops", inPlace := ["slices.overlaps[signalbroker/api.Request]"], unfollowed := true, recurses := true, apart := false, narrowed := true }
def BrokerDropsUptoSaid : Prop := brokerDropsUptoRow.holds Tryz.pinned (OpenSpec.upto brokerDropsSpec)

/-- 'signalbrokerlaw28.BrokerEncodes', WHERE WHAT IT READS IS OF BULK AT MOST 1048576: true; the input reads as it did. -/
def brokerEncodesUptoRow : OpenClaim := { program := "ytmamjhmoegjapaagreat", sum := "3ed30d02b5626a1115251fc812bedc88a920d86fe14000ff812d2106375396d6", func := "signalbroker/signalbrokerlaw28.BrokerEncodes", spec := "brokerEncodes", inPlace := ["slices.overlaps[signalbroker/api.Request]"], unfollowed := true, recurses := true, apart := false, narrowed := true }
def BrokerEncodesUptoSaid : Prop := brokerEncodesUptoRow.holds Tryz.pinned (OpenSpec.upto brokerEncodesSpec)

/-- 'signalbrokerlaw28.BrokerPieces', WHERE WHAT IT READS IS OF BULK AT MOST 1048576: true; the input reads as it did. -/
def brokerPiecesUptoRow : OpenClaim := { program := "ytmamjhmoegjapaagreat", sum := "3ed30d02b5626a1115251fc812bedc88a920d86fe14000ff812d2106375396d6", func := "signalbroker/signalbrokerlaw28.BrokerPieces", spec := "brokerPieces", inPlace := ["slices.overlaps[signalbroker/api.Request]"], unfollowed := true, recurses := true, apart := false, narrowed := true }
def BrokerPiecesUptoSaid : Prop := brokerPiecesUptoRow.holds Tryz.pinned (OpenSpec.upto brokerPiecesSpec)

/-- 'signalbrokerlaw29.ViewTwice', WHERE WHAT IT READS IS OF BULK AT MOST 1048576: true; the input reads as it did. -/
def viewTwiceUptoRow : OpenClaim := { program := "ytmamjhmoegjapaagreat", sum := "3ed30d02b5626a1115251fc812bedc88a920d86fe14000ff812d2106375396d6", func := "signalbroker/signalbrokerlaw29.ViewTwice", spec := "viewTwice", inPlace := ["slices.overlaps[signalbroker/api.Request]"], unfollowed := true, recurses := true, apart := false, narrowed := true }
def ViewTwiceUptoSaid : Prop := viewTwiceUptoRow.holds Tryz.pinned (OpenSpec.upto viewTwiceSpec)

/-- 'signalbrokertop.TopFeed', WHERE WHAT IT READS IS OF BULK AT MOST 1048576: true; the input reads as it did. -/
def topFeedUptoRow : OpenClaim := { program := "ytmamjhmoegjapaagreat", sum := "3ed30d02b5626a1115251fc812bedc88a920d86fe14000ff812d2106375396d6", func := "signalbroker/signalbrokertop.TopFeed", spec := "topFeed", inPlace := ["slices.overlaps[signalbroker/api.Request]"], unfollowed := true, recurses := true, apart := false, narrowed := true }
def TopFeedUptoSaid : Prop := topFeedUptoRow.holds Tryz.pinned (OpenSpec.upto topFeedSpec)

/-- 'signalbrokertop.TopInterlock', WHERE WHAT IT READS IS OF BULK AT MOST 1048576: true; the input reads as it did. -/
def topInterlockUptoRow : OpenClaim := { program := "ytmamjhmoegjapaagreat", sum := "3ed30d02b5626a1115251fc812bedc88a920d86fe14000ff812d2106375396d6", func := "signalbroker/signalbrokertop.TopInterlock", spec := "topInterlock", inPlace := ["slices.overlaps[signalbroker/api.Request]"], unfollowed := true, recurses := true, apart := false, narrowed := true }
def TopInterlockUptoSaid : Prop := topInterlockUptoRow.holds Tryz.pinned (OpenSpec.upto topInterlockSpec)

end Rows
end Go.Proofs.YtmamjhmoegjapaaGreat
