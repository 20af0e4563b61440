/-
  No cell of these rows narrows 'for every input' (looked for: loops, veiled, ifaces, maps, wideKeys, modest, calm, conditions, laid).
  DERIVED. THE GIVEN ROWS OF THIS SEAT. 5 by the template 'for every input the law returns true; each argument reads behind the call as it read before'; 0 by the template 'total and deterministic' (their statements: YtaglbcjljlkjcaaGreatTotals.lean).
  GIVEN WITH THE SEED: the statements are not yours to turn. If you find one false, say at which input.
  Laid BY PROGRAM, IN A SANDBOX (cutbox-rows.mjs): the forced cells as the released guide's own fill.sh prints them over the translation 10abc0b76420b80b… (all of the seat's roots in one cut). By AI agents, Wed Nov 11 2026. No macro, syntax, notation, axiom, sorry.
-/
import Derived.Test.YtaglbcjljlkjcaaGreatChecked
import GoSem.Claim
import GoSem.ClaimJoined
import GoSem.ClaimMapViews
import Derived.JoinedTies
import Derived.KernelRfl
namespace Go.Proofs.YtaglbcjljlkjcaaGreat
/- THE CELL 'sum', in the pinned program and in every row, IS THE sha256 OF THE DUMP (.gsa) THAT YtaglbcjljlkjcaaGreatProg.lean LOADS. Nothing in Lean hashes anything: it is a label: what it is worth is what the hold of that sum in a sandbox is worth. -/
noncomputable def Tryz.pinned : Pinned := { name := "ytaglbcjljlkjcaagreat", sum := "10abc0b76420b80bfe7c0269d1c58535cadb397af8417b652af5c47b005f3692", checked := Tryz.checked }
namespace Rows
def none {H : Type} : Left H := { results := [], args := [] }

/-- 'signalbrokerlaw27.ModelTicks': WHATEVER THE INPUT: true; the input reads as it did. -/
def modelTicksSpec : ChangeSpec := { name := "modelTicks", fn := fun _ => fun
  | [d1, d2] => { results := [.lit (.bool true)], args := [d1, d2] }
  | _ => none }
def modelTicksRow : OpenClaim := { program := "ytaglbcjljlkjcaagreat", sum := "10abc0b76420b80bfe7c0269d1c58535cadb397af8417b652af5c47b005f3692", func := "signalbroker/signalbrokerlaw27.ModelTicks", spec := "modelTicks", inPlace := ["slices.overlaps[signalbroker/api.Request]"], unfollowed := true, recurses := true, apart := false }
def ModelTicksSaid : Prop := modelTicksRow.holds Tryz.pinned (OpenSpec.ofChange modelTicksSpec)

/-- ITS FALSE NEIGHBOUR: 'it returns false'. Refute it at one input. -/
def modelTicksWrong : ChangeSpec := { name := "modelTicks", fn := fun _ => fun
  | [d1, d2] => { results := [.lit (.bool false)], args := [d1, d2] }
  | _ => none }
def ModelTicksWrongFalsely : Prop := modelTicksRow.holds Tryz.pinned (OpenSpec.ofChange modelTicksWrong)

/-- 'signalbrokerlaw27.ModelApart': WHATEVER THE INPUT: true; the input reads as it did. -/
def modelApartSpec : ChangeSpec := { name := "modelApart", fn := fun _ => fun
  | [d1, d2, d3] => { results := [.lit (.bool true)], args := [d1, d2, d3] }
  | _ => none }
def modelApartRow : OpenClaim := { program := "ytaglbcjljlkjcaagreat", sum := "10abc0b76420b80bfe7c0269d1c58535cadb397af8417b652af5c47b005f3692", func := "signalbroker/signalbrokerlaw27.ModelApart", spec := "modelApart", inPlace := ["slices.overlaps[signalbroker/api.Request]"], unfollowed := true, recurses := true, apart := false }
def ModelApartSaid : Prop := modelApartRow.holds Tryz.pinned (OpenSpec.ofChange modelApartSpec)

/-- ITS FALSE NEIGHBOUR: 'it returns false'. Refute it at one input. -/
def modelApartWrong : ChangeSpec := { name := "modelApart", fn := fun _ => fun
  | [d1, d2, d3] => { results := [.lit (.bool false)], args := [d1, d2, d3] }
  | _ => none }
def ModelApartWrongFalsely : Prop := modelApartRow.holds Tryz.pinned (OpenSpec.ofChange modelApartWrong)

/-- 'signalbrokerlaw27.ModelSays': WHATEVER THE INPUT: true; the input reads as it did. -/
def modelSaysSpec : ChangeSpec := { name := "modelSays", fn := fun _ => fun
  | [d] => { results := [.lit (.bool true)], args := [d] }
  | _ => none }
def modelSaysRow : OpenClaim := { program := "ytaglbcjljlkjcaagreat", sum := "10abc0b76420b80bfe7c0269d1c58535cadb397af8417b652af5c47b005f3692", func := "signalbroker/signalbrokerlaw27.ModelSays", spec := "modelSays", inPlace := ["slices.overlaps[signalbroker/api.Request]"], unfollowed := true, recurses := true, apart := false }
def ModelSaysSaid : Prop := modelSaysRow.holds Tryz.pinned (OpenSpec.ofChange modelSaysSpec)

/-- ITS FALSE NEIGHBOUR: 'it returns false'. Refute it at one input. -/
def modelSaysWrong : ChangeSpec := { name := "modelSays", fn := fun _ => fun
  | [d] => { results := [.lit (.bool false)], args := [d] }
  | _ => none }
def ModelSaysWrongFalsely : Prop := modelSaysRow.holds Tryz.pinned (OpenSpec.ofChange modelSaysWrong)

/-- 'signalbrokerlaw27.ModelSafe': WHATEVER THE INPUT: true; the input reads as it did. -/
def modelSafeSpec : ChangeSpec := { name := "modelSafe", fn := fun _ => fun
  | [d] => { results := [.lit (.bool true)], args := [d] }
  | _ => none }
def modelSafeRow : OpenClaim := { program := "ytaglbcjljlkjcaagreat", sum := "10abc0b76420b80bfe7c0269d1c58535cadb397af8417b652af5c47b005f3692", func := "signalbroker/signalbrokerlaw27.ModelSafe", spec := "modelSafe", inPlace := ["slices.overlaps[signalbroker/api.Request]"], unfollowed := true, recurses := true, apart := false }
def ModelSafeSaid : Prop := modelSafeRow.holds Tryz.pinned (OpenSpec.ofChange modelSafeSpec)

/-- ITS FALSE NEIGHBOUR: 'it returns false'. Refute it at one input. -/
def modelSafeWrong : ChangeSpec := { name := "modelSafe", fn := fun _ => fun
  | [d] => { results := [.lit (.bool false)], args := [d] }
  | _ => none }
def ModelSafeWrongFalsely : Prop := modelSafeRow.holds Tryz.pinned (OpenSpec.ofChange modelSafeWrong)

/-- 'signalbrokerlaw27.ModelBegins': WHATEVER THE INPUT: true; the input reads as it did. -/
def modelBeginsSpec : ChangeSpec := { name := "modelBegins", fn := fun _ => fun
  | [d1, d2, d3, d4, d5] => { results := [.lit (.bool true)], args := [d1, d2, d3, d4, d5] }
  | _ => none }
def modelBeginsRow : OpenClaim := { program := "ytaglbcjljlkjcaagreat", sum := "10abc0b76420b80bfe7c0269d1c58535cadb397af8417b652af5c47b005f3692", func := "signalbroker/signalbrokerlaw27.ModelBegins", spec := "modelBegins", inPlace := ["slices.overlaps[signalbroker/api.Request]"], unfollowed := true, recurses := true, apart := false }
def ModelBeginsSaid : Prop := modelBeginsRow.holds Tryz.pinned (OpenSpec.ofChange modelBeginsSpec)

/-- ITS FALSE NEIGHBOUR: 'it returns false'. Refute it at one input. -/
def modelBeginsWrong : ChangeSpec := { name := "modelBegins", fn := fun _ => fun
  | [d1, d2, d3, d4, d5] => { results := [.lit (.bool false)], args := [d1, d2, d3, d4, d5] }
  | _ => none }
def ModelBeginsWrongFalsely : Prop := modelBeginsRow.holds Tryz.pinned (OpenSpec.ofChange modelBeginsWrong)

/- THE SECOND FORM. 'bulk': how many values and letters a reading holds, each counted each time it is reached (what is shared counts as often as it is met; a slice's spare places count too). A statement '..UptoSaid' is the law's where the arguments, and the package variables that the reading takes, are together of bulk at most 1048576: NARROWER than '..Said'. Prove '..Said' where nothing that the law and all that it calls make is longer than what came in: it says more and counts as full. Else prove '..UptoSaid'. A law counts once. -/
mutual
def uptoBulk {H : Type} : DataW H → Nat
  | .lit (.string bytes) => bytes.length + 1
  | .lit _ => 1
  | .nil => 1
  | .ptr d => uptoBulk d + 1
  | .slice elems spare => uptoBulkAll elems + uptoBulkAll spare + 1
  | .agg parts => uptoBulkAll parts + 1
  | .iface _ d => uptoBulk d + 1
  | .map entries => uptoBulkEntries entries + 1
  | .held _ => 1
def uptoBulkAll {H : Type} : List (DataW H) → Nat
  | [] => 0
  | d :: r => uptoBulk d + uptoBulkAll r
def uptoBulkEntries {H : Type} : List (Lit × DataW H) → Nat
  | [] => 0
  | x :: r => uptoBulkEntry x + uptoBulkEntries r
def uptoBulkEntry {H : Type} : Lit × DataW H → Nat
  | (.string bytes, d) => bytes.length + uptoBulk d + 1
  | (_, d) => uptoBulk d + 1
 end
def uptoSmall : (H : Type) → List (DataW H) → Bool := fun _ ds => decide (uptoBulkAll ds ≤ 1048576)
def OpenSpec.upto (s : _root_.Go.ChangeSpec) : _root_.Go.OpenSpec := { _root_.Go.OpenSpec.ofChange s with cond := some uptoSmall }

/-- 'signalbrokerlaw27.ModelTicks', WHERE WHAT IT READS IS OF BULK AT MOST 1048576: true; the input reads as it did. -/
def modelTicksUptoRow : OpenClaim := { program := "ytaglbcjljlkjcaagreat", sum := "10abc0b76420b80bfe7c0269d1c58535cadb397af8417b652af5c47b005f3692", func := "signalbroker/signalbrokerlaw27.ModelTicks", spec := "modelTicks", inPlace := ["slices.overlaps[signalbroker/api.Request]"], unfollowed := true, recurses := true, apart := false, narrowed := true }
def ModelTicksUptoSaid : Prop := modelTicksUptoRow.holds Tryz.pinned (OpenSpec.upto modelTicksSpec)

/-- 'signalbrokerlaw27.ModelApart', WHERE WHAT IT READS IS OF BULK AT MOST 1048576: true; the input reads as it did. -/
def modelApartUptoRow : OpenClaim := { program := "ytaglbcjljlkjcaagreat", sum := "10abc0b76420b80bfe7c0269d1c58535cadb397af8417b652af5c47b005f3692", func := "signalbroker/signalbrokerlaw27.ModelApart", spec := "modelApart", inPlace := ["slices.overlaps[signalbroker/api.Request]"], unfollowed := true, recurses := true, apart := false, narrowed := true }
def ModelApartUptoSaid : Prop := modelApartUptoRow.holds Tryz.pinned (OpenSpec.upto modelApartSpec)

/-- 'signalbrokerlaw27.ModelSays', WHERE WHAT IT READS IS OF BULK AT MOST 1048576: true; the input reads as it did. -/
def modelSaysUptoRow : OpenClaim := { program := "ytaglbcjljlkjcaagreat", sum := "10abc0b76420b80bfe7c0269d1c58535cadb397af8417b652af5c47b005f3692", func := "signalbroker/signalbrokerlaw27.ModelSays", spec := "modelSays", inPlace := ["slices.overlaps[signalbroker/api.Request]"], unfollowed := true, recurses := true, apart := false, narrowed := true }
def ModelSaysUptoSaid : Prop := modelSaysUptoRow.holds Tryz.pinned (OpenSpec.upto modelSaysSpec)

/-- 'signalbrokerlaw27.ModelSafe', WHERE WHAT IT READS IS OF BULK AT MOST 1048576: true; the input reads as it did. -/
def modelSafeUptoRow : OpenClaim := { program := "ytaglbcjljlkjcaagreat", sum := "10abc0b76420b80bfe7c0269d1c58535cadb397af8417b652af5c47b005f3692", func := "signalbroker/signalbrokerlaw27.ModelSafe", spec := "modelSafe", inPlace := ["slices.overlaps[signalbroker/api.Request]"], unfollowed := true, recurses := true, apart := false, narrowed := true }
def ModelSafeUptoSaid : Prop := modelSafeUptoRow.holds Tryz.pinned (OpenSpec.upto modelSafeSpec)

/-- 'signalbrokerlaw27.ModelBegins', WHERE WHAT IT READS IS OF BULK AT MOST 1048576: true; the input reads as it did. -/
def modelBeginsUptoRow : OpenClaim := { program := "ytaglbcjljlkjcaagreat", sum := "10abc0b76420b80bfe7c0269d1c58535cadb397af8417b652af5c47b005f3692", func := "signalbroker/signalbrokerlaw27.ModelBegins", spec := "modelBegins", inPlace := ["slices.overlaps[signalbroker/api.Request]"], unfollowed := true, recurses := true, apart := false, narrowed := true }
def ModelBeginsUptoSaid : Prop := modelBeginsUptoRow.holds Tryz.pinned (OpenSpec.upto modelBeginsSpec)

end Rows
end Go.Proofs.YtaglbcjljlkjcaaGreat
