/-
  No cell of these rows narrows 'for every input' (looked for: loops, veiled, ifaces, maps, wideKeys, modest, calm, conditions, laid).
  DERIVED. THE GIVEN ROWS OF THIS SEAT. 4 by the template 'for every input the law returns true; each argument reads behind the call as it read before'; 0 by the template 'total and deterministic' (their statements: YtjbldhhgooihfaaTotals.lean).
  GIVEN WITH THE SEED: the statements are not yours to turn. If you find one false, say at which input.
  Laid BY PROGRAM, IN A SANDBOX (cutbox-rows.mjs): the forced cells as the released guide's own fill.sh prints them over the translation c65262849c366e6c… (all of the seat's roots in one cut). By AI agents, Wed Nov 11 2026. No macro, syntax, notation, axiom, sorry.
-/
import Derived.Test.YtjbldhhgooihfaaChecked
import GoSem.Claim
import GoSem.ClaimJoined
import GoSem.ClaimMapViews
import Derived.JoinedTies
import Derived.KernelRfl
namespace Go.Proofs.Ytjbldhhgooihfaa
/- THE CELL 'sum', in the pinned program and in every row, IS THE sha256 OF THE DUMP (.gsa) THAT YtjbldhhgooihfaaProg.lean LOADS. Nothing in Lean hashes anything: it is a label: what it is worth is what the hold of that sum in a sandbox is worth. -/
noncomputable def Try.pinned : Pinned := { name := "ytjbldhhgooihfaa", sum := "c65262849c366e6c51790dfb7b28cfc8a176a529076409d000205c7b108a2de1", checked := Try.checked }
namespace Rows
def none {H : Type} : Left H := { results := [], args := [] }

/-- 'signalbrokerlaw17.RegistryRefuses': WHATEVER THE INPUT: true; the input reads as it did. -/
def registryRefusesSpec : ChangeSpec := { name := "registryRefuses", fn := fun _ => fun
  | [d1, d2, d3, d4] => { results := [.lit (.bool true)], args := [d1, d2, d3, d4] }
  | _ => none }
def registryRefusesRow : OpenClaim := { program := "ytjbldhhgooihfaa", sum := "c65262849c366e6c51790dfb7b28cfc8a176a529076409d000205c7b108a2de1", func := "signalbroker/signalbrokerlaw17.RegistryRefuses", spec := "registryRefuses", unfollowed := true, recurses := true, apart := false }
def RegistryRefusesSaid : Prop := registryRefusesRow.holds Try.pinned (OpenSpec.ofChange registryRefusesSpec)

/-- ITS FALSE NEIGHBOUR: 'it returns false'. Refute it at one input. -/
def registryRefusesWrong : ChangeSpec := { name := "registryRefuses", fn := fun _ => fun
  | [d1, d2, d3, d4] => { results := [.lit (.bool false)], args := [d1, d2, d3, d4] }
  | _ => none }
def RegistryRefusesWrongFalsely : Prop := registryRefusesRow.holds Try.pinned (OpenSpec.ofChange registryRefusesWrong)

/-- 'signalbrokerlaw17.RegistryOpens': WHATEVER THE INPUT: true; the input reads as it did. -/
def registryOpensSpec : ChangeSpec := { name := "registryOpens", fn := fun _ => fun
  | [d1, d2, d3, d4] => { results := [.lit (.bool true)], args := [d1, d2, d3, d4] }
  | _ => none }
def registryOpensRow : OpenClaim := { program := "ytjbldhhgooihfaa", sum := "c65262849c366e6c51790dfb7b28cfc8a176a529076409d000205c7b108a2de1", func := "signalbroker/signalbrokerlaw17.RegistryOpens", spec := "registryOpens", unfollowed := true, recurses := true, apart := false }
def RegistryOpensSaid : Prop := registryOpensRow.holds Try.pinned (OpenSpec.ofChange registryOpensSpec)

/-- ITS FALSE NEIGHBOUR: 'it returns false'. Refute it at one input. -/
def registryOpensWrong : ChangeSpec := { name := "registryOpens", fn := fun _ => fun
  | [d1, d2, d3, d4] => { results := [.lit (.bool false)], args := [d1, d2, d3, d4] }
  | _ => none }
def RegistryOpensWrongFalsely : Prop := registryOpensRow.holds Try.pinned (OpenSpec.ofChange registryOpensWrong)

/-- 'signalbrokerlaw17.RegistryUnits': WHATEVER THE INPUT: true; the input reads as it did. -/
def registryUnitsSpec : ChangeSpec := { name := "registryUnits", fn := fun _ => fun
  | [d] => { results := [.lit (.bool true)], args := [d] }
  | _ => none }
def registryUnitsRow : OpenClaim := { program := "ytjbldhhgooihfaa", sum := "c65262849c366e6c51790dfb7b28cfc8a176a529076409d000205c7b108a2de1", func := "signalbroker/signalbrokerlaw17.RegistryUnits", spec := "registryUnits", unfollowed := true, recurses := true, apart := false }
def RegistryUnitsSaid : Prop := registryUnitsRow.holds Try.pinned (OpenSpec.ofChange registryUnitsSpec)

/-- ITS FALSE NEIGHBOUR: 'it returns false'. Refute it at one input. -/
def registryUnitsWrong : ChangeSpec := { name := "registryUnits", fn := fun _ => fun
  | [d] => { results := [.lit (.bool false)], args := [d] }
  | _ => none }
def RegistryUnitsWrongFalsely : Prop := registryUnitsRow.holds Try.pinned (OpenSpec.ofChange registryUnitsWrong)

/-- 'signalbrokerlaw17.RegistryDerives': WHATEVER THE INPUT: true; the input reads as it did. -/
def registryDerivesSpec : ChangeSpec := { name := "registryDerives", fn := fun _ => fun
  | [d1, d2, d3, d4, d5, d6] => { results := [.lit (.bool true)], args := [d1, d2, d3, d4, d5, d6] }
  | _ => none }
def registryDerivesRow : OpenClaim := { program := "ytjbldhhgooihfaa", sum := "c65262849c366e6c51790dfb7b28cfc8a176a529076409d000205c7b108a2de1", func := "signalbroker/signalbrokerlaw17.RegistryDerives", spec := "registryDerives", unfollowed := true, recurses := true, apart := false }
def RegistryDerivesSaid : Prop := registryDerivesRow.holds Try.pinned (OpenSpec.ofChange registryDerivesSpec)

/-- ITS FALSE NEIGHBOUR: 'it returns false'. Refute it at one input. -/
def registryDerivesWrong : ChangeSpec := { name := "registryDerives", fn := fun _ => fun
  | [d1, d2, d3, d4, d5, d6] => { results := [.lit (.bool false)], args := [d1, d2, d3, d4, d5, d6] }
  | _ => none }
def RegistryDerivesWrongFalsely : Prop := registryDerivesRow.holds Try.pinned (OpenSpec.ofChange registryDerivesWrong)

/- THE SECOND FORM. 'bulk': how many values and letters a reading holds, each counted each time it is reached (what is shared counts as often as it is met; a slice's spare places count too). A statement '..UptoSaid' is the law's where the arguments, and the package variables that the reading takes, are together of bulk at most 1048576: NARROWER than '..Said'. Prove '..Said' where nothing that the law and all that it calls make is longer than what came in: it says more and counts as full. Else prove '..UptoSaid'. A law counts once. -/
mutual
def uptoBulk {H : Type} : DataW H → Nat
  | .lit (.string bytes) => bytes.length + 1
  | .lit _ => 1
  | .nil => 1
  | .ptr d => uptoBulk d + 1
  | .slice elems spare => uptoBulkAll elems + uptoBulkAll spare + 1
  | .agg parts => uptoBulkAll parts + 1
  | .iface _ d => uptoBulk d + 1
  | .map entries => uptoBulkEntries entries + 1
  | .held _ => 1
def uptoBulkAll {H : Type} : List (DataW H) → Nat
  | [] => 0
  | d :: r => uptoBulk d + uptoBulkAll r
def uptoBulkEntries {H : Type} : List (Lit × DataW H) → Nat
  | [] => 0
  | x :: r => uptoBulkEntry x + uptoBulkEntries r
def uptoBulkEntry {H : Type} : Lit × DataW H → Nat
  | (.string bytes, d) => bytes.length + uptoBulk d + 1
  | (_, d) => uptoBulk d + 1
 end
def uptoSmall : (H : Type) → List (DataW H) → Bool := fun _ ds => decide (uptoBulkAll ds ≤ 1048576)
def OpenSpec.upto (s : _root_.Go.ChangeSpec) : _root_.Go.OpenSpec := { _root_.Go.OpenSpec.ofChange s with cond := some uptoSmall }

/-- 'signalbrokerlaw17.RegistryRefuses', WHERE WHAT IT READS IS OF BULK AT MOST 1048576: true; the input reads as it did. -/
def registryRefusesUptoRow : OpenClaim := { program := "ytjbldhhgooihfaa", sum := "c65262849c366e6c51790dfb7b28cfc8a176a529076409d000205c7b108a2de1", func := "signalbroker/signalbrokerlaw17.RegistryRefuses", spec := "registryRefuses", unfollowed := true, recurses := true, apart := false, narrowed := true }
def RegistryRefusesUptoSaid : Prop := registryRefusesUptoRow.holds Try.pinned (OpenSpec.upto registryRefusesSpec)

/-- 'signalbrokerlaw17.RegistryOpens', WHERE WHAT IT READS IS OF BULK AT MOST 1048576: true; the input reads as it did. -/
def registryOpensUptoRow : OpenClaim := { program := "ytjbldhhgooihfaa", sum := "c65262849c366e6c51790dfb7b28cfc8a176a529076409d000205c7b108a2de1", func := "signalbroker/signalbrokerlaw17.RegistryOpens", spec := "registryOpens", unfollowed := true, recurses := true, apart := false, narrowed := true }
def RegistryOpensUptoSaid : Prop := registryOpensUptoRow.holds Try.pinned (OpenSpec.upto registryOpensSpec)

/-- 'signalbrokerlaw17.RegistryUnits', WHERE WHAT IT READS IS OF BULK AT MOST 1048576: true; the input reads as it did. -/
def registryUnitsUptoRow : OpenClaim := { program := "ytjbldhhgooihfaa", sum := "c65262849c366e6c51790dfb7b28cfc8a176a529076409d000205c7b108a2de1", func := "signalbroker/signalbrokerlaw17.RegistryUnits", spec := "registryUnits", unfollowed := true, recurses := true, apart := false, narrowed := true }
def RegistryUnitsUptoSaid : Prop := registryUnitsUptoRow.holds Try.pinned (OpenSpec.upto registryUnitsSpec)

/-- 'signalbrokerlaw17.RegistryDerives', WHERE WHAT IT READS IS OF BULK AT MOST 1048576: true; the input reads as it did. -/
def registryDerivesUptoRow : OpenClaim := { program := "ytjbldhhgooihfaa", sum := "c65262849c366e6c51790dfb7b28cfc8a176a529076409d000205c7b108a2de1", func := "signalbroker/signalbrokerlaw17.RegistryDerives", spec := "registryDerives", unfollowed := true, recurses := true, apart := false, narrowed := true }
def RegistryDerivesUptoSaid : Prop := registryDerivesUptoRow.holds Try.pinned (OpenSpec.upto registryDerivesSpec)

end Rows
end Go.Proofs.Ytjbldhhgooihfaa
