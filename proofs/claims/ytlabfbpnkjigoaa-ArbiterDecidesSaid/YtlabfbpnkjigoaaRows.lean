/-
  No cell of these rows narrows 'for every input' (looked for: loops, veiled, ifaces, maps, wideKeys, modest, calm, conditions, laid).
  DERIVED. THE GIVEN ROWS OF THIS SEAT. 11 by the template 'for every input the law returns true; each argument reads behind the call as it read before'; 0 by the template 'total and deterministic' (their statements: YtlabfbpnkjigoaaTotals.lean).
  GIVEN WITH THE SEED: the statements are not yours to turn. If you find one false, say at which input.
  Laid BY PROGRAM, IN A SANDBOX (cutbox-rows.mjs): the forced cells as the released guide's own fill.sh prints them over the translation a3aa171e4f729846… (all of the seat's roots in one cut). By AI agents, Wed Nov 11 2026. No macro, syntax, notation, axiom, sorry.
-/
import Derived.Test.YtlabfbpnkjigoaaChecked
import GoSem.Claim
import GoSem.ClaimJoined
import GoSem.ClaimMapViews
import Derived.JoinedTies
import Derived.KernelRfl
namespace Go.Proofs.Ytlabfbpnkjigoaa
/- THE CELL 'sum', in the pinned program and in every row, IS THE sha256 OF THE DUMP (.gsa) THAT YtlabfbpnkjigoaaProg.lean LOADS. Nothing in Lean hashes anything: it is a label: what it is worth is what the hold of that sum in a sandbox is worth. -/
noncomputable def Try.pinned : Pinned := { name := "ytlabfbpnkjigoaa", sum := "a3aa171e4f7298469a6f8bfd352065fea2d4bffc421b00f762e40c21a71aae22", checked := Try.checked }
namespace Rows
def none {H : Type} : Left H := { results := [], args := [] }

/-- 'signalbrokerlaw30.BoundCounts': WHATEVER THE INPUT: true; the input reads as it did. -/
def boundCountsSpec : ChangeSpec := { name := "boundCounts", fn := fun _ => fun
  | [d1, d2] => { results := [.lit (.bool true)], args := [d1, d2] }
  | _ => none }
def boundCountsRow : OpenClaim := { program := "ytlabfbpnkjigoaa", sum := "a3aa171e4f7298469a6f8bfd352065fea2d4bffc421b00f762e40c21a71aae22", func := "signalbroker/signalbrokerlaw30.BoundCounts", spec := "boundCounts", apart := false }
def BoundCountsSaid : Prop := boundCountsRow.holds Try.pinned (OpenSpec.ofChange boundCountsSpec)

/-- ITS FALSE NEIGHBOUR: 'it returns false'. Refute it at one input. -/
def boundCountsWrong : ChangeSpec := { name := "boundCounts", fn := fun _ => fun
  | [d1, d2] => { results := [.lit (.bool false)], args := [d1, d2] }
  | _ => none }
def BoundCountsWrongFalsely : Prop := boundCountsRow.holds Try.pinned (OpenSpec.ofChange boundCountsWrong)

/-- 'signalbrokerlaw30.BoundGrows': WHATEVER THE INPUT: true; the input reads as it did. -/
def boundGrowsSpec : ChangeSpec := { name := "boundGrows", fn := fun _ => fun
  | [d1, d2, d3] => { results := [.lit (.bool true)], args := [d1, d2, d3] }
  | _ => none }
def boundGrowsRow : OpenClaim := { program := "ytlabfbpnkjigoaa", sum := "a3aa171e4f7298469a6f8bfd352065fea2d4bffc421b00f762e40c21a71aae22", func := "signalbroker/signalbrokerlaw30.BoundGrows", spec := "boundGrows", apart := false }
def BoundGrowsSaid : Prop := boundGrowsRow.holds Try.pinned (OpenSpec.ofChange boundGrowsSpec)

/-- ITS FALSE NEIGHBOUR: 'it returns false'. Refute it at one input. -/
def boundGrowsWrong : ChangeSpec := { name := "boundGrows", fn := fun _ => fun
  | [d1, d2, d3] => { results := [.lit (.bool false)], args := [d1, d2, d3] }
  | _ => none }
def BoundGrowsWrongFalsely : Prop := boundGrowsRow.holds Try.pinned (OpenSpec.ofChange boundGrowsWrong)

/-- 'signalbrokerlaw20.RankStrict': WHATEVER THE INPUT: true; the input reads as it did. -/
def rankStrictSpec : ChangeSpec := { name := "rankStrict", fn := fun _ => fun
  | [d1, d2] => { results := [.lit (.bool true)], args := [d1, d2] }
  | _ => none }
def rankStrictRow : OpenClaim := { program := "ytlabfbpnkjigoaa", sum := "a3aa171e4f7298469a6f8bfd352065fea2d4bffc421b00f762e40c21a71aae22", func := "signalbroker/signalbrokerlaw20.RankStrict", spec := "rankStrict", apart := false }
def RankStrictSaid : Prop := rankStrictRow.holds Try.pinned (OpenSpec.ofChange rankStrictSpec)

/-- ITS FALSE NEIGHBOUR: 'it returns false'. Refute it at one input. -/
def rankStrictWrong : ChangeSpec := { name := "rankStrict", fn := fun _ => fun
  | [d1, d2] => { results := [.lit (.bool false)], args := [d1, d2] }
  | _ => none }
def RankStrictWrongFalsely : Prop := rankStrictRow.holds Try.pinned (OpenSpec.ofChange rankStrictWrong)

/-- 'signalbrokerlaw20.RankRises': WHATEVER THE INPUT: true; the input reads as it did. -/
def rankRisesSpec : ChangeSpec := { name := "rankRises", fn := fun _ => fun
  | [d1, d2, d3] => { results := [.lit (.bool true)], args := [d1, d2, d3] }
  | _ => none }
def rankRisesRow : OpenClaim := { program := "ytlabfbpnkjigoaa", sum := "a3aa171e4f7298469a6f8bfd352065fea2d4bffc421b00f762e40c21a71aae22", func := "signalbroker/signalbrokerlaw20.RankRises", spec := "rankRises", apart := false }
def RankRisesSaid : Prop := rankRisesRow.holds Try.pinned (OpenSpec.ofChange rankRisesSpec)

/-- ITS FALSE NEIGHBOUR: 'it returns false'. Refute it at one input. -/
def rankRisesWrong : ChangeSpec := { name := "rankRises", fn := fun _ => fun
  | [d1, d2, d3] => { results := [.lit (.bool false)], args := [d1, d2, d3] }
  | _ => none }
def RankRisesWrongFalsely : Prop := rankRisesRow.holds Try.pinned (OpenSpec.ofChange rankRisesWrong)

/-- 'signalbrokerlaw20.RankOrders': WHATEVER THE INPUT: true; the input reads as it did. -/
def rankOrdersSpec : ChangeSpec := { name := "rankOrders", fn := fun _ => fun
  | [d1, d2] => { results := [.lit (.bool true)], args := [d1, d2] }
  | _ => none }
def rankOrdersRow : OpenClaim := { program := "ytlabfbpnkjigoaa", sum := "a3aa171e4f7298469a6f8bfd352065fea2d4bffc421b00f762e40c21a71aae22", func := "signalbroker/signalbrokerlaw20.RankOrders", spec := "rankOrders", apart := false }
def RankOrdersSaid : Prop := rankOrdersRow.holds Try.pinned (OpenSpec.ofChange rankOrdersSpec)

/-- ITS FALSE NEIGHBOUR: 'it returns false'. Refute it at one input. -/
def rankOrdersWrong : ChangeSpec := { name := "rankOrders", fn := fun _ => fun
  | [d1, d2] => { results := [.lit (.bool false)], args := [d1, d2] }
  | _ => none }
def RankOrdersWrongFalsely : Prop := rankOrdersRow.holds Try.pinned (OpenSpec.ofChange rankOrdersWrong)

/-- 'signalbrokerlaw20.RankBest': WHATEVER THE INPUT: true; the input reads as it did. -/
def rankBestSpec : ChangeSpec := { name := "rankBest", fn := fun _ => fun
  | [d1, d2] => { results := [.lit (.bool true)], args := [d1, d2] }
  | _ => none }
def rankBestRow : OpenClaim := { program := "ytlabfbpnkjigoaa", sum := "a3aa171e4f7298469a6f8bfd352065fea2d4bffc421b00f762e40c21a71aae22", func := "signalbroker/signalbrokerlaw20.RankBest", spec := "rankBest", apart := false }
def RankBestSaid : Prop := rankBestRow.holds Try.pinned (OpenSpec.ofChange rankBestSpec)

/-- ITS FALSE NEIGHBOUR: 'it returns false'. Refute it at one input. -/
def rankBestWrong : ChangeSpec := { name := "rankBest", fn := fun _ => fun
  | [d1, d2] => { results := [.lit (.bool false)], args := [d1, d2] }
  | _ => none }
def RankBestWrongFalsely : Prop := rankBestRow.holds Try.pinned (OpenSpec.ofChange rankBestWrong)

/-- 'signalbrokerlaw20.RankShifts': WHATEVER THE INPUT: true; the input reads as it did. -/
def rankShiftsSpec : ChangeSpec := { name := "rankShifts", fn := fun _ => fun
  | [d1, d2, d3] => { results := [.lit (.bool true)], args := [d1, d2, d3] }
  | _ => none }
def rankShiftsRow : OpenClaim := { program := "ytlabfbpnkjigoaa", sum := "a3aa171e4f7298469a6f8bfd352065fea2d4bffc421b00f762e40c21a71aae22", func := "signalbroker/signalbrokerlaw20.RankShifts", spec := "rankShifts", apart := false }
def RankShiftsSaid : Prop := rankShiftsRow.holds Try.pinned (OpenSpec.ofChange rankShiftsSpec)

/-- ITS FALSE NEIGHBOUR: 'it returns false'. Refute it at one input. -/
def rankShiftsWrong : ChangeSpec := { name := "rankShifts", fn := fun _ => fun
  | [d1, d2, d3] => { results := [.lit (.bool false)], args := [d1, d2, d3] }
  | _ => none }
def RankShiftsWrongFalsely : Prop := rankShiftsRow.holds Try.pinned (OpenSpec.ofChange rankShiftsWrong)

/-- 'signalbrokerlaw21.ArbiterEnds': WHATEVER THE INPUT: true; the input reads as it did. -/
def arbiterEndsSpec : ChangeSpec := { name := "arbiterEnds", fn := fun _ => fun
  | [d] => { results := [.lit (.bool true)], args := [d] }
  | _ => none }
def arbiterEndsRow : OpenClaim := { program := "ytlabfbpnkjigoaa", sum := "a3aa171e4f7298469a6f8bfd352065fea2d4bffc421b00f762e40c21a71aae22", func := "signalbroker/signalbrokerlaw21.ArbiterEnds", spec := "arbiterEnds", unfollowed := true, recurses := true, apart := false }
def ArbiterEndsSaid : Prop := arbiterEndsRow.holds Try.pinned (OpenSpec.ofChange arbiterEndsSpec)

/-- ITS FALSE NEIGHBOUR: 'it returns false'. Refute it at one input. -/
def arbiterEndsWrong : ChangeSpec := { name := "arbiterEnds", fn := fun _ => fun
  | [d] => { results := [.lit (.bool false)], args := [d] }
  | _ => none }
def ArbiterEndsWrongFalsely : Prop := arbiterEndsRow.holds Try.pinned (OpenSpec.ofChange arbiterEndsWrong)

/-- 'signalbrokerlaw21.ArbiterAlone': WHATEVER THE INPUT: true; the input reads as it did. -/
def arbiterAloneSpec : ChangeSpec := { name := "arbiterAlone", fn := fun _ => fun
  | [d1, d2] => { results := [.lit (.bool true)], args := [d1, d2] }
  | _ => none }
def arbiterAloneRow : OpenClaim := { program := "ytlabfbpnkjigoaa", sum := "a3aa171e4f7298469a6f8bfd352065fea2d4bffc421b00f762e40c21a71aae22", func := "signalbroker/signalbrokerlaw21.ArbiterAlone", spec := "arbiterAlone", unfollowed := true, recurses := true, apart := false }
def ArbiterAloneSaid : Prop := arbiterAloneRow.holds Try.pinned (OpenSpec.ofChange arbiterAloneSpec)

/-- ITS FALSE NEIGHBOUR: 'it returns false'. Refute it at one input. -/
def arbiterAloneWrong : ChangeSpec := { name := "arbiterAlone", fn := fun _ => fun
  | [d1, d2] => { results := [.lit (.bool false)], args := [d1, d2] }
  | _ => none }
def ArbiterAloneWrongFalsely : Prop := arbiterAloneRow.holds Try.pinned (OpenSpec.ofChange arbiterAloneWrong)

/-- 'signalbrokerlaw21.ArbiterDecides': WHATEVER THE INPUT: true; the input reads as it did. -/
def arbiterDecidesSpec : ChangeSpec := { name := "arbiterDecides", fn := fun _ => fun
  | [d1, d2, d3, d4, d5] => { results := [.lit (.bool true)], args := [d1, d2, d3, d4, d5] }
  | _ => none }
def arbiterDecidesRow : OpenClaim := { program := "ytlabfbpnkjigoaa", sum := "a3aa171e4f7298469a6f8bfd352065fea2d4bffc421b00f762e40c21a71aae22", func := "signalbroker/signalbrokerlaw21.ArbiterDecides", spec := "arbiterDecides", unfollowed := true, recurses := true, apart := false }
def ArbiterDecidesSaid : Prop := arbiterDecidesRow.holds Try.pinned (OpenSpec.ofChange arbiterDecidesSpec)

/-- ITS FALSE NEIGHBOUR: 'it returns false'. Refute it at one input. -/
def arbiterDecidesWrong : ChangeSpec := { name := "arbiterDecides", fn := fun _ => fun
  | [d1, d2, d3, d4, d5] => { results := [.lit (.bool false)], args := [d1, d2, d3, d4, d5] }
  | _ => none }
def ArbiterDecidesWrongFalsely : Prop := arbiterDecidesRow.holds Try.pinned (OpenSpec.ofChange arbiterDecidesWrong)

/-- 'signalbrokerlaw21.ArbiterServes': WHATEVER THE INPUT: true; the input reads as it did. -/
def arbiterServesSpec : ChangeSpec := { name := "arbiterServes", fn := fun _ => fun
  | [d] => { results := [.lit (.bool true)], args := [d] }
  | _ => none }
def arbiterServesRow : OpenClaim := { program := "ytlabfbpnkjigoaa", sum := "a3aa171e4f7298469a6f8bfd352065fea2d4bffc421b00f762e40c21a71aae22", func := "signalbroker/signalbrokerlaw21.ArbiterServes", spec := "arbiterServes", unfollowed := true, recurses := true, apart := false }
def ArbiterServesSaid : Prop := arbiterServesRow.holds Try.pinned (OpenSpec.ofChange arbiterServesSpec)

/-- ITS FALSE NEIGHBOUR: 'it returns false'. Refute it at one input. -/
def arbiterServesWrong : ChangeSpec := { name := "arbiterServes", fn := fun _ => fun
  | [d] => { results := [.lit (.bool false)], args := [d] }
  | _ => none }
def ArbiterServesWrongFalsely : Prop := arbiterServesRow.holds Try.pinned (OpenSpec.ofChange arbiterServesWrong)

/- THE SECOND FORM. 'bulk': how many values and letters a reading holds, each counted each time it is reached (what is shared counts as often as it is met; a slice's spare places count too). A statement '..UptoSaid' is the law's where the arguments, and the package variables that the reading takes, are together of bulk at most 1048576: NARROWER than '..Said'. Prove '..Said' where nothing that the law and all that it calls make is longer than what came in: it says more and counts as full. Else prove '..UptoSaid'. A law counts once. -/
mutual
def uptoBulk {H : Type} : DataW H → Nat
  | .lit (.string bytes) => bytes.length + 1
  | .lit _ => 1
  | .nil => 1
  | .ptr d => uptoBulk d + 1
  | .slice elems spare => uptoBulkAll elems + uptoBulkAll spare + 1
  | .agg parts => uptoBulkAll parts + 1
  | .iface _ d => uptoBulk d + 1
  | .map entries => uptoBulkEntries entries + 1
  | .held _ => 1
def uptoBulkAll {H : Type} : List (DataW H) → Nat
  | [] => 0
  | d :: r => uptoBulk d + uptoBulkAll r
def uptoBulkEntries {H : Type} : List (Lit × DataW H) → Nat
  | [] => 0
  | x :: r => uptoBulkEntry x + uptoBulkEntries r
def uptoBulkEntry {H : Type} : Lit × DataW H → Nat
  | (.string bytes, d) => bytes.length + uptoBulk d + 1
  | (_, d) => uptoBulk d + 1
 end
def uptoSmall : (H : Type) → List (DataW H) → Bool := fun _ ds => decide (uptoBulkAll ds ≤ 1048576)
def OpenSpec.upto (s : _root_.Go.ChangeSpec) : _root_.Go.OpenSpec := { _root_.Go.OpenSpec.ofChange s with cond := some uptoSmall }

/-- 'signalbrokerlaw30.BoundCounts', WHERE WHAT IT READS IS OF BULK AT MOST 1048576: true; the input reads as it did. -/
def boundCountsUptoRow : OpenClaim := { program := "ytlabfbpnkjigoaa", sum := "a3aa171e4f7298469a6f8bfd352065fea2d4bffc421b00f762e40c21a71aae22", func := "signalbroker/signalbrokerlaw30.BoundCounts", spec := "boundCounts", apart := false, narrowed := true }
def BoundCountsUptoSaid : Prop := boundCountsUptoRow.holds Try.pinned (OpenSpec.upto boundCountsSpec)

/-- 'signalbrokerlaw30.BoundGrows', WHERE WHAT IT READS IS OF BULK AT MOST 1048576: true; the input reads as it did. -/
def boundGrowsUptoRow : OpenClaim := { program := "ytlabfbpnkjigoaa", sum := "a3aa171e4f7298469a6f8bfd352065fea2d4bffc421b00f762e40c21a71aae22", func := "signalbroker/signalbrokerlaw30.BoundGrows", spec := "boundGrows", apart := false, narrowed := true }
def BoundGrowsUptoSaid : Prop := boundGrowsUptoRow.holds Try.pinned (OpenSpec.upto boundGrowsSpec)

/-- 'signalbrokerlaw20.RankStrict', WHERE WHAT IT READS IS OF BULK AT MOST 1048576: true; the input reads as it did. -/
def rankStrictUptoRow : OpenClaim := { program := "ytlabfbpnkjigoaa", sum := "a3aa171e4f7298469a6f8bfd352065fea2d4bffc421b00f762e40c21a71aae22", func := "signalbroker/signalbrokerlaw20.RankStrict", spec := "rankStrict", apart := false, narrowed := true }
def RankStrictUptoSaid : Prop := rankStrictUptoRow.holds Try.pinned (OpenSpec.upto rankStrictSpec)

/-- 'signalbrokerlaw20.RankRises', WHERE WHAT IT READS IS OF BULK AT MOST 1048576: true; the input reads as it did. -/
def rankRisesUptoRow : OpenClaim := { program := "ytlabfbpnkjigoaa", sum := "a3aa171e4f7298469a6f8bfd352065fea2d4bffc421b00f762e40c21a71aae22", func := "signalbroker/signalbrokerlaw20.RankRises", spec := "rankRises", apart := false, narrowed := true }
def RankRisesUptoSaid : Prop := rankRisesUptoRow.holds Try.pinned (OpenSpec.upto rankRisesSpec)

/-- 'signalbrokerlaw20.RankOrders', WHERE WHAT IT READS IS OF BULK AT MOST 1048576: true; the input reads as it did. -/
def rankOrdersUptoRow : OpenClaim := { program := "ytlabfbpnkjigoaa", sum := "a3aa171e4f7298469a6f8bfd352065fea2d4bffc421b00f762e40c21a71aae22", func := "signalbroker/signalbrokerlaw20.RankOrders", spec := "rankOrders", apart := false, narrowed := true }
def RankOrdersUptoSaid : Prop := rankOrdersUptoRow.holds Try.pinned (OpenSpec.upto rankOrdersSpec)

/-- 'signalbrokerlaw20.RankBest', WHERE WHAT IT READS IS OF BULK AT MOST 1048576: true; the input reads as it did. -/
def rankBestUptoRow : OpenClaim := { program := "ytlabfbpnkjigoaa", sum := "a3aa171e4f7298469a6f8bfd352065fea2d4bffc421b00f762e40c21a71aae22", func := "signalbroker/signalbrokerlaw20.RankBest", spec := "rankBest", apart := false, narrowed := true }
def RankBestUptoSaid : Prop := rankBestUptoRow.holds Try.pinned (OpenSpec.upto rankBestSpec)

/-- 'signalbrokerlaw20.RankShifts', WHERE WHAT IT READS IS OF BULK AT MOST 1048576: true; the input reads as it did. -/
def rankShiftsUptoRow : OpenClaim := { program := "ytlabfbpnkjigoaa", sum := "a3aa171e4f7298469a6f8bfd352065fea2d4bffc421b00f762e40c21a71aae22", func := "signalbroker/signalbrokerlaw20.RankShifts", spec := "rankShifts", apart := false, narrowed := true }
def RankShiftsUptoSaid : Prop := rankShiftsUptoRow.holds Try.pinned (OpenSpec.upto rankShiftsSpec)

/-- 'signalbrokerlaw21.ArbiterEnds', WHERE WHAT IT READS IS OF BULK AT MOST 1048576: true; the input reads as it did. -/
def arbiterEndsUptoRow : OpenClaim := { program := "ytlabfbpnkjigoaa", sum := "a3aa171e4f7298469a6f8bfd352065fea2d4bffc421b00f762e40c21a71aae22", func := "signalbroker/signalbrokerlaw21.ArbiterEnds", spec := "arbiterEnds", unfollowed := true, recurses := true, apart := false, narrowed := true }
def ArbiterEndsUptoSaid : Prop := arbiterEndsUptoRow.holds Try.pinned (OpenSpec.upto arbiterEndsSpec)

/-- 'signalbrokerlaw21.ArbiterAlone', WHERE WHAT IT READS IS OF BULK AT MOST 1048576: true; the input reads as it did. -/
def arbiterAloneUptoRow : OpenClaim := { program := "ytlabfbpnkjigoaa", sum := "a3aa171e4f7298469a6f8bfd352065fea2d4bffc421b00f762e40c21a71aae22", func := "signalbroker/signalbrokerlaw21.ArbiterAlone", spec := "arbiterAlone", unfollowed := true, recurses := true, apart := false, narrowed := true }
def ArbiterAloneUptoSaid : Prop := arbiterAloneUptoRow.holds Try.pinned (OpenSpec.upto arbiterAloneSpec)

/-- 'signalbrokerlaw21.ArbiterDecides', WHERE WHAT IT READS IS OF BULK AT MOST 1048576: true; the input reads as it did. -/
def arbiterDecidesUptoRow : OpenClaim := { program := "ytlabfbpnkjigoaa", sum := "a3aa171e4f7298469a6f8bfd352065fea2d4bffc421b00f762e40c21a71aae22", func := "signalbroker/signalbrokerlaw21.ArbiterDecides", spec := "arbiterDecides", unfollowed := true, recurses := true, apart := false, narrowed := true }
def ArbiterDecidesUptoSaid : Prop := arbiterDecidesUptoRow.holds Try.pinned (OpenSpec.upto arbiterDecidesSpec)

/-- 'signalbrokerlaw21.ArbiterServes', WHERE WHAT IT READS IS OF BULK AT MOST 1048576: true; the input reads as it did. -/
def arbiterServesUptoRow : OpenClaim := { program := "ytlabfbpnkjigoaa", sum := "a3aa171e4f7298469a6f8bfd352065fea2d4bffc421b00f762e40c21a71aae22", func := "signalbroker/signalbrokerlaw21.ArbiterServes", spec := "arbiterServes", unfollowed := true, recurses := true, apart := false, narrowed := true }
def ArbiterServesUptoSaid : Prop := arbiterServesUptoRow.holds Try.pinned (OpenSpec.upto arbiterServesSpec)

end Rows
end Go.Proofs.Ytlabfbpnkjigoaa
