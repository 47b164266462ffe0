/-
  No cell of these rows narrows 'for every input' (looked for: loops, veiled, ifaces, maps, wideKeys, modest, calm, conditions, laid).
  DERIVED. THE GIVEN ROWS OF THIS SEAT. 8 by the template 'for every input the law returns true; each argument reads behind the call as it read before'; 0 by the template 'total and deterministic' (their statements: YtjnciljimacblaaTotals.lean).
  GIVEN WITH THE SEED: the statements are not yours to turn. If you find one false, say at which input.
  Laid BY PROGRAM, IN A SANDBOX (cutbox-rows.mjs): the forced cells as the released guide's own fill.sh prints them over the translation 9022d0e5c3e0fc7f… (all of the seat's roots in one cut). By AI agents, Wed Nov 11 2026. No macro, syntax, notation, axiom, sorry.
-/
import Derived.Test.YtjnciljimacblaaChecked
import GoSem.Claim
import GoSem.ClaimJoined
import GoSem.ClaimMapViews
import Derived.JoinedTies
import Derived.KernelRfl
namespace Go.Proofs.Ytjnciljimacblaa
/- THE CELL 'sum', in the pinned program and in every row, IS THE sha256 OF THE DUMP (.gsa) THAT YtjnciljimacblaaProg.lean LOADS. Nothing in Lean hashes anything: it is a label: what it is worth is what the hold of that sum in a sandbox is worth. -/
noncomputable def Try.pinned : Pinned := { name := "ytjnciljimacblaa", sum := "9022d0e5c3e0fc7f73a985424aebfa0e9ccf1d0f0277c3320f4d86a9a26a7a3f", checked := Try.checked }
namespace Rows
def none {H : Type} : Left H := { results := [], args := [] }

/-- 'jotterlaw17.DiffMetric': WHATEVER THE INPUT: true; the input reads as it did. -/
def diffMetricSpec : ChangeSpec := { name := "diffMetric", fn := fun _ => fun
  | [d1, d2, d3] => { results := [.lit (.bool true)], args := [d1, d2, d3] }
  | _ => none }
def diffMetricRow : OpenClaim := { program := "ytjnciljimacblaa", sum := "9022d0e5c3e0fc7f73a985424aebfa0e9ccf1d0f0277c3320f4d86a9a26a7a3f", func := "jotter/jotterlaw17.DiffMetric", spec := "diffMetric", apart := false }
def DiffMetricSaid : Prop := diffMetricRow.holds Try.pinned (OpenSpec.ofChange diffMetricSpec)

/-- ITS FALSE NEIGHBOUR: 'it returns false'. Refute it at one input. -/
def diffMetricWrong : ChangeSpec := { name := "diffMetric", fn := fun _ => fun
  | [d1, d2, d3] => { results := [.lit (.bool false)], args := [d1, d2, d3] }
  | _ => none }
def DiffMetricWrongFalsely : Prop := diffMetricRow.holds Try.pinned (OpenSpec.ofChange diffMetricWrong)

/-- 'jotterlaw17.DiffEnds': WHATEVER THE INPUT: true; the input reads as it did. -/
def diffEndsSpec : ChangeSpec := { name := "diffEnds", fn := fun _ => fun
  | [d1, d2, d3] => { results := [.lit (.bool true)], args := [d1, d2, d3] }
  | _ => none }
def diffEndsRow : OpenClaim := { program := "ytjnciljimacblaa", sum := "9022d0e5c3e0fc7f73a985424aebfa0e9ccf1d0f0277c3320f4d86a9a26a7a3f", func := "jotter/jotterlaw17.DiffEnds", spec := "diffEnds", apart := false }
def DiffEndsSaid : Prop := diffEndsRow.holds Try.pinned (OpenSpec.ofChange diffEndsSpec)

/-- ITS FALSE NEIGHBOUR: 'it returns false'. Refute it at one input. -/
def diffEndsWrong : ChangeSpec := { name := "diffEnds", fn := fun _ => fun
  | [d1, d2, d3] => { results := [.lit (.bool false)], args := [d1, d2, d3] }
  | _ => none }
def DiffEndsWrongFalsely : Prop := diffEndsRow.holds Try.pinned (OpenSpec.ofChange diffEndsWrong)

/-- 'jotterlaw17.DiffCommon': WHATEVER THE INPUT: true; the input reads as it did. -/
def diffCommonSpec : ChangeSpec := { name := "diffCommon", fn := fun _ => fun
  | [d1, d2, d3] => { results := [.lit (.bool true)], args := [d1, d2, d3] }
  | _ => none }
def diffCommonRow : OpenClaim := { program := "ytjnciljimacblaa", sum := "9022d0e5c3e0fc7f73a985424aebfa0e9ccf1d0f0277c3320f4d86a9a26a7a3f", func := "jotter/jotterlaw17.DiffCommon", spec := "diffCommon", unfollowed := true, recurses := true, apart := false }
def DiffCommonSaid : Prop := diffCommonRow.holds Try.pinned (OpenSpec.ofChange diffCommonSpec)

/-- ITS FALSE NEIGHBOUR: 'it returns false'. Refute it at one input. -/
def diffCommonWrong : ChangeSpec := { name := "diffCommon", fn := fun _ => fun
  | [d1, d2, d3] => { results := [.lit (.bool false)], args := [d1, d2, d3] }
  | _ => none }
def DiffCommonWrongFalsely : Prop := diffCommonRow.holds Try.pinned (OpenSpec.ofChange diffCommonWrong)

/-- 'jotterlaw17.DiffFresh': WHATEVER THE INPUT: true; the input reads as it did. -/
def diffFreshSpec : ChangeSpec := { name := "diffFresh", fn := fun _ => fun
  | [d1, d2] => { results := [.lit (.bool true)], args := [d1, d2] }
  | _ => none }
def diffFreshRow : OpenClaim := { program := "ytjnciljimacblaa", sum := "9022d0e5c3e0fc7f73a985424aebfa0e9ccf1d0f0277c3320f4d86a9a26a7a3f", func := "jotter/jotterlaw17.DiffFresh", spec := "diffFresh", unfollowed := true, recurses := true, apart := false }
def DiffFreshSaid : Prop := diffFreshRow.holds Try.pinned (OpenSpec.ofChange diffFreshSpec)

/-- ITS FALSE NEIGHBOUR: 'it returns false'. Refute it at one input. -/
def diffFreshWrong : ChangeSpec := { name := "diffFresh", fn := fun _ => fun
  | [d1, d2] => { results := [.lit (.bool false)], args := [d1, d2] }
  | _ => none }
def DiffFreshWrongFalsely : Prop := diffFreshRow.holds Try.pinned (OpenSpec.ofChange diffFreshWrong)

/-- 'jotterlaw17.DiffPlays': WHATEVER THE INPUT: true; the input reads as it did. -/
def diffPlaysSpec : ChangeSpec := { name := "diffPlays", fn := fun _ => fun
  | [d1, d2, d3] => { results := [.lit (.bool true)], args := [d1, d2, d3] }
  | _ => none }
def diffPlaysRow : OpenClaim := { program := "ytjnciljimacblaa", sum := "9022d0e5c3e0fc7f73a985424aebfa0e9ccf1d0f0277c3320f4d86a9a26a7a3f", func := "jotter/jotterlaw17.DiffPlays", spec := "diffPlays", unfollowed := true, recurses := true, apart := false }
def DiffPlaysSaid : Prop := diffPlaysRow.holds Try.pinned (OpenSpec.ofChange diffPlaysSpec)

/-- ITS FALSE NEIGHBOUR: 'it returns false'. Refute it at one input. -/
def diffPlaysWrong : ChangeSpec := { name := "diffPlays", fn := fun _ => fun
  | [d1, d2, d3] => { results := [.lit (.bool false)], args := [d1, d2, d3] }
  | _ => none }
def DiffPlaysWrongFalsely : Prop := diffPlaysRow.holds Try.pinned (OpenSpec.ofChange diffPlaysWrong)

/-- 'jotterlaw17.DiffApart': WHATEVER THE INPUT: true; the input reads as it did. -/
def diffApartSpec : ChangeSpec := { name := "diffApart", fn := fun _ => fun
  | [d1, d2, d3] => { results := [.lit (.bool true)], args := [d1, d2, d3] }
  | _ => none }
def diffApartRow : OpenClaim := { program := "ytjnciljimacblaa", sum := "9022d0e5c3e0fc7f73a985424aebfa0e9ccf1d0f0277c3320f4d86a9a26a7a3f", func := "jotter/jotterlaw17.DiffApart", spec := "diffApart", unfollowed := true, recurses := true, apart := false }
def DiffApartSaid : Prop := diffApartRow.holds Try.pinned (OpenSpec.ofChange diffApartSpec)

/-- ITS FALSE NEIGHBOUR: 'it returns false'. Refute it at one input. -/
def diffApartWrong : ChangeSpec := { name := "diffApart", fn := fun _ => fun
  | [d1, d2, d3] => { results := [.lit (.bool false)], args := [d1, d2, d3] }
  | _ => none }
def DiffApartWrongFalsely : Prop := diffApartRow.holds Try.pinned (OpenSpec.ofChange diffApartWrong)

/-- 'jotterlaw17.DiffLeast': WHATEVER THE INPUT: true; the input reads as it did. -/
def diffLeastSpec : ChangeSpec := { name := "diffLeast", fn := fun _ => fun
  | [d1, d2] => { results := [.lit (.bool true)], args := [d1, d2] }
  | _ => none }
def diffLeastRow : OpenClaim := { program := "ytjnciljimacblaa", sum := "9022d0e5c3e0fc7f73a985424aebfa0e9ccf1d0f0277c3320f4d86a9a26a7a3f", func := "jotter/jotterlaw17.DiffLeast", spec := "diffLeast", apart := false }
def DiffLeastSaid : Prop := diffLeastRow.holds Try.pinned (OpenSpec.ofChange diffLeastSpec)

/-- ITS FALSE NEIGHBOUR: 'it returns false'. Refute it at one input. -/
def diffLeastWrong : ChangeSpec := { name := "diffLeast", fn := fun _ => fun
  | [d1, d2] => { results := [.lit (.bool false)], args := [d1, d2] }
  | _ => none }
def DiffLeastWrongFalsely : Prop := diffLeastRow.holds Try.pinned (OpenSpec.ofChange diffLeastWrong)

/-- 'jotterlaw17.DiffTurns': WHATEVER THE INPUT: true; the input reads as it did. -/
def diffTurnsSpec : ChangeSpec := { name := "diffTurns", fn := fun _ => fun
  | [d1, d2, d3] => { results := [.lit (.bool true)], args := [d1, d2, d3] }
  | _ => none }
def diffTurnsRow : OpenClaim := { program := "ytjnciljimacblaa", sum := "9022d0e5c3e0fc7f73a985424aebfa0e9ccf1d0f0277c3320f4d86a9a26a7a3f", func := "jotter/jotterlaw17.DiffTurns", spec := "diffTurns", unfollowed := true, recurses := true, apart := false }
def DiffTurnsSaid : Prop := diffTurnsRow.holds Try.pinned (OpenSpec.ofChange diffTurnsSpec)

/-- ITS FALSE NEIGHBOUR: 'it returns false'. Refute it at one input. -/
def diffTurnsWrong : ChangeSpec := { name := "diffTurns", fn := fun _ => fun
  | [d1, d2, d3] => { results := [.lit (.bool false)], args := [d1, d2, d3] }
  | _ => none }
def DiffTurnsWrongFalsely : Prop := diffTurnsRow.holds Try.pinned (OpenSpec.ofChange diffTurnsWrong)

/- THE SECOND FORM. 'bulk': how many values and letters a reading holds, each counted each time it is reached (what is shared counts as often as it is met; a slice's spare places count too). A statement '..UptoSaid' is the law's where the arguments, and the package variables that the reading takes, are together of bulk at most 1048576: NARROWER than '..Said'. Prove '..Said' where nothing that the law and all that it calls make is longer than what came in: it says more and counts as full. Else prove '..UptoSaid'. A law counts once. -/
mutual
def uptoBulk {H : Type} : DataW H → Nat
  | .lit (.string bytes) => bytes.length + 1
  | .lit _ => 1
  | .nil => 1
  | .ptr d => uptoBulk d + 1
  | .slice elems spare => uptoBulkAll elems + uptoBulkAll spare + 1
  | .agg parts => uptoBulkAll parts + 1
  | .iface _ d => uptoBulk d + 1
  | .map entries => uptoBulkEntries entries + 1
  | .held _ => 1
def uptoBulkAll {H : Type} : List (DataW H) → Nat
  | [] => 0
  | d :: r => uptoBulk d + uptoBulkAll r
def uptoBulkEntries {H : Type} : List (Lit × DataW H) → Nat
  | [] => 0
  | x :: r => uptoBulkEntry x + uptoBulkEntries r
def uptoBulkEntry {H : Type} : Lit × DataW H → Nat
  | (.string bytes, d) => bytes.length + uptoBulk d + 1
  | (_, d) => uptoBulk d + 1
 end
def uptoSmall : (H : Type) → List (DataW H) → Bool := fun _ ds => decide (uptoBulkAll ds ≤ 1048576)
def OpenSpec.upto (s : _root_.Go.ChangeSpec) : _root_.Go.OpenSpec := { _root_.Go.OpenSpec.ofChange s with cond := some uptoSmall }

/-- 'jotterlaw17.DiffMetric', WHERE WHAT IT READS IS OF BULK AT MOST 1048576: true; the input reads as it did. -/
def diffMetricUptoRow : OpenClaim := { program := "ytjnciljimacblaa", sum := "9022d0e5c3e0fc7f73a985424aebfa0e9ccf1d0f0277c3320f4d86a9a26a7a3f", func := "jotter/jotterlaw17.DiffMetric", spec := "diffMetric", apart := false, narrowed := true }
def DiffMetricUptoSaid : Prop := diffMetricUptoRow.holds Try.pinned (OpenSpec.upto diffMetricSpec)

/-- 'jotterlaw17.DiffEnds', WHERE WHAT IT READS IS OF BULK AT MOST 1048576: true; the input reads as it did. -/
def diffEndsUptoRow : OpenClaim := { program := "ytjnciljimacblaa", sum := "9022d0e5c3e0fc7f73a985424aebfa0e9ccf1d0f0277c3320f4d86a9a26a7a3f", func := "jotter/jotterlaw17.DiffEnds", spec := "diffEnds", apart := false, narrowed := true }
def DiffEndsUptoSaid : Prop := diffEndsUptoRow.holds Try.pinned (OpenSpec.upto diffEndsSpec)

/-- 'jotterlaw17.DiffCommon', WHERE WHAT IT READS IS OF BULK AT MOST 1048576: true; the input reads as it did. -/
def diffCommonUptoRow : OpenClaim := { program := "ytjnciljimacblaa", sum := "9022d0e5c3e0fc7f73a985424aebfa0e9ccf1d0f0277c3320f4d86a9a26a7a3f", func := "jotter/jotterlaw17.DiffCommon", spec := "diffCommon", unfollowed := true, recurses := true, apart := false, narrowed := true }
def DiffCommonUptoSaid : Prop := diffCommonUptoRow.holds Try.pinned (OpenSpec.upto diffCommonSpec)

/-- 'jotterlaw17.DiffFresh', WHERE WHAT IT READS IS OF BULK AT MOST 1048576: true; the input reads as it did. -/
def diffFreshUptoRow : OpenClaim := { program := "ytjnciljimacblaa", sum := "9022d0e5c3e0fc7f73a985424aebfa0e9ccf1d0f0277c3320f4d86a9a26a7a3f", func := "jotter/jotterlaw17.DiffFresh", spec := "diffFresh", unfollowed := true, recurses := true, apart := false, narrowed := true }
def DiffFreshUptoSaid : Prop := diffFreshUptoRow.holds Try.pinned (OpenSpec.upto diffFreshSpec)

/-- 'jotterlaw17.DiffPlays', WHERE WHAT IT READS IS OF BULK AT MOST 1048576: true; the input reads as it did. -/
def diffPlaysUptoRow : OpenClaim := { program := "ytjnciljimacblaa", sum := "9022d0e5c3e0fc7f73a985424aebfa0e9ccf1d0f0277c3320f4d86a9a26a7a3f", func := "jotter/jotterlaw17.DiffPlays", spec := "diffPlays", unfollowed := true, recurses := true, apart := false, narrowed := true }
def DiffPlaysUptoSaid : Prop := diffPlaysUptoRow.holds Try.pinned (OpenSpec.upto diffPlaysSpec)

/-- 'jotterlaw17.DiffApart', WHERE WHAT IT READS IS OF BULK AT MOST 1048576: true; the input reads as it did. -/
def diffApartUptoRow : OpenClaim := { program := "ytjnciljimacblaa", sum := "9022d0e5c3e0fc7f73a985424aebfa0e9ccf1d0f0277c3320f4d86a9a26a7a3f", func := "jotter/jotterlaw17.DiffApart", spec := "diffApart", unfollowed := true, recurses := true, apart := false, narrowed := true }
def DiffApartUptoSaid : Prop := diffApartUptoRow.holds Try.pinned (OpenSpec.upto diffApartSpec)

/-- 'jotterlaw17.DiffLeast', WHERE WHAT IT READS IS OF BULK AT MOST 1048576: true; the input reads as it did. -/
def diffLeastUptoRow : OpenClaim := { program := "ytjnciljimacblaa", sum := "9022d0e5c3e0fc7f73a985424aebfa0e9ccf1d0f0277c3320f4d86a9a26a7a3f", func := "jotter/jotterlaw17.DiffLeast", spec := "diffLeast", apart := false, narrowed := true }
def DiffLeastUptoSaid : Prop := diffLeastUptoRow.holds Try.pinned (OpenSpec.upto diffLeastSpec)

/-- 'jotterlaw17.DiffTurns', WHERE WHAT IT READS IS OF BULK AT MOST 1048576: true; the input reads as it did. -/
def diffTurnsUptoRow : OpenClaim := { program := "ytjnciljimacblaa", sum := "9022d0e5c3e0fc7f73a985424aebfa0e9ccf1d0f0277c3320f4d86a9a26a7a3f", func := "jotter/jotterlaw17.DiffTurns", spec := "diffTurns", unfollowed := true, recurses := true, apart := false, narrowed := true }
def DiffTurnsUptoSaid : Prop := diffTurnsUptoRow.holds Try.pinned (OpenSpec.upto diffTurnsSpec)

end Rows
end Go.Proofs.Ytjnciljimacblaa
