/-
  No cell of these rows narrows 'for every input' (looked for: loops, veiled, ifaces, maps, wideKeys, modest, calm, conditions, laid).
  DERIVED. THE GIVEN ROWS OF THIS SEAT. 9 by the template 'for every input the law returns true; each argument reads behind the call as it read before'; 0 by the template 'total and deterministic' (their statements: YtjdhoipaanlipaaTotals.lean).
  GIVEN WITH THE SEED: the statements are not yours to turn. If you find one false, say at which input.
  Laid BY PROGRAM, IN A SANDBOX (cutbox-rows.mjs): the forced cells as the released guide's own fill.sh prints them over the translation 8248679afca8edf2… (all of the seat's roots in one cut). By AI agents, Wed Nov 11 2026. No macro, syntax, notation, axiom, sorry.
-/
import Derived.Test.YtjdhoipaanlipaaChecked
import GoSem.Claim
import GoSem.ClaimJoined
import GoSem.ClaimMapViews
import Derived.JoinedTies
import Derived.KernelRfl
namespace Go.Proofs.Ytjdhoipaanlipaa
/- THE CELL 'sum', in the pinned program and in every row, IS THE sha256 OF THE DUMP (.gsa) THAT YtjdhoipaanlipaaProg.lean LOADS. Nothing in Lean hashes anything: it is a label: what it is worth is what the hold of that sum in a sandbox is worth. -/
noncomputable def Try.pinned : Pinned := { name := "ytjdhoipaanlipaa", sum := "8248679afca8edf24d1ea790862c1706c2075177479aacc5bc74cb9ab40834dc", checked := Try.checked }
namespace Rows
def none {H : Type} : Left H := { results := [], args := [] }

/-- 'jotterlaw04.DocLooks': WHATEVER THE INPUT: true; the input reads as it did. -/
def docLooksSpec : ChangeSpec := { name := "docLooks", fn := fun _ => fun
  | [d1, d2, d3] => { results := [.lit (.bool true)], args := [d1, d2, d3] }
  | _ => none }
def docLooksRow : OpenClaim := { program := "ytjdhoipaanlipaa", sum := "8248679afca8edf24d1ea790862c1706c2075177479aacc5bc74cb9ab40834dc", func := "jotter/jotterlaw04.DocLooks", spec := "docLooks", apart := false }
def DocLooksSaid : Prop := docLooksRow.holds Try.pinned (OpenSpec.ofChange docLooksSpec)

/-- ITS FALSE NEIGHBOUR: 'it returns false'. Refute it at one input. -/
def docLooksWrong : ChangeSpec := { name := "docLooks", fn := fun _ => fun
  | [d1, d2, d3] => { results := [.lit (.bool false)], args := [d1, d2, d3] }
  | _ => none }
def DocLooksWrongFalsely : Prop := docLooksRow.holds Try.pinned (OpenSpec.ofChange docLooksWrong)

/-- 'jotterlaw04.DocFits': WHATEVER THE INPUT: true; the input reads as it did. -/
def docFitsSpec : ChangeSpec := { name := "docFits", fn := fun _ => fun
  | [d1, d2] => { results := [.lit (.bool true)], args := [d1, d2] }
  | _ => none }
def docFitsRow : OpenClaim := { program := "ytjdhoipaanlipaa", sum := "8248679afca8edf24d1ea790862c1706c2075177479aacc5bc74cb9ab40834dc", func := "jotter/jotterlaw04.DocFits", spec := "docFits", apart := false }
def DocFitsSaid : Prop := docFitsRow.holds Try.pinned (OpenSpec.ofChange docFitsSpec)

/-- ITS FALSE NEIGHBOUR: 'it returns false'. Refute it at one input. -/
def docFitsWrong : ChangeSpec := { name := "docFits", fn := fun _ => fun
  | [d1, d2] => { results := [.lit (.bool false)], args := [d1, d2] }
  | _ => none }
def DocFitsWrongFalsely : Prop := docFitsRow.holds Try.pinned (OpenSpec.ofChange docFitsWrong)

/-- 'jotterlaw04.DocApplies': WHATEVER THE INPUT: true; the input reads as it did. -/
def docAppliesSpec : ChangeSpec := { name := "docApplies", fn := fun _ => fun
  | [d1, d2] => { results := [.lit (.bool true)], args := [d1, d2] }
  | _ => none }
def docAppliesRow : OpenClaim := { program := "ytjdhoipaanlipaa", sum := "8248679afca8edf24d1ea790862c1706c2075177479aacc5bc74cb9ab40834dc", func := "jotter/jotterlaw04.DocApplies", spec := "docApplies", apart := false }
def DocAppliesSaid : Prop := docAppliesRow.holds Try.pinned (OpenSpec.ofChange docAppliesSpec)

/-- ITS FALSE NEIGHBOUR: 'it returns false'. Refute it at one input. -/
def docAppliesWrong : ChangeSpec := { name := "docApplies", fn := fun _ => fun
  | [d1, d2] => { results := [.lit (.bool false)], args := [d1, d2] }
  | _ => none }
def DocAppliesWrongFalsely : Prop := docAppliesRow.holds Try.pinned (OpenSpec.ofChange docAppliesWrong)

/-- 'jotterlaw04.DocUndo': WHATEVER THE INPUT: true; the input reads as it did. -/
def docUndoSpec : ChangeSpec := { name := "docUndo", fn := fun _ => fun
  | [d1, d2, d3] => { results := [.lit (.bool true)], args := [d1, d2, d3] }
  | _ => none }
def docUndoRow : OpenClaim := { program := "ytjdhoipaanlipaa", sum := "8248679afca8edf24d1ea790862c1706c2075177479aacc5bc74cb9ab40834dc", func := "jotter/jotterlaw04.DocUndo", spec := "docUndo", apart := false }
def DocUndoSaid : Prop := docUndoRow.holds Try.pinned (OpenSpec.ofChange docUndoSpec)

/-- ITS FALSE NEIGHBOUR: 'it returns false'. Refute it at one input. -/
def docUndoWrong : ChangeSpec := { name := "docUndo", fn := fun _ => fun
  | [d1, d2, d3] => { results := [.lit (.bool false)], args := [d1, d2, d3] }
  | _ => none }
def DocUndoWrongFalsely : Prop := docUndoRow.holds Try.pinned (OpenSpec.ofChange docUndoWrong)

/-- 'jotterlaw04.DocFull': WHATEVER THE INPUT: true; the input reads as it did. -/
def docFullSpec : ChangeSpec := { name := "docFull", fn := fun _ => fun
  | [d1, d2] => { results := [.lit (.bool true)], args := [d1, d2] }
  | _ => none }
def docFullRow : OpenClaim := { program := "ytjdhoipaanlipaa", sum := "8248679afca8edf24d1ea790862c1706c2075177479aacc5bc74cb9ab40834dc", func := "jotter/jotterlaw04.DocFull", spec := "docFull", apart := false }
def DocFullSaid : Prop := docFullRow.holds Try.pinned (OpenSpec.ofChange docFullSpec)

/-- ITS FALSE NEIGHBOUR: 'it returns false'. Refute it at one input. -/
def docFullWrong : ChangeSpec := { name := "docFull", fn := fun _ => fun
  | [d1, d2] => { results := [.lit (.bool false)], args := [d1, d2] }
  | _ => none }
def DocFullWrongFalsely : Prop := docFullRow.holds Try.pinned (OpenSpec.ofChange docFullWrong)

/-- 'jotterlaw04.DocReplays': WHATEVER THE INPUT: true; the input reads as it did. -/
def docReplaysSpec : ChangeSpec := { name := "docReplays", fn := fun _ => fun
  | [d] => { results := [.lit (.bool true)], args := [d] }
  | _ => none }
def docReplaysRow : OpenClaim := { program := "ytjdhoipaanlipaa", sum := "8248679afca8edf24d1ea790862c1706c2075177479aacc5bc74cb9ab40834dc", func := "jotter/jotterlaw04.DocReplays", spec := "docReplays", apart := false }
def DocReplaysSaid : Prop := docReplaysRow.holds Try.pinned (OpenSpec.ofChange docReplaysSpec)

/-- ITS FALSE NEIGHBOUR: 'it returns false'. Refute it at one input. -/
def docReplaysWrong : ChangeSpec := { name := "docReplays", fn := fun _ => fun
  | [d] => { results := [.lit (.bool false)], args := [d] }
  | _ => none }
def DocReplaysWrongFalsely : Prop := docReplaysRow.holds Try.pinned (OpenSpec.ofChange docReplaysWrong)

/-- 'jotterlaw04.DocParts': WHATEVER THE INPUT: true; the input reads as it did. -/
def docPartsSpec : ChangeSpec := { name := "docParts", fn := fun _ => fun
  | [d1, d2] => { results := [.lit (.bool true)], args := [d1, d2] }
  | _ => none }
def docPartsRow : OpenClaim := { program := "ytjdhoipaanlipaa", sum := "8248679afca8edf24d1ea790862c1706c2075177479aacc5bc74cb9ab40834dc", func := "jotter/jotterlaw04.DocParts", spec := "docParts", apart := false }
def DocPartsSaid : Prop := docPartsRow.holds Try.pinned (OpenSpec.ofChange docPartsSpec)

/-- ITS FALSE NEIGHBOUR: 'it returns false'. Refute it at one input. -/
def docPartsWrong : ChangeSpec := { name := "docParts", fn := fun _ => fun
  | [d1, d2] => { results := [.lit (.bool false)], args := [d1, d2] }
  | _ => none }
def DocPartsWrongFalsely : Prop := docPartsRow.holds Try.pinned (OpenSpec.ofChange docPartsWrong)

/-- 'jotterlaw04.DocLine': WHATEVER THE INPUT: true; the input reads as it did. -/
def docLineSpec : ChangeSpec := { name := "docLine", fn := fun _ => fun
  | [d] => { results := [.lit (.bool true)], args := [d] }
  | _ => none }
def docLineRow : OpenClaim := { program := "ytjdhoipaanlipaa", sum := "8248679afca8edf24d1ea790862c1706c2075177479aacc5bc74cb9ab40834dc", func := "jotter/jotterlaw04.DocLine", spec := "docLine", apart := false }
def DocLineSaid : Prop := docLineRow.holds Try.pinned (OpenSpec.ofChange docLineSpec)

/-- ITS FALSE NEIGHBOUR: 'it returns false'. Refute it at one input. -/
def docLineWrong : ChangeSpec := { name := "docLine", fn := fun _ => fun
  | [d] => { results := [.lit (.bool false)], args := [d] }
  | _ => none }
def DocLineWrongFalsely : Prop := docLineRow.holds Try.pinned (OpenSpec.ofChange docLineWrong)

/-- 'jotterlaw04.DocFresh': WHATEVER THE INPUT: true; the input reads as it did. -/
def docFreshSpec : ChangeSpec := { name := "docFresh", fn := fun _ => fun
  | [d1, d2] => { results := [.lit (.bool true)], args := [d1, d2] }
  | _ => none }
def docFreshRow : OpenClaim := { program := "ytjdhoipaanlipaa", sum := "8248679afca8edf24d1ea790862c1706c2075177479aacc5bc74cb9ab40834dc", func := "jotter/jotterlaw04.DocFresh", spec := "docFresh", apart := false }
def DocFreshSaid : Prop := docFreshRow.holds Try.pinned (OpenSpec.ofChange docFreshSpec)

/-- ITS FALSE NEIGHBOUR: 'it returns false'. Refute it at one input. -/
def docFreshWrong : ChangeSpec := { name := "docFresh", fn := fun _ => fun
  | [d1, d2] => { results := [.lit (.bool false)], args := [d1, d2] }
  | _ => none }
def DocFreshWrongFalsely : Prop := docFreshRow.holds Try.pinned (OpenSpec.ofChange docFreshWrong)

/- THE SECOND FORM. 'bulk': how many values and letters a reading holds, each counted each time it is reached (what is shared counts as often as it is met; a slice's spare places count too). A statement '..UptoSaid' is the law's where the arguments, and the package variables that the reading takes, are together of bulk at most 1048576: NARROWER than '..Said'. Prove '..Said' where nothing that the law and all that it calls make is longer than what came in: it says more and counts as full. Else prove '..UptoSaid'. A law counts once. -/
mutual
def uptoBulk {H : Type} : DataW H → Nat
  | .lit (.string bytes) => bytes.length + 1
  | .lit _ => 1
  | .nil => 1
  | .ptr d => uptoBulk d + 1
  | .slice elems spare => uptoBulkAll elems + uptoBulkAll spare + 1
  | .agg parts => uptoBulkAll parts + 1
  | .iface _ d => uptoBulk d + 1
  | .map entries => uptoBulkEntries entries + 1
  | .held _ => 1
def uptoBulkAll {H : Type} : List (DataW H) → Nat
  | [] => 0
  | d :: r => uptoBulk d + uptoBulkAll r
def uptoBulkEntries {H : Type} : List (Lit × DataW H) → Nat
  | [] => 0
  | x :: r => uptoBulkEntry x + uptoBulkEntries r
def uptoBulkEntry {H : Type} : Lit × DataW H → Nat
  | (.string bytes, d) => bytes.length + uptoBulk d + 1
  | (_, d) => uptoBulk d + 1
 end
def uptoSmall : (H : Type) → List (DataW H) → Bool := fun _ ds => decide (uptoBulkAll ds ≤ 1048576)
def OpenSpec.upto (s : _root_.Go.ChangeSpec) : _root_.Go.OpenSpec := { _root_.Go.OpenSpec.ofChange s with cond := some uptoSmall }

/-- 'jotterlaw04.DocLooks', WHERE WHAT IT READS IS OF BULK AT MOST 1048576: true; the input reads as it did. -/
def docLooksUptoRow : OpenClaim := { program := "ytjdhoipaanlipaa", sum := "8248679afca8edf24d1ea790862c1706c2075177479aacc5bc74cb9ab40834dc", func := "jotter/jotterlaw04.DocLooks", spec := "docLooks", apart := false, narrowed := true }
def DocLooksUptoSaid : Prop := docLooksUptoRow.holds Try.pinned (OpenSpec.upto docLooksSpec)

/-- 'jotterlaw04.DocFits', WHERE WHAT IT READS IS OF BULK AT MOST 1048576: true; the input reads as it did. -/
def docFitsUptoRow : OpenClaim := { program := "ytjdhoipaanlipaa", sum := "8248679afca8edf24d1ea790862c1706c2075177479aacc5bc74cb9ab40834dc", func := "jotter/jotterlaw04.DocFits", spec := "docFits", apart := false, narrowed := true }
def DocFitsUptoSaid : Prop := docFitsUptoRow.holds Try.pinned (OpenSpec.upto docFitsSpec)

/-- 'jotterlaw04.DocApplies', WHERE WHAT IT READS IS OF BULK AT MOST 1048576: true; the input reads as it did. -/
def docAppliesUptoRow : OpenClaim := { program := "ytjdhoipaanlipaa", sum := "8248679afca8edf24d1ea790862c1706c2075177479aacc5bc74cb9ab40834dc", func := "jotter/jotterlaw04.DocApplies", spec := "docApplies", apart := false, narrowed := true }
def DocAppliesUptoSaid : Prop := docAppliesUptoRow.holds Try.pinned (OpenSpec.upto docAppliesSpec)

/-- 'jotterlaw04.DocUndo', WHERE WHAT IT READS IS OF BULK AT MOST 1048576: true; the input reads as it did. -/
def docUndoUptoRow : OpenClaim := { program := "ytjdhoipaanlipaa", sum := "8248679afca8edf24d1ea790862c1706c2075177479aacc5bc74cb9ab40834dc", func := "jotter/jotterlaw04.DocUndo", spec := "docUndo", apart := false, narrowed := true }
def DocUndoUptoSaid : Prop := docUndoUptoRow.holds Try.pinned (OpenSpec.upto docUndoSpec)

/-- 'jotterlaw04.DocFull', WHERE WHAT IT READS IS OF BULK AT MOST 1048576: true; the input reads as it did. -/
def docFullUptoRow : OpenClaim := { program := "ytjdhoipaanlipaa", sum := "8248679afca8edf24d1ea790862c1706c2075177479aacc5bc74cb9ab40834dc", func := "jotter/jotterlaw04.DocFull", spec := "docFull", apart := false, narrowed := true }
def DocFullUptoSaid : Prop := docFullUptoRow.holds Try.pinned (OpenSpec.upto docFullSpec)

/-- 'jotterlaw04.DocReplays', WHERE WHAT IT READS IS OF BULK AT MOST 1048576: true; the input reads as it did. -/
def docReplaysUptoRow : OpenClaim := { program := "ytjdhoipaanlipaa", sum := "8248679afca8edf24d1ea790862c1706c2075177479aacc5bc74cb9ab40834dc", func := "jotter/jotterlaw04.DocReplays", spec := "docReplays", apart := false, narrowed := true }
def DocReplaysUptoSaid : Prop := docReplaysUptoRow.holds Try.pinned (OpenSpec.upto docReplaysSpec)

/-- 'jotterlaw04.DocParts', WHERE WHAT IT READS IS OF BULK AT MOST 1048576: true; the input reads as it did. -/
def docPartsUptoRow : OpenClaim := { program := "ytjdhoipaanlipaa", sum := "8248679afca8edf24d1ea790862c1706c2075177479aacc5bc74cb9ab40834dc", func := "jotter/jotterlaw04.DocParts", spec := "docParts", apart := false, narrowed := true }
def DocPartsUptoSaid : Prop := docPartsUptoRow.holds Try.pinned (OpenSpec.upto docPartsSpec)

/-- 'jotterlaw04.DocLine', WHERE WHAT IT READS IS OF BULK AT MOST 1048576: true; the input reads as it did. -/
def docLineUptoRow : OpenClaim := { program := "ytjdhoipaanlipaa", sum := "8248679afca8edf24d1ea790862c1706c2075177479aacc5bc74cb9ab40834dc", func := "jotter/jotterlaw04.DocLine", spec := "docLine", apart := false, narrowed := true }
def DocLineUptoSaid : Prop := docLineUptoRow.holds Try.pinned (OpenSpec.upto docLineSpec)

/-- 'jotterlaw04.DocFresh', WHERE WHAT IT READS IS OF BULK AT MOST 1048576: true; the input reads as it did. -/
def docFreshUptoRow : OpenClaim := { program := "ytjdhoipaanlipaa", sum := "8248679afca8edf24d1ea790862c1706c2075177479aacc5bc74cb9ab40834dc", func := "jotter/jotterlaw04.DocFresh", spec := "docFresh", apart := false, narrowed := true }
def DocFreshUptoSaid : Prop := docFreshUptoRow.holds Try.pinned (OpenSpec.upto docFreshSpec)

end Rows
end Go.Proofs.Ytjdhoipaanlipaa
