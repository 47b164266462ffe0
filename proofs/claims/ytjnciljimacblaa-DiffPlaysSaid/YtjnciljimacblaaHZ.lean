/- diff: the table of the lengths: its zero value. Condition: none. -/
import Derived.Test.YtjnciljimacblaaHA
namespace Go.Proofs.Ytjnciljimacblaa.Q
open Go.RowKit Go.Proofs.YtjnciljimacblaaW.PrintWords Go.Proofs.YtjnciljimacblaaW.PrintLast Go.Proofs.YtjnciljimacblaaW.PrintMore
set_option linter.unusedVariables false
set_option linter.unusedSimpArgs false
def zR (n : Nat) : List Value := List.replicate n (.int .i16 0)
theorem zR_app (m n : Nat) : List.append (zR m) (zR n) = zR (m + n) := (List.replicate_append_replicate).trans rfl
theorem zR_nil : ([] : List Value) = zR 0 := rfl
theorem zR_cons (n : Nat) : Value.int .i16 0 :: zR n = zR (n + 1) := rfl
set_option maxRecDepth 1000000 in
set_option maxHeartbeats 4000000 in
theorem zero87 : Try.t87.zero = some (.agg (zR 263169).toArray) := by
  unfold Try.t87
  simp only [zR_nil, zR_cons, zR_app, Nat.reduceAdd]
end Go.Proofs.Ytjnciljimacblaa.Q
