/- DocFits, as a plain law: both errors are the reference's. -/
import Derived.Test.YtjdhoipaanlipaaPFits
import Derived.Test.YtjdhoipaanlipaaQx14
import Derived.Test.YtjdhoipaanlipaaOpenT
namespace Go.Proofs.Ytjdhoipaanlipaa.Pure
set_option linter.unusedVariables false
open Go.RowKit Go.Proofs.Ytjdhoipaanlipaa.Q Go.Proofs.Ytjdhoipaanlipaa.P Go.Proofs.Ytjdhoipaanlipaa.OpenS Go.Proofs.YtjdhoipaanlipaaW.PrintWords
theorem DocFits (n : Int) (o : S30) (h : OpOk o) : ∃ k, jotterlaw04_DocFits.f k n o.f0 o.f1 o.f2 o.f3 o.f4 = some true := by
  refine Ev.rounds (g := fun k => jotterlaw04_DocFits.f k n o.f0 o.f1 o.f2 o.f3 o.f4) ?_
  unfold jotterlaw04_DocFits.f
  refine Ev.bind (docValid o h.f2) (Ev.bind (docFits n o h.f2) (Ev.bind (refValid o) (Ev.pos rfl (Ev.bind (refFits n o) ?_))))
  rw [beq_self_eq_true]
  exact Ev.now _
end Go.Proofs.Ytjdhoipaanlipaa.Pure
