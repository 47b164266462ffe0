/- DocLooks, as a plain law: the three looks are the reference's. -/
import Derived.Test.YtjdhoipaanlipaaPLooks
import Derived.Test.YtjdhoipaanlipaaQx8
namespace Go.Proofs.Ytjdhoipaanlipaa.Pure
set_option linter.unusedVariables false
open Go.RowKit Go.Proofs.Ytjdhoipaanlipaa.Q Go.Proofs.Ytjdhoipaanlipaa.P Go.Proofs.YtjdhoipaanlipaaW.PrintWords
theorem DocLooks (a b : List S24) (x : S24) (ha : a.length ≤ 5864062014634) (hb : b.length ≤ 5864062014634) : ∃ k, jotterlaw04_DocLooks.f k a b x.f0 x.f1 x.f2 = some true := by
  refine Ev.rounds (g := fun k => jotterlaw04_DocLooks.f k a b x.f0 x.f1 x.f2) ?_
  unfold jotterlaw04_DocLooks.f
  refine Ev.bind (refText a ha) (Ev.bind (refFind a ha _ _) (Ev.bind (refEqual a b ha) (Ev.bind (docText a ha) (Ev.bind (docFind a ha _ _) (Ev.bind (docEqual a b ha) (Ev.bind (docEqual a a ha) (Ev.pos rfl (Ev.pos rfl (Ev.pos (by simp) ?_)))))))))
  exact Ev.const (by simp)
end Go.Proofs.Ytjdhoipaanlipaa.Pure
