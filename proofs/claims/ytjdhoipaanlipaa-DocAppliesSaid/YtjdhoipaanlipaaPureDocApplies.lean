/- DocApplies, as a plain law: operation by operation, the program's text and error are the reference's. -/
import Derived.Test.YtjdhoipaanlipaaPSame
import Derived.Test.YtjdhoipaanlipaaPApply
import Derived.Test.YtjdhoipaanlipaaQx22
import Derived.Test.YtjdhoipaanlipaaOpenT
namespace Go.Proofs.Ytjdhoipaanlipaa.Pure
set_option linter.unusedVariables false
open Go.RowKit Go.Proofs.Ytjdhoipaanlipaa.Q Go.Proofs.Ytjdhoipaanlipaa.P Go.Proofs.Ytjdhoipaanlipaa.OpenS Go.Proofs.YtjdhoipaanlipaaW.PrintWords
theorem applies_l0 (ops : List S30) (hlen : ops.length ≤ 300) (ho : ∀ o ∈ ops, OpOk o) (n : Nat) : ∀ (i : Nat) (q : List S24), q.length ≤ 5864062014634 → i + n = ops.length →
    Ev (fun k => jotterlaw04_DocApplies.l0 k ops q q i) true := by
  induction n with
  | zero =>
    intro i q hq hi
    refine Ev.step (fun k => by rw [jotterlaw04_DocApplies.l0]) ?_
    refine Ev.neg (by omega) (Ev.bind (docApply q ⟨0, 0, 0, 1, 1⟩ ⟨by decide, by decide⟩) (Ev.bind (refApply q ⟨0, 0, 0, 1, 1⟩) (Ev.pos rfl ?_)))
    by_cases h : fitsS q.length ⟨0, 0, 0, 1, 1⟩ = 0
    · rw [apply_ok h]
      exact Ev.pos rfl (Ev.bind (sameSelf q hq) (Ev.now _))
    · rw [apply_err h]
      exact Ev.neg h (Ev.now _)
  | succ n ih =>
    intro i q hq hi
    have hop : OpOk (rd_T30 ops (i : Int)) := by
      rw [rd30, getD_at _ _ _ (by omega)]
      exact ho _ (List.getElem_mem _)
    refine Ev.step (fun k => by rw [jotterlaw04_DocApplies.l0]) ?_
    have hl := apply_length q (rd_T30 ops (i : Int))
    refine Ev.pos (by omega) (Ev.pos (by omega) (Ev.bind (refApply q _) (Ev.bind (docApply q _ hop.f2) (Ev.pos rfl (Ev.bind (sameSelf _ (by omega)) (Ev.step (fun k => by rw [jotterlaw04_DocApplies.j1]) (Ev.neg (by simp) ?_)))))))
    rw [wrap_in (by omega) (by omega)]
    by_cases h : (applyS q (rd_T30 ops (i : Int))).2 = 0
    · exact Ev.pos h (ih (i + 1) _ (by omega) (by omega))
    · exact Ev.neg h (ih (i + 1) q hq (by omega))
theorem DocApplies (d : List S24) (ops : List S30) (hd : d.length ≤ 5864062014634) (ho : ∀ o ∈ ops, OpOk o) : ∃ k, jotterlaw04_DocApplies.f k d ops = some true := by
  refine Ev.rounds (g := fun k => jotterlaw04_DocApplies.f k d ops) ?_
  unfold jotterlaw04_DocApplies.f
  refine Ev.bind (Ev.const (shortS ops)) (Ev.bind (twinS d hd) ?_)
  exact applies_l0 (ops.take 300) (by rw [List.length_take]; omega) (fun o h => ho o (List.mem_of_mem_take h)) (ops.take 300).length 0 d hd (by omega)
end Go.Proofs.Ytjdhoipaanlipaa.Pure
