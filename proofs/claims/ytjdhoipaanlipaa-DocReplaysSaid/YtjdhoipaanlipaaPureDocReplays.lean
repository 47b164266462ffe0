/- DocReplays, as a plain law: Replay's text, number and error are the reference's. -/
import Derived.Test.YtjdhoipaanlipaaPReplay
import Derived.Test.YtjdhoipaanlipaaPSame
import Derived.Test.YtjdhoipaanlipaaQx26
import Derived.Test.YtjdhoipaanlipaaQx28
import Derived.Test.YtjdhoipaanlipaaOpenT
namespace Go.Proofs.Ytjdhoipaanlipaa.Pure
set_option linter.unusedVariables false
set_option linter.unusedSimpArgs false
open Go.RowKit Go.Proofs.Ytjdhoipaanlipaa.Q Go.Proofs.Ytjdhoipaanlipaa.P Go.Proofs.Ytjdhoipaanlipaa.OpenS Go.Proofs.YtjdhoipaanlipaaW.PrintWords
theorem refReplay_l0 (ops : List S30) (hlen : ops.length ≤ 300) (n : Nat) : ∀ (i : Nat) (q : List S24), i + n = ops.length →
    Ev (fun k => jotterref04_Replay.l0 k ops q i) (replayS q (ops.drop i) i) := by
  induction n with
  | zero =>
    intro i q hi
    refine Ev.from_ 1 fun k => ?_
    simp only [jotterref04_Replay.l0]
    rw [if_neg (by omega), List.drop_of_length_le (by omega)]
    unfold replayS
    rw [show (i : Int) = ops.length by omega]
  | succ n ih =>
    intro i q hi
    refine Ev.step (fun k => by rw [jotterref04_Replay.l0]) ?_
    refine Ev.pos (by omega) (Ev.pos (by omega) (Ev.bind (refApply q _) ?_))
    rw [wrap_in (by omega) (by omega), drop_getD z30 ops i (by omega)]
    unfold replayS
    rw [← rd30]
    by_cases h : (applyS q (rd_T30 ops (i : Int))).2 = 0
    · rw [if_pos h]
      exact Ev.pos h (ih (i + 1) _ (by omega))
    · rw [if_neg h]
      exact Ev.neg h (Ev.now _)
theorem DocReplays (ops : List S30) (ho : ∀ o ∈ ops, OpOk o) : ∃ k, jotterlaw04_DocReplays.f k ops = some true := by
  refine Ev.rounds (g := fun k => jotterlaw04_DocReplays.f k ops) ?_
  have hl : (ops.take 300).length ≤ 300 := by rw [List.length_take]; omega
  have hr := replay_length (ops.take 300) [] 0 (by simp)
  have h0 : Ev (fun k => jotterref04_Replay.f k (ops.take 300)) (replayS [] (ops.take 300) 0) := refReplay_l0 (ops.take 300) hl (ops.take 300).length 0 [] (by omega)
  unfold jotterlaw04_DocReplays.f
  refine Ev.bind (Ev.const (shortS ops)) (Ev.bind h0 (Ev.bind (docReplay (ops.take 300) (by omega) (fun o h => (ho o (List.mem_of_mem_take h)).f2)) (Ev.bind (sameSelf _ ?_) (Ev.pos rfl (Ev.pos rfl (Ev.const ?_))))))
  · omega
  · rw [beq_self_eq_true]
end Go.Proofs.Ytjdhoipaanlipaa.Pure
