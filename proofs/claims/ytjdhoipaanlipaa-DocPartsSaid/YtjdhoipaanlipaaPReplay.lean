/- Replay, the program's and the reference's. -/
import Derived.Test.YtjdhoipaanlipaaPApply
import Derived.Test.YtjdhoipaanlipaaQx27
namespace Go.Proofs.Ytjdhoipaanlipaa.P
set_option linter.unusedVariables false
set_option linter.unusedSimpArgs false
open Go.RowKit Go.Proofs.Ytjdhoipaanlipaa.Q Go.Proofs.YtjdhoipaanlipaaW.PrintWords
/-- Replay from the text d on, i operations having been applied. -/
def replayS : List S24 → List S30 → Int → List S24 × Int × Int
  | d, [], i => (d, i, 0)
  | d, o :: os, i => if (applyS d o).2 = 0 then replayS (applyS d o).1 os (i + 1) else (d, i, (applyS d o).2)
theorem docReplay_l0 (ops : List S30) (hlen : ops.length ≤ 9223372036854775806) (ho : ∀ o ∈ ops, 0 ≤ o.f2 ∧ o.f2 ≤ 255) (n : Nat) : ∀ (i : Nat) (q : List S24), i + n = ops.length →
    Ev (fun k => doc_Replay.l0 k ops q ops ops.length i) (replayS q (ops.drop i) i) := by
  induction n with
  | zero =>
    intro i q hi
    refine Ev.from_ 1 fun k => ?_
    simp only [doc_Replay.l0]
    rw [if_neg (by omega), List.drop_of_length_le (by omega)]
    unfold replayS
    rw [show (i : Int) = ops.length by omega]
  | succ n ih =>
    intro i q hi
    have hop : 0 ≤ (rd_T30 ops (i : Int)).f2 ∧ (rd_T30 ops (i : Int)).f2 ≤ 255 := by
      rw [rd30, getD_at _ _ _ (by omega)]
      exact ho _ (List.getElem_mem _)
    refine Ev.step (fun k => by rw [doc_Replay.l0]) ?_
    refine Ev.pos (by omega) (Ev.pos (by omega) (Ev.pos (by omega) (Ev.bind (docApply q _ hop) ?_)))
    rw [wrap_in (by omega) (by omega), drop_getD z30 ops i (by omega)]
    unfold replayS
    rw [← rd30]
    by_cases h : (applyS q (rd_T30 ops (i : Int))).2 = 0
    · rw [if_pos h]
      exact Ev.pos h (ih (i + 1) _ (by omega))
    · rw [if_neg h]
      exact Ev.neg h (Ev.now _)
theorem docReplay (ops : List S30) (hlen : ops.length ≤ 9223372036854775806) (ho : ∀ o ∈ ops, 0 ≤ o.f2 ∧ o.f2 ≤ 255) : Ev (fun k => doc_Replay.f k ops) (replayS [] ops 0) :=
  docReplay_l0 ops hlen ho ops.length 0 [] (by omega)
/-- The text is never long. -/
theorem replay_length (ops : List S30) : ∀ (d : List S24) (i : Int), d.length ≤ 4096 → (replayS d ops i).1.length ≤ 4096 := by
  induction ops with
  | nil => intro d i h; exact h
  | cons o os ih =>
    intro d i h
    unfold replayS
    by_cases e : (applyS d o).2 = 0
    · rw [if_pos e]; exact ih _ _ (apply_length d o)
    · rw [if_neg e]; exact h
end Go.Proofs.Ytjdhoipaanlipaa.P
