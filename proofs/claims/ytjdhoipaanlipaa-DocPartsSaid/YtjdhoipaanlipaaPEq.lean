/- Equal, the program's and the reference's: the lists are one. -/
import Derived.Test.YtjdhoipaanlipaaPA
import Derived.Test.YtjdhoipaanlipaaQx4
import Derived.Test.YtjdhoipaanlipaaQx7
namespace Go.Proofs.Ytjdhoipaanlipaa.P
set_option linter.unusedVariables false
set_option linter.unusedSimpArgs false
open Go.RowKit Go.Proofs.Ytjdhoipaanlipaa.Q Go.Proofs.YtjdhoipaanlipaaW.PrintWords
theorem S24_ext {a b : S24} : a = b ↔ a.f0 = b.f0 ∧ a.f1 = b.f1 ∧ a.f2 = b.f2 := by
  cases a; cases b; simp
theorem refEqual_l0 (a b : List S24) (hl : a.length ≤ 5864062014634) (hab : a.length = b.length) (d : Nat) : ∀ i : Nat, i + d = a.length →
    Ev (fun k => jotterref04_Equal.l0 k a b i) (decide (a.drop i = b.drop i)) := by
  induction d with
  | zero =>
    intro i hi
    refine Ev.from_ 1 fun k => ?_
    simp only [jotterref04_Equal.l0]
    rw [if_neg (by omega), List.drop_of_length_le (by omega), List.drop_of_length_le (by omega)]
    simp
  | succ d ih =>
    intro i hi
    refine Ev.step (fun k => by rw [jotterref04_Equal.l0]) ?_
    refine Ev.pos (by omega) (Ev.pos (by omega) (Ev.pos (by omega) ?_))
    rw [drop_getD z24 a i (by omega), drop_getD z24 b i (by omega), rd24, rd24, wrap_in (by omega) (by omega)]
    have := ih (i + 1) (by omega)
    have e : decide (a.getD i z24 :: a.drop (i + 1) = b.getD i z24 :: b.drop (i + 1)) = (decide (a.getD i z24 = b.getD i z24) && decide (a.drop (i + 1) = b.drop (i + 1))) := by
      rw [Bool.eq_iff_iff]; simp
    rw [e]
    by_cases h0 : (a.getD i z24).f0 = (b.getD i z24).f0
    · refine Ev.pos h0 ?_
      by_cases h1 : (a.getD i z24).f1 = (b.getD i z24).f1
      · refine Ev.pos h1 ?_
        by_cases h2 : (a.getD i z24).f2 = (b.getD i z24).f2
        · refine Ev.pos h2 ?_
          rw [decide_eq_true (S24_ext.2 ⟨h0, h1, h2⟩), Bool.true_and]
          exact this
        · refine Ev.neg h2 ?_
          rw [decide_eq_false (fun h => h2 (S24_ext.1 h).2.2), Bool.false_and]
          exact Ev.now _
      · refine Ev.neg h1 ?_
        rw [decide_eq_false (fun h => h1 (S24_ext.1 h).2.1), Bool.false_and]
        exact Ev.now _
    · refine Ev.neg h0 ?_
      rw [decide_eq_false (fun h => h0 (S24_ext.1 h).1), Bool.false_and]
      exact Ev.now _
theorem refEqual (a b : List S24) (hl : a.length ≤ 5864062014634) : Ev (fun k => jotterref04_Equal.f k a b) (decide (a = b)) := by
  unfold jotterref04_Equal.f
  by_cases h : a.length = b.length
  · refine Ev.pos (by omega) ?_
    exact refEqual_l0 a b hl h a.length 0 (by simp)
  · refine Ev.neg (by omega) ?_
    rw [decide_eq_false (fun e => h (by rw [e]))]
    exact Ev.now _
theorem docEqual_l0 (a b : List S24) (hl : a.length ≤ 5864062014634) (hab : a.length = b.length) (d : Nat) : ∀ i : Nat, i + d = a.length →
    Ev (fun k => doc_Equal.l0 k a b a.length i) (decide (a.drop i = b.drop i)) := by
  induction d with
  | zero =>
    intro i hi
    refine Ev.from_ 1 fun k => ?_
    simp only [doc_Equal.l0]
    rw [if_neg (by omega), List.drop_of_length_le (by omega), List.drop_of_length_le (by omega)]
    simp
  | succ d ih =>
    intro i hi
    refine Ev.step (fun k => by rw [doc_Equal.l0]) ?_
    refine Ev.pos (by omega) (Ev.pos (by omega) (Ev.pos (by omega) (Ev.pos (by omega) ?_)))
    rw [drop_getD z24 a i (by omega), drop_getD z24 b i (by omega), rd24, rd24, wrap_in (by omega) (by omega)]
    have := ih (i + 1) (by omega)
    have e : decide (a.getD i z24 :: a.drop (i + 1) = b.getD i z24 :: b.drop (i + 1)) = (decide (a.getD i z24 = b.getD i z24) && decide (a.drop (i + 1) = b.drop (i + 1))) := by
      rw [Bool.eq_iff_iff]; simp
    rw [e]
    by_cases h : a.getD i z24 = b.getD i z24
    · refine Ev.neg (by rw [h]; simp) ?_
      rw [decide_eq_true h, Bool.true_and]
      exact this
    · refine Ev.pos ?_ ?_
      · rw [S24_ext] at h
        simp only [Bool.or_eq_true, Bool.not_eq_true', beq_eq_false_iff_ne, ne_eq]
        by_cases g0 : (a.getD i z24).f0 = (b.getD i z24).f0
        · by_cases g1 : (a.getD i z24).f1 = (b.getD i z24).f1
          · exact .inr (.inr (fun g2 => h ⟨g0, g1, g2⟩))
          · exact .inr (.inl g1)
        · exact .inl g0
      · rw [decide_eq_false h, Bool.false_and]
        exact Ev.now _
theorem docEqual (a b : List S24) (hl : a.length ≤ 5864062014634) : Ev (fun k => doc_Equal.f k a b) (decide (a = b)) := by
  unfold doc_Equal.f
  by_cases h : a.length = b.length
  · refine Ev.pos (by omega) ?_
    exact docEqual_l0 a b hl h a.length 0 (by simp)
  · refine Ev.neg (by omega) ?_
    rw [decide_eq_false (fun e => h (by rw [e]))]
    exact Ev.now _
end Go.Proofs.Ytjdhoipaanlipaa.P
