/- Valid and Fits, the program's and the reference's: both are validS and fitsS. -/
import Derived.Test.YtjdhoipaanlipaaPA
import Derived.Test.YtjdhoipaanlipaaQx11
import Derived.Test.YtjdhoipaanlipaaQx13
namespace Go.Proofs.Ytjdhoipaanlipaa.P
set_option linter.unusedVariables false
set_option linter.unusedSimpArgs false
open Go.RowKit Go.Proofs.Ytjdhoipaanlipaa.Q Go.Proofs.YtjdhoipaanlipaaW.PrintWords
theorem within_tells (a lo hi : Int) : doc_within.f a lo hi = some (decide (lo ≤ a ∧ a ≤ hi)) := by
  unfold doc_within.f
  by_cases h : lo ≤ a
  · rw [if_pos h]; simp [h]
  · rw [if_neg h]; simp [h]
theorem refValid (o : S30) : Ev (fun k => jotterref04_Valid.f k o.f0 o.f1 o.f2 o.f3 o.f4) (validS o) := by
  refine Ev.from_ 5 fun k => ?_
  simp only [jotterref04_Valid.f, jotterref04_Valid.j0, jotterref04_Valid.j1, jotterref04_Valid.j2, jotterref04_Valid.j3, jotterref04_Valid.j4, validS]
  generalize o.f0 = a; generalize o.f1 = b; generalize o.f2 = c; generalize o.f3 = d; generalize o.f4 = e
  by_cases h1 : a < 0 ∨ 2 < a
  · rw [if_pos h1]
    by_cases g : a < 0 <;> simp [g] <;> omega
  · have g1 : ¬ a < 0 := by omega
    have g2 : ¬ a > 2 := by omega
    rw [if_neg h1]
    simp only [g1, g2, if_false, decide_false]
    by_cases h2 : d < 1 ∨ 64 < d ∨ e < 1 ∨ 64 < e
    · rw [if_pos h2]
      by_cases p1 : d < 1
      · simp [p1]
      · by_cases p2 : d > 64
        · simp [p1, p2]
        · by_cases p3 : e < 1
          · simp [p1, p2, p3]
          · have p4 : e > 64 := by omega
            simp [p1, p2, p3, p4]
    · rw [if_neg h2]
      have p1 : ¬ d < 1 := by omega
      have p2 : ¬ d > 64 := by omega
      have p3 : ¬ e < 1 := by omega
      have p4 : ¬ e > 64 := by omega
      simp only [p1, p2, p3, p4, if_false, decide_false, Bool.false_eq_true]
      by_cases h3 : a = 1
      · subst h3
        by_cases q1 : c < 32
        · simp [q1]
        · by_cases q2 : c > 126
          · simp [q1, q2]
          · have q2' : ¬ 126 < c := q2
            simp only [q1, q2, q2', if_false, decide_false, Bool.false_eq_true, if_true, true_and, not_true, ne_eq, false_and, or_false]
            simp
            by_cases r1 : b < 0
            · simp [r1]
            · by_cases r2 : b ≥ 4096
              · have r2' : 4096 ≤ b := r2
                simp [r1, r2']
              · have r2' : ¬ 4096 ≤ b := r2
                simp [r1, r2']
      · by_cases q : c = 0
        · subst q
          by_cases s : a = 0
          · subst s
            by_cases t : b = 0
            · subst t; simp
            · simp [t]
          · simp [h3, s]
            by_cases r1 : b < 0
            · simp [r1]
            · by_cases r2 : 4096 ≤ b
              · simp [r1, r2]
              · simp [r1, r2]
        · simp [h3, q]
theorem docValid (o : S30) (hc : 0 ≤ o.f2 ∧ o.f2 ≤ 255) : Ev (fun k => doc_Valid.f k o.f0 o.f1 o.f2 o.f3 o.f4) (validS o) := by
  refine Ev.from_ 2 fun k => ?_
  simp only [doc_Valid.f, doc_Valid.j0, doc_Valid.j1, within_tells, Option.bind_some, validS, wrap_in (n := o.f2) (by omega) (by omega)]
  generalize o.f0 = a; generalize o.f1 = b; generalize o.f2 = c; generalize o.f3 = d; generalize o.f4 = e
  by_cases h1 : a < 0 ∨ 2 < a
  · rw [if_pos h1, if_neg (by simp; omega)]
  · rw [if_neg h1, if_pos (by simp; omega)]
    by_cases h2 : d < 1 ∨ 64 < d ∨ e < 1 ∨ 64 < e
    · rw [if_pos h2]
      by_cases p : 1 ≤ d ∧ d ≤ 64
      · rw [if_pos (by simpa using p), if_pos (by simp; omega)]
      · rw [if_neg (by simpa using p), if_pos trivial]
    · rw [if_neg h2, if_pos (by simp; omega), if_neg (by simp; omega)]
      by_cases h3 : a = 1
      · rw [if_pos h3]
        by_cases q : 32 ≤ c ∧ c ≤ 126
        · rw [if_pos (by simpa using q), if_neg (show ¬ a = 0 by omega), if_neg (show ¬ ((a = 1 ∧ (c < 32 ∨ 126 < c)) ∨ (a ≠ 1 ∧ c ≠ 0)) by omega)]
          by_cases r : 0 ≤ b ∧ b ≤ 4095
          · rw [if_pos (by simpa using r), if_neg (by omega)]
          · rw [if_neg (by simpa using r), if_pos (by omega)]
        · rw [if_neg (by simpa using q), if_pos (by omega)]
      · rw [if_neg h3]
        by_cases q : c = 0
        · rw [if_pos q, if_neg (show ¬ ((a = 1 ∧ (c < 32 ∨ 126 < c)) ∨ (a ≠ 1 ∧ c ≠ 0)) by omega)]
          by_cases s : a = 0
          · rw [if_pos s]
            by_cases t : 0 ≤ b ∧ b ≤ 0
            · rw [if_pos (by simpa using t), if_neg (by omega)]
            · rw [if_neg (by simpa using t), if_pos (by omega)]
          · rw [if_neg s]
            by_cases r : 0 ≤ b ∧ b ≤ 4095
            · rw [if_pos (by simpa using r), if_neg (by omega)]
            · rw [if_neg (by simpa using r), if_pos (by omega)]
        · rw [if_neg q, if_pos (by omega)]
theorem refFits (n : Int) (o : S30) : Ev (fun k => jotterref04_Fits.f k n o.f0 o.f1 o.f2 o.f3 o.f4) (fitsS n o) := by
  unfold jotterref04_Fits.f
  refine Ev.bind (refValid o) ?_
  by_cases hv : validS o = 0
  · refine Ev.pos hv (Ev.from_ 1 fun k => ?_)
    simp only [jotterref04_Fits.j0, fitsS, hv]
    generalize o.f0 = a; generalize o.f1 = b; generalize o.f2 = c; generalize o.f3 = d; generalize o.f4 = e
    by_cases h1 : n < 0
    · simp [h1]
    · by_cases h2 : n > 4096
      · have h2' : 4096 < n := h2
        simp [h1, h2']
      · have h2' : ¬ 4096 < n := h2
        by_cases h3 : a = 1
        · subst h3
          by_cases h4 : n = 4096
          · simp [h4]
          · by_cases h5 : b > n
            · have h5' : n < b := h5
              simp [h1, h2', h4, h5']
            · have h5' : ¬ n < b := h5
              simp [h1, h2', h4, h5']
        · by_cases h4 : a = 2
          · subst h4
            by_cases h5 : n ≤ b
            · simp [h1, h2', h5]
            · simp [h1, h2', h5]
          · simp [h1, h2', h3, h4]
  · refine Ev.neg hv ?_
    have : fitsS n o = validS o := by unfold fitsS; rw [if_pos hv]
    rw [this]
    exact Ev.now _
theorem docFits (n : Int) (o : S30) (hc : 0 ≤ o.f2 ∧ o.f2 ≤ 255) : Ev (fun k => doc_Fits.f k n o.f0 o.f1 o.f2 o.f3 o.f4) (fitsS n o) := by
  unfold doc_Fits.f
  refine Ev.bind (docValid o hc) ?_
  by_cases hv : validS o = 0
  · refine Ev.pos hv (Ev.from_ 1 fun k => ?_)
    simp only [doc_Fits.j0, fitsS, hv, within_tells, Option.bind_some]
    generalize o.f0 = a; generalize o.f1 = b; generalize o.f2 = c; generalize o.f3 = d; generalize o.f4 = e
    by_cases h1 : n < 0
    · simp [h1]; omega
    · by_cases h2 : n > 4096
      · have h2' : 4096 < n := h2
        simp [h1, h2']; omega
      · have h2' : ¬ 4096 < n := h2
        have w : 0 ≤ n ∧ n ≤ 4096 := by omega
        by_cases h3 : a = 1
        · subst h3
          by_cases h4 : n = 4096
          · simp [h4]
          · by_cases h5 : b > n
            · have h5' : n < b := h5
              simp [w, h1, h2', h4, h5']
            · have h5' : ¬ n < b := h5
              simp [w, h1, h2', h4, h5']
        · by_cases h4 : a = 2
          · subst h4
            by_cases h5 : n ≤ b
            · simp [w, h1, h2', h5]
            · simp [w, h1, h2', h5]
          · simp [w, h1, h2', h3, h4]
  · refine Ev.neg hv ?_
    have : fitsS n o = validS o := by unfold fitsS; rw [if_pos hv]
    rw [this]
    exact Ev.now _
end Go.Proofs.Ytjdhoipaanlipaa.P
