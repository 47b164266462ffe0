/- Text, Find and Equal, the program's and the reference's. -/
import Derived.Test.YtjdhoipaanlipaaPA
import Derived.Test.YtjdhoipaanlipaaQx2
import Derived.Test.YtjdhoipaanlipaaQx3
import Derived.Test.YtjdhoipaanlipaaQx5
import Derived.Test.YtjdhoipaanlipaaQx6
import Derived.Test.YtjdhoipaanlipaaPEq
namespace Go.Proofs.Ytjdhoipaanlipaa.P
set_option linter.unusedVariables false
set_option linter.unusedSimpArgs false
open Go.RowKit Go.Proofs.Ytjdhoipaanlipaa.Q Go.Proofs.YtjdhoipaanlipaaW.PrintWords
/-- Text. -/
def textS (l : List S24) : ByteArray := strOfNums (l.map (·.f0))
theorem refText_l0 (l : List S24) (hl : l.length ≤ 5864062014634) (rest : List Int) : ∀ i : Nat, i + rest.length = l.length →
    Ev (fun k => jotterref04_Text.l0 k l ((List.range i).map (fun j => (l.getD j z24).f0) ++ rest) i) (textS l) := by
  induction rest with
  | nil =>
    intro i hi
    refine Ev.from_ 1 fun k => ?_
    simp only [List.length_nil, Nat.add_zero] at hi
    subst hi
    simp only [jotterref04_Text.l0]
    rw [if_neg (by omega), List.append_nil, range_getD_map z24 (·.f0) l]
    rfl
  | cons r rest ih =>
    intro i hi
    simp only [List.length_cons] at hi
    refine Ev.step (fun k => by rw [jotterref04_Text.l0]) ?_
    refine Ev.pos (by omega) (Ev.pos (by omega) (Ev.pos (by rw [fill_length, List.length_cons]; omega) ?_))
    rw [Int.toNat_natCast, rd24, set_fill (fun j => (l.getD j z24).f0), wrap_in (by omega) (by omega)]
    exact ih (i + 1) (by omega)
theorem refText (l : List S24) (hl : l.length ≤ 5864062014634) : Ev (fun k => jotterref04_Text.f k l) (textS l) := by
  unfold jotterref04_Text.f
  refine Ev.pos (by omega) (Ev.pos (by omega) ?_)
  rw [Int.toNat_natCast]
  exact refText_l0 l hl (List.replicate l.length 0) 0 (by simp)
theorem docText_l0 (l : List S24) (hl : l.length ≤ 5864062014634) (rest : List Int) : ∀ i : Nat, i + rest.length = l.length →
    Ev (fun k => doc_Text.l0 k ((List.range i).map (fun j => (l.getD j z24).f0) ++ rest) l l.length i) (textS l) := by
  induction rest with
  | nil =>
    intro i hi
    refine Ev.from_ 1 fun k => ?_
    simp only [List.length_nil, Nat.add_zero] at hi
    subst hi
    simp only [doc_Text.l0]
    rw [if_neg (by omega), List.append_nil, range_getD_map z24 (·.f0) l]
    rfl
  | cons r rest ih =>
    intro i hi
    simp only [List.length_cons] at hi
    refine Ev.step (fun k => by rw [doc_Text.l0]) ?_
    refine Ev.pos (by omega) (Ev.pos (by omega) (Ev.pos (by omega) (Ev.pos (by rw [fill_length, List.length_cons]; omega) ?_)))
    rw [Int.toNat_natCast, rd24, set_fill (fun j => (l.getD j z24).f0), wrap_in (by omega) (by omega)]
    exact ih (i + 1) (by omega)
theorem docText (l : List S24) (hl : l.length ≤ 5864062014634) : Ev (fun k => doc_Text.f k l) (textS l) := by
  unfold doc_Text.f
  refine Ev.pos (by omega) (Ev.pos (by omega) ?_)
  rw [Int.toNat_natCast]
  exact docText_l0 l hl (List.replicate l.length 0) 0 (by simp)
/-- Find, from a place on. -/
def findS (c s : Int) : List S24 → Int → Int
  | [], _ => -1
  | x :: xs, i => if x.f1 = c ∧ x.f2 = s then i else findS c s xs (i + 1)
theorem refFind_l0 (l : List S24) (hl : l.length ≤ 5864062014634) (c s : Int) (d : Nat) : ∀ i : Nat, i + d = l.length →
    Ev (fun k => jotterref04_Find.l0 k l c s i) (findS c s (l.drop i) i) := by
  induction d with
  | zero =>
    intro i hi
    refine Ev.from_ 1 fun k => ?_
    simp only [jotterref04_Find.l0]
    rw [if_neg (by omega), List.drop_of_length_le (by omega)]
    rfl
  | succ d ih =>
    intro i hi
    refine Ev.step (fun k => by rw [jotterref04_Find.l0]) ?_
    refine Ev.pos (by omega) (Ev.pos (by omega) ?_)
    rw [drop_getD z24 l i (by omega), rd24, wrap_in (by omega) (by omega)]
    have := ih (i + 1) (by omega)
    unfold findS
    by_cases h1 : (l.getD i z24).f1 = c
    · refine Ev.pos h1 ?_
      by_cases h2 : (l.getD i z24).f2 = s
      · refine Ev.pos h2 ?_
        rw [if_pos ⟨h1, h2⟩]
        exact Ev.now _
      · refine Ev.neg h2 ?_
        rw [if_neg (fun h => h2 h.2)]
        exact this
    · refine Ev.neg h1 ?_
      rw [if_neg (fun h => h1 h.1)]
      exact this
theorem refFind (l : List S24) (hl : l.length ≤ 5864062014634) (c s : Int) : Ev (fun k => jotterref04_Find.f k l c s) (findS c s l 0) :=
  refFind_l0 l hl c s l.length 0 (by simp)
theorem docFind_l0 (l : List S24) (hl : l.length ≤ 5864062014634) (c s : Int) (d : Nat) : ∀ i : Nat, i + d = l.length →
    Ev (fun k => doc_Find.l0 k c s l l.length i) (findS c s (l.drop i) i) := by
  induction d with
  | zero =>
    intro i hi
    refine Ev.from_ 1 fun k => ?_
    simp only [doc_Find.l0]
    rw [if_neg (by omega), List.drop_of_length_le (by omega)]
    rfl
  | succ d ih =>
    intro i hi
    refine Ev.step (fun k => by rw [doc_Find.l0]) ?_
    refine Ev.pos (by omega) (Ev.pos (by omega) (Ev.pos (by omega) ?_))
    rw [drop_getD z24 l i (by omega), rd24, wrap_in (by omega) (by omega)]
    have := ih (i + 1) (by omega)
    unfold findS
    by_cases h : (l.getD i z24).f1 = c ∧ (l.getD i z24).f2 = s
    · refine Ev.pos (by simpa using h) ?_
      rw [if_pos h]
      exact Ev.now _
    · refine Ev.neg (by simpa using h) ?_
      rw [if_neg h]
      exact this
theorem docFind (l : List S24) (hl : l.length ≤ 5864062014634) (c s : Int) : Ev (fun k => doc_Find.f k l c s) (findS c s l 0) :=
  docFind_l0 l hl c s l.length 0 (by simp)
end Go.Proofs.Ytjdhoipaanlipaa.P
