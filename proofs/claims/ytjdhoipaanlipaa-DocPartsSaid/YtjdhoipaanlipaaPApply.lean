/- Apply, the program's and the reference's: both are applyS. -/
import Derived.Test.YtjdhoipaanlipaaPFits
import Derived.Test.YtjdhoipaanlipaaQx19
import Derived.Test.YtjdhoipaanlipaaQx20
namespace Go.Proofs.Ytjdhoipaanlipaa.P
set_option linter.unusedVariables false
set_option linter.unusedSimpArgs false
open Go.RowKit Go.Proofs.Ytjdhoipaanlipaa.Q Go.Proofs.YtjdhoipaanlipaaW.PrintWords
theorem docApply (d : List S24) (o : S30) (hc : 0 ≤ o.f2 ∧ o.f2 ≤ 255) : Ev (fun k => doc_Apply.f k d o.f0 o.f1 o.f2 o.f3 o.f4) (applyS d o) := by
  unfold doc_Apply.f
  refine Ev.bind (docFits _ o hc) ?_
  by_cases h : fitsS d.length o = 0
  · refine Ev.pos h ?_
    obtain ⟨hv, h0, h1, h2, h3⟩ := fits_zero h
    have v := valid_zero hv
    rw [wrap_in (n := (d.length : Int) + 1) (by omega) (by omega), apply_ok h]
    refine Ev.pos (by omega) (Ev.pos (by omega) (Ev.bind (Ev.now _) ?_))
    by_cases c1 : o.f0 = 1
    · have h2 := h2 c1
      refine Ev.pos c1 (Ev.pos (by omega) (Ev.pos (by omega) (Ev.bind (Ev.now _) (Ev.pos ?_ (Ev.bind (Ev.now _) (Ev.pos ?_ (Ev.bind (Ev.now _) (Ev.bind (Ev.now _) (Ev.pos ?_ (Ev.const ?_))))))))))
      · simp only [List.replicate_zero, List.length_nil, List.length_take]; omega
      · simp only [List.replicate_zero, List.nil_append, List.length_take]; omega
      · simp only [List.replicate_zero, List.nil_append, List.length_append, List.length_take, List.length_drop, List.length_cons, List.length_nil]; omega
      · unfold putS
        rw [if_pos c1]
        simp
    · by_cases c2 : o.f0 = 2
      · have h3 := h3 c2
        refine Ev.neg c1 (Ev.pos c2 (Ev.pos (by omega) (Ev.pos (by omega) (Ev.bind (Ev.now _) (Ev.pos ?_ (Ev.bind (Ev.now _) ?_))))))
        · simp only [List.replicate_zero, List.length_nil, List.length_take]; omega
        · rw [wrap_in (n := o.f1 + 1) (by omega) (by omega)]
          refine Ev.pos (by omega) (Ev.pos (by omega) (Ev.bind (Ev.now _) (Ev.pos ?_ (Ev.const ?_))))
          · simp only [List.replicate_zero, List.nil_append, List.length_append, List.length_take, List.length_drop]; omega
          · unfold putS
            rw [if_neg c1, if_pos c2, show (o.f1 + 1).toNat = o.f1.toNat + 1 by omega]
            simp
      · refine Ev.neg c1 (Ev.neg c2 (Ev.pos ?_ (Ev.const ?_)))
        · simp only [List.replicate_zero, List.length_nil]; omega
        · unfold putS
          rw [if_neg c1, if_neg c2]
          simp
  · rw [apply_err h]
    exact Ev.neg h (Ev.now _)
/-- The element at place j behind an operation that fits. -/
def atS (d : List S24) (o : S30) (j : Nat) : S24 :=
  if o.f0 = 0 ∨ (j : Int) < o.f1 then d.getD j z24
  else if o.f0 = 2 then d.getD (j + 1) z24
  else if (j : Int) = o.f1 then ⟨o.f2, o.f3, o.f4⟩
  else d.getD (j - 1) z24
/-- How long the text behind is. -/
def longS (n : Nat) (o : S30) : Nat := if o.f0 = 1 then n + 1 else if o.f0 = 2 then n - 1 else n
theorem refAt (d : List S24) (o : S30) (h : fitsS d.length o = 0) (j : Nat) (hj : j < longS d.length o) :
    Ev (fun k => jotterref04_at.f k d o.f0 o.f1 o.f2 o.f3 o.f4 j) ((atS d o j).f0, (atS d o j).f1, (atS d o j).f2) := by
  obtain ⟨hv, h0, h1, h2, h3⟩ := fits_zero h
  have v := valid_zero hv
  unfold longS at hj
  unfold jotterref04_at.f
  by_cases c0 : o.f0 = 0
  · have e : atS d o j = d.getD j z24 := by unfold atS; rw [if_pos (.inl c0)]
    rw [if_neg (by omega), if_neg (by omega)] at hj
    rw [e]
    refine Ev.pos c0 (Ev.step (fun k => by rw [jotterref04_at.j0]) (Ev.pos rfl (Ev.pos (by omega) (Ev.pos (by omega) ?_))))
    rw [rd24]
    exact Ev.now _
  · refine Ev.neg c0 (Ev.step (fun k => by rw [jotterref04_at.j0]) ?_)
    by_cases c1 : (j : Int) < o.f1
    · have e : atS d o j = d.getD j z24 := by unfold atS; rw [if_pos (.inr c1)]
      have hl : j < d.length := by
        by_cases k1 : o.f0 = 1
        · have := h2 k1; omega
        · have := h3 (by omega); omega
      rw [e]
      refine Ev.pos (by simpa using c1) (Ev.pos (by omega) (Ev.pos (by omega) ?_))
      rw [rd24]
      exact Ev.now _
    · refine Ev.neg (by simpa using c1) ?_
      by_cases k2 : o.f0 = 2
      · have e : atS d o j = d.getD (j + 1) z24 := by unfold atS; rw [if_neg (by omega), if_pos k2]
        rw [if_neg (by omega), if_pos k2] at hj
        rw [e, wrap_in (n := (j : Int) + 1) (by omega) (by omega)]
        refine Ev.pos k2 (Ev.pos (by omega) (Ev.pos (by omega) ?_))
        rw [show ((j : Int) + 1) = ((j + 1 : Nat) : Int) by omega, rd24]
        exact Ev.now _
      · have k1 : o.f0 = 1 := by omega
        rw [if_pos k1] at hj
        refine Ev.neg k2 ?_
        by_cases c : (j : Int) = o.f1
        · have e : atS d o j = ⟨o.f2, o.f3, o.f4⟩ := by unfold atS; rw [if_neg (by omega), if_neg k2, if_pos c]
          rw [e]
          exact Ev.pos c (Ev.now _)
        · have e : atS d o j = d.getD (j - 1) z24 := by unfold atS; rw [if_neg (by omega), if_neg k2, if_neg c]
          rw [e, wrap_in (n := (j : Int) - 1) (by omega) (by omega)]
          refine Ev.neg c (Ev.pos (by omega) (Ev.pos (by omega) ?_))
          rw [show ((j : Int) - 1) = ((j - 1 : Nat) : Int) by omega, rd24]
          exact Ev.now _
theorem putS_at (d : List S24) (o : S30) (h : fitsS d.length o = 0) : (List.range (longS d.length o)).map (atS d o) = putS d o := by
  obtain ⟨hv, h0, h1, h2, h3⟩ := fits_zero h
  have v := valid_zero hv
  have hl : (putS d o).length = longS d.length o := put_length h
  apply List.ext_getElem
  · rw [hl]; simp
  · intro j g1 g2
    have hj : j < longS d.length o := by simpa using g1
    rw [List.getElem_map, List.getElem_range]
    have key : (putS d o)[j]? = some (atS d o j) := by
      unfold putS atS
      unfold longS at hj
      by_cases k1 : o.f0 = 1
      · have h2 := h2 k1
        rw [if_pos k1] at hj
        rw [if_pos k1]
        by_cases c1 : (j : Int) < o.f1
        · rw [if_pos (.inr c1), List.getElem?_append_left (by rw [List.length_take]; omega), List.getElem?_take, if_pos (by omega), getD_at _ _ _ (by omega), List.getElem?_eq_getElem (by omega)]
        · rw [if_neg (by omega), if_neg (by omega), List.getElem?_append_right (by rw [List.length_take]; omega), List.length_take, Nat.min_eq_left (by omega)]
          by_cases e : (j : Int) = o.f1
          · rw [if_pos e, show j - o.f1.toNat = 0 by omega]
            rfl
          · rw [if_neg e, show j - o.f1.toNat = (j - 1 - o.f1.toNat) + 1 by omega]
            show (d.drop o.f1.toNat)[j - 1 - o.f1.toNat]? = _
            rw [List.getElem?_drop, show o.f1.toNat + (j - 1 - o.f1.toNat) = j - 1 by omega, getD_at _ _ _ (by omega), List.getElem?_eq_getElem (by omega)]
      · rw [if_neg k1] at hj
        rw [if_neg k1]
        by_cases k2 : o.f0 = 2
        · have h3 := h3 k2
          rw [if_pos k2] at hj
          rw [if_pos k2]
          by_cases c1 : (j : Int) < o.f1
          · rw [if_pos (.inr c1), List.getElem?_append_left (by rw [List.length_take]; omega), List.getElem?_take, if_pos (by omega), getD_at _ _ _ (by omega), List.getElem?_eq_getElem (by omega)]
          · rw [if_neg (by omega), if_pos k2, List.getElem?_append_right (by rw [List.length_take]; omega), List.length_take, Nat.min_eq_left (by omega), List.getElem?_drop, show o.f1.toNat + 1 + (j - o.f1.toNat) = j + 1 by omega, getD_at _ _ _ (by omega), List.getElem?_eq_getElem (by omega)]
        · rw [if_neg k2] at hj
          rw [if_neg k2, if_pos (.inl (by omega)), getD_at _ _ _ (by omega), List.getElem?_eq_getElem (by omega)]
    rw [List.getElem?_eq_getElem g2] at key
    exact (Option.some.inj key).symm
theorem refApply_l0 (d : List S24) (o : S30) (h : fitsS d.length o = 0) (rest : List S24) : ∀ i : Nat, i + rest.length = longS d.length o →
    Ev (fun k => jotterref04_Apply.l0 k d (longS d.length o) ((List.range i).map (atS d o) ++ rest) i o.f0 o.f1 o.f2 o.f3 o.f4) (putS d o, 0) := by
  have hm : longS d.length o ≤ 4097 := by
    obtain ⟨_, _, h1, _, _⟩ := fits_zero h
    unfold longS
    split
    · omega
    · split <;> omega
  induction rest with
  | nil =>
    intro i hi
    refine Ev.from_ 1 fun k => ?_
    simp only [List.length_nil, Nat.add_zero] at hi
    subst hi
    simp only [jotterref04_Apply.l0]
    rw [if_neg (by omega), List.append_nil, putS_at d o h]
  | cons r rest ih =>
    intro i hi
    simp only [List.length_cons] at hi
    refine Ev.step (fun k => by rw [jotterref04_Apply.l0]) ?_
    refine Ev.pos (by omega) (Ev.bind (refAt d o h i (by omega)) (Ev.pos (by omega) (Ev.pos (by rw [fill_length, List.length_cons]; omega) ?_)))
    rw [Int.toNat_natCast, wrap_in (by omega) (by omega)]
    show Ev (fun k => jotterref04_Apply.l0 k d (longS d.length o) (((List.range i).map (atS d o) ++ r :: rest).set i (atS d o i)) ((i : Int) + 1) o.f0 o.f1 o.f2 o.f3 o.f4) (putS d o, 0)
    rw [set_fill (atS d o)]
    exact ih (i + 1) (by omega)
theorem refApply (d : List S24) (o : S30) : Ev (fun k => jotterref04_Apply.f k d o.f0 o.f1 o.f2 o.f3 o.f4) (applyS d o) := by
  unfold jotterref04_Apply.f
  refine Ev.bind (refFits _ o) ?_
  by_cases h : fitsS d.length o = 0
  · rw [apply_ok h]
    obtain ⟨hv, h0, h1, h2, h3⟩ := fits_zero h
    have v := valid_zero hv
    refine Ev.pos h (Ev.bind (a := (longS d.length o : Int)) (Ev.const ?_) ?_)
    · unfold jotterref04_long.f longS
      by_cases c1 : o.f0 = 1
      · rw [if_pos c1, if_pos c1, wrap_in (by omega) (by omega)]; simp
      · by_cases c2 : o.f0 = 2
        · have := h3 c2
          rw [if_neg c1, if_pos c2, if_neg c1, if_pos c2, wrap_in (by omega) (by omega)]
          congr 1
          omega
        · rw [if_neg c1, if_neg c2, if_neg c1, if_neg c2]
    · have hm : longS d.length o ≤ 4097 := by
        unfold longS
        split
        · omega
        · split <;> omega
      refine Ev.pos (by omega) (Ev.pos (by omega) ?_)
      rw [Int.toNat_natCast]
      exact refApply_l0 d o h (List.replicate (longS d.length o) z24) 0 (by simp)
  · rw [apply_err h]
    exact Ev.neg h (Ev.now _)
end Go.Proofs.Ytjdhoipaanlipaa.P
