/- doc's Valid, Fits, Apply and Text, as plain functions (the texts of the doc seat, turned to this one by program). No condition. -/
import Derived.Test.YtjnciljimacblaaPD
import Derived.Test.YtjnciljimacblaaQx12
import Derived.Test.YtjnciljimacblaaQx13
/- What the functions of layer doc compute, as plain functions on lists, and small lemmas for it. -/
namespace Go.Proofs.Ytjnciljimacblaa.P
set_option linter.unusedVariables false
set_option linter.unusedSimpArgs false
open Go.RowKit Go.Proofs.Ytjnciljimacblaa.Q Go.Proofs.YtjnciljimacblaaW.PrintWords
instance : DecidableEq S83 := fun a b =>
  if h : a.f0 = b.f0 ∧ a.f1 = b.f1 ∧ a.f2 = b.f2 then .isTrue (by cases a; cases b; simp_all) else .isFalse (fun e => h (by subst e; simp))

/-- The error of an operation. -/
def validS (o : S38) : Int :=
  if o.f0 < 0 ∨ 2 < o.f0 then 40
  else if o.f3 < 1 ∨ 64 < o.f3 ∨ o.f4 < 1 ∨ 64 < o.f4 then 41
  else if (o.f0 = 1 ∧ (o.f2 < 32 ∨ 126 < o.f2)) ∨ (o.f0 ≠ 1 ∧ o.f2 ≠ 0) then 42
  else if (o.f0 = 0 ∧ o.f1 ≠ 0) ∨ o.f1 < 0 ∨ 4096 ≤ o.f1 then 43
  else 0
/-- The error of an operation on a text of n characters. -/
def fitsS (n : Int) (o : S38) : Int :=
  if validS o ≠ 0 then validS o
  else if n < 0 ∨ 4096 < n ∨ (o.f0 = 1 ∧ n = 4096) then 44
  else if (o.f0 = 1 ∧ n < o.f1) ∨ (o.f0 = 2 ∧ n ≤ o.f1) then 43
  else 0
/-- The text behind an operation that fits. -/
def putS (d : List S83) (o : S38) : List S83 :=
  if o.f0 = 1 then d.take o.f1.toNat ++ ([⟨o.f2, o.f3, o.f4⟩] ++ d.drop o.f1.toNat)
  else if o.f0 = 2 then d.take o.f1.toNat ++ d.drop (o.f1.toNat + 1)
  else d
/-- The text behind an operation, and the error. -/
def applyS (d : List S83) (o : S38) : List S83 × Int := if fitsS d.length o = 0 then (putS d o, 0) else ([], fitsS d.length o)

/-- An operation that fits. -/
theorem fits_zero {n : Int} {o : S38} (h : fitsS n o = 0) : validS o = 0 ∧ 0 ≤ n ∧ n ≤ 4096 ∧ (o.f0 = 1 → n < 4096 ∧ o.f1 ≤ n) ∧ (o.f0 = 2 → o.f1 < n) := by
  unfold fitsS at h
  by_cases h1 : validS o ≠ 0
  · rw [if_pos h1] at h; exact absurd h h1
  · rw [if_neg h1] at h
    by_cases h2 : n < 0 ∨ 4096 < n ∨ (o.f0 = 1 ∧ n = 4096)
    · rw [if_pos h2] at h; omega
    · rw [if_neg h2] at h
      by_cases h3 : (o.f0 = 1 ∧ n < o.f1) ∨ (o.f0 = 2 ∧ n ≤ o.f1)
      · rw [if_pos h3] at h; omega
      · exact ⟨by omega, by omega, by omega, by omega, by omega⟩
theorem valid_zero {o : S38} (h : validS o = 0) : 0 ≤ o.f0 ∧ o.f0 ≤ 2 ∧ 1 ≤ o.f3 ∧ o.f3 ≤ 64 ∧ 1 ≤ o.f4 ∧ o.f4 ≤ 64 ∧ (o.f0 = 1 → 32 ≤ o.f2 ∧ o.f2 ≤ 126) ∧ (o.f0 ≠ 1 → o.f2 = 0) ∧ (o.f0 = 0 → o.f1 = 0) ∧ 0 ≤ o.f1 ∧ o.f1 < 4096 := by
  unfold validS at h
  by_cases h1 : o.f0 < 0 ∨ 2 < o.f0
  · rw [if_pos h1] at h; omega
  · rw [if_neg h1] at h
    by_cases h2 : o.f3 < 1 ∨ 64 < o.f3 ∨ o.f4 < 1 ∨ 64 < o.f4
    · rw [if_pos h2] at h; omega
    · rw [if_neg h2] at h
      by_cases h3 : (o.f0 = 1 ∧ (o.f2 < 32 ∨ 126 < o.f2)) ∨ (o.f0 ≠ 1 ∧ o.f2 ≠ 0)
      · rw [if_pos h3] at h; omega
      · rw [if_neg h3] at h
        by_cases h4 : (o.f0 = 0 ∧ o.f1 ≠ 0) ∨ o.f1 < 0 ∨ 4096 ≤ o.f1
        · rw [if_pos h4] at h; omega
        · refine ⟨?_, ?_, ?_, ?_, ?_, ?_, ?_, ?_, ?_, ?_, ?_⟩ <;> omega
/-- The converse. -/
theorem valid_ok {o : S38} (h0 : 0 ≤ o.f0) (h1 : o.f0 ≤ 2) (h2 : 1 ≤ o.f3) (h3 : o.f3 ≤ 64) (h4 : 1 ≤ o.f4) (h5 : o.f4 ≤ 64) (h6 : o.f0 = 1 → 32 ≤ o.f2 ∧ o.f2 ≤ 126) (h7 : o.f0 ≠ 1 → o.f2 = 0) (h8 : o.f0 = 0 → o.f1 = 0) (h9 : 0 ≤ o.f1) (h10 : o.f1 < 4096) : validS o = 0 := by
  unfold validS
  rw [if_neg (by omega), if_neg (by omega), if_neg (by omega), if_neg (by omega)]
theorem fits_ok {n : Int} {o : S38} (hv : validS o = 0) (h0 : 0 ≤ n) (h1 : n ≤ 4096) (h2 : o.f0 = 1 → n < 4096 ∧ o.f1 ≤ n) (h3 : o.f0 = 2 → o.f1 < n) : fitsS n o = 0 := by
  unfold fitsS
  rw [if_neg (by omega), if_neg (by omega), if_neg (by omega)]
theorem apply_ok {d : List S83} {o : S38} (h : fitsS d.length o = 0) : applyS d o = (putS d o, 0) := if_pos h
theorem apply_err {d : List S83} {o : S38} (h : fitsS d.length o ≠ 0) : applyS d o = ([], fitsS d.length o) := if_neg h
/-- The length behind. -/
theorem put_length {d : List S83} {o : S38} (h : fitsS d.length o = 0) : (putS d o).length = if o.f0 = 1 then d.length + 1 else if o.f0 = 2 then d.length - 1 else d.length := by
  obtain ⟨hv, h0, h1, h2, h3⟩ := fits_zero h
  have v := valid_zero hv
  unfold putS
  by_cases c1 : o.f0 = 1
  · rw [if_pos c1, if_pos c1]
    have := h2 c1
    simp only [List.length_append, List.length_take, List.length_drop, List.length_cons, List.length_nil]
    omega
  · rw [if_neg c1, if_neg c1]
    by_cases c2 : o.f0 = 2
    · rw [if_pos c2, if_pos c2]
      have := h3 c2
      simp only [List.length_append, List.length_take, List.length_drop]
      omega
    · rw [if_neg c2, if_neg c2]
theorem apply_length (d : List S83) (o : S38) : (applyS d o).1.length ≤ 4096 := by
  by_cases h : fitsS d.length o = 0
  · rw [apply_ok h]
    have hl := put_length h
    obtain ⟨_, _, _, h2, _⟩ := fits_zero h
    show (putS d o).length ≤ 4096
    rw [hl]
    split
    · have := h2 (by assumption); omega
    · split <;> omega
  · rw [apply_err h]; simp

/-! ### lists read by index, lists filled in order -/
theorem rd83 (xs : List S83) (i : Nat) : rd_T83 xs (i : Int) = xs.getD i z83 := by unfold rd_T83; rw [Int.toNat_natCast]
theorem rd38 (xs : List S38) (i : Nat) : rd_T38 xs (i : Int) = xs.getD i z38 := by unfold rd_T38; rw [Int.toNat_natCast]
theorem getD_at {α : Type} (z : α) (xs : List α) (i : Nat) (h : i < xs.length) : xs.getD i z = xs[i] := by simp [List.getD_eq_getElem?_getD, List.getElem?_eq_getElem h]
theorem drop_getD {α : Type} (z : α) (xs : List α) (i : Nat) (h : i < xs.length) : xs.drop i = xs.getD i z :: xs.drop (i + 1) := by
  rw [List.drop_eq_getElem_cons h, getD_at z xs i h]
theorem range_getD {α : Type} (z : α) (xs : List α) : (List.range xs.length).map (fun i => xs.getD i z) = xs := by
  apply List.ext_getElem
  · simp
  · intro i h1 h2
    simp [List.getD_eq_getElem?_getD, List.getElem?_eq_getElem h2]
theorem range_getD_map {α β : Type} (z : α) (g : α → β) (xs : List α) : (List.range xs.length).map (fun i => g (xs.getD i z)) = xs.map g := by
  conv => rhs; rw [← range_getD z xs]
  rw [List.map_map]
  rfl
theorem set_fill {α : Type} (g : Nat → α) (i : Nat) (r : α) (rest : List α) : ((List.range i).map g ++ r :: rest).set i (g i) = (List.range (i + 1)).map g ++ rest := by
  rw [List.set_append_right _ _ (by simp)]
  simp [List.range_succ]
theorem fill_length {α : Type} (g : Nat → α) (i : Nat) (rest : List α) : ((List.range i).map g ++ rest).length = i + rest.length := by simp
end Go.Proofs.Ytjnciljimacblaa.P

/- Valid and Fits, the program's and the reference's: both are validS and fitsS. -/
namespace Go.Proofs.Ytjnciljimacblaa.P
set_option linter.unusedVariables false
set_option linter.unusedSimpArgs false
open Go.RowKit Go.Proofs.Ytjnciljimacblaa.Q Go.Proofs.YtjnciljimacblaaW.PrintWords
theorem within_tells (a lo hi : Int) : doc_within.f a lo hi = some (decide (lo ≤ a ∧ a ≤ hi)) := by
  unfold doc_within.f
  by_cases h : lo ≤ a
  · rw [if_pos h]; simp [h]
  · rw [if_neg h]; simp [h]
theorem docValid (o : S38) (hc : 0 ≤ o.f2 ∧ o.f2 ≤ 255) : Ev (fun k => doc_Valid.f k o.f0 o.f1 o.f2 o.f3 o.f4) (validS o) := by
  refine Ev.from_ 2 fun k => ?_
  simp only [doc_Valid.f, doc_Valid.j0, doc_Valid.j1, within_tells, Option.bind_some, validS, wrap_in (n := o.f2) (by omega) (by omega)]
  generalize o.f0 = a; generalize o.f1 = b; generalize o.f2 = c; generalize o.f3 = d; generalize o.f4 = e
  by_cases h1 : a < 0 ∨ 2 < a
  · rw [if_pos h1, if_neg (by simp; omega)]
  · rw [if_neg h1, if_pos (by simp; omega)]
    by_cases h2 : d < 1 ∨ 64 < d ∨ e < 1 ∨ 64 < e
    · rw [if_pos h2]
      by_cases p : 1 ≤ d ∧ d ≤ 64
      · rw [if_pos (by simpa using p), if_pos (by simp; omega)]
      · rw [if_neg (by simpa using p), if_pos trivial]
    · rw [if_neg h2, if_pos (by simp; omega), if_neg (by simp; omega)]
      by_cases h3 : a = 1
      · rw [if_pos h3]
        by_cases q : 32 ≤ c ∧ c ≤ 126
        · rw [if_pos (by simpa using q), if_neg (show ¬ a = 0 by omega), if_neg (show ¬ ((a = 1 ∧ (c < 32 ∨ 126 < c)) ∨ (a ≠ 1 ∧ c ≠ 0)) by omega)]
          by_cases r : 0 ≤ b ∧ b ≤ 4095
          · rw [if_pos (by simpa using r), if_neg (by omega)]
          · rw [if_neg (by simpa using r), if_pos (by omega)]
        · rw [if_neg (by simpa using q), if_pos (by omega)]
      · rw [if_neg h3]
        by_cases q : c = 0
        · rw [if_pos q, if_neg (show ¬ ((a = 1 ∧ (c < 32 ∨ 126 < c)) ∨ (a ≠ 1 ∧ c ≠ 0)) by omega)]
          by_cases s : a = 0
          · rw [if_pos s]
            by_cases t : 0 ≤ b ∧ b ≤ 0
            · rw [if_pos (by simpa using t), if_neg (by omega)]
            · rw [if_neg (by simpa using t), if_pos (by omega)]
          · rw [if_neg s]
            by_cases r : 0 ≤ b ∧ b ≤ 4095
            · rw [if_pos (by simpa using r), if_neg (by omega)]
            · rw [if_neg (by simpa using r), if_pos (by omega)]
        · rw [if_neg q, if_pos (by omega)]
theorem docFits (n : Int) (o : S38) (hc : 0 ≤ o.f2 ∧ o.f2 ≤ 255) : Ev (fun k => doc_Fits.f k n o.f0 o.f1 o.f2 o.f3 o.f4) (fitsS n o) := by
  unfold doc_Fits.f
  refine Ev.bind (docValid o hc) ?_
  by_cases hv : validS o = 0
  · refine Ev.pos hv (Ev.from_ 1 fun k => ?_)
    simp only [doc_Fits.j0, fitsS, hv, within_tells, Option.bind_some]
    generalize o.f0 = a; generalize o.f1 = b; generalize o.f2 = c; generalize o.f3 = d; generalize o.f4 = e
    by_cases h1 : n < 0
    · simp [h1]; omega
    · by_cases h2 : n > 4096
      · have h2' : 4096 < n := h2
        simp [h1, h2']; omega
      · have h2' : ¬ 4096 < n := h2
        have w : 0 ≤ n ∧ n ≤ 4096 := by omega
        by_cases h3 : a = 1
        · subst h3
          by_cases h4 : n = 4096
          · simp [h4]
          · by_cases h5 : b > n
            · have h5' : n < b := h5
              simp [w, h1, h2', h4, h5']
            · have h5' : ¬ n < b := h5
              simp [w, h1, h2', h4, h5']
        · by_cases h4 : a = 2
          · subst h4
            by_cases h5 : n ≤ b
            · simp [w, h1, h2', h5]
            · simp [w, h1, h2', h5]
          · simp [w, h1, h2', h3, h4]
  · refine Ev.neg hv ?_
    have : fitsS n o = validS o := by unfold fitsS; rw [if_pos hv]
    rw [this]
    exact Ev.now _
end Go.Proofs.Ytjnciljimacblaa.P

/- Apply, the program's and the reference's: both are applyS. -/
namespace Go.Proofs.Ytjnciljimacblaa.P
set_option linter.unusedVariables false
set_option linter.unusedSimpArgs false
open Go.RowKit Go.Proofs.Ytjnciljimacblaa.Q Go.Proofs.YtjnciljimacblaaW.PrintWords
theorem docApply (d : List S83) (o : S38) (hc : 0 ≤ o.f2 ∧ o.f2 ≤ 255) : Ev (fun k => doc_Apply.f k d o.f0 o.f1 o.f2 o.f3 o.f4) (applyS d o) := by
  unfold doc_Apply.f
  refine Ev.bind (docFits _ o hc) ?_
  by_cases h : fitsS d.length o = 0
  · refine Ev.pos h ?_
    obtain ⟨hv, h0, h1, h2, h3⟩ := fits_zero h
    have v := valid_zero hv
    rw [wrap_in (n := (d.length : Int) + 1) (by omega) (by omega), apply_ok h]
    refine Ev.pos (by omega) (Ev.pos (by omega) (Ev.bind (Ev.now _) ?_))
    by_cases c1 : o.f0 = 1
    · have h2 := h2 c1
      refine Ev.pos c1 (Ev.pos (by omega) (Ev.pos (by omega) (Ev.bind (Ev.now _) (Ev.pos ?_ (Ev.bind (Ev.now _) (Ev.pos ?_ (Ev.bind (Ev.now _) (Ev.bind (Ev.now _) (Ev.pos ?_ (Ev.const ?_))))))))))
      · simp only [List.replicate_zero, List.length_nil, List.length_take]; omega
      · simp only [List.replicate_zero, List.nil_append, List.length_take]; omega
      · simp only [List.replicate_zero, List.nil_append, List.length_append, List.length_take, List.length_drop, List.length_cons, List.length_nil]; omega
      · unfold putS
        rw [if_pos c1]
        simp
    · by_cases c2 : o.f0 = 2
      · have h3 := h3 c2
        refine Ev.neg c1 (Ev.pos c2 (Ev.pos (by omega) (Ev.pos (by omega) (Ev.bind (Ev.now _) (Ev.pos ?_ (Ev.bind (Ev.now _) ?_))))))
        · simp only [List.replicate_zero, List.length_nil, List.length_take]; omega
        · rw [wrap_in (n := o.f1 + 1) (by omega) (by omega)]
          refine Ev.pos (by omega) (Ev.pos (by omega) (Ev.bind (Ev.now _) (Ev.pos ?_ (Ev.const ?_))))
          · simp only [List.replicate_zero, List.nil_append, List.length_append, List.length_take, List.length_drop]; omega
          · unfold putS
            rw [if_neg c1, if_pos c2, show (o.f1 + 1).toNat = o.f1.toNat + 1 by omega]
            simp
      · refine Ev.neg c1 (Ev.neg c2 (Ev.pos ?_ (Ev.const ?_)))
        · simp only [List.replicate_zero, List.length_nil]; omega
        · unfold putS
          rw [if_neg c1, if_neg c2]
          simp
  · rw [apply_err h]
    exact Ev.neg h (Ev.now _)
end Go.Proofs.Ytjnciljimacblaa.P

/- Text, Find and Equal, the program's and the reference's. -/
namespace Go.Proofs.Ytjnciljimacblaa.P
set_option linter.unusedVariables false
set_option linter.unusedSimpArgs false
open Go.RowKit Go.Proofs.Ytjnciljimacblaa.Q Go.Proofs.YtjnciljimacblaaW.PrintWords
/-- Text. -/
def textS (l : List S83) : ByteArray := strOfNums (l.map (·.f0))
theorem docText_l0 (l : List S83) (hl : l.length ≤ 5864062014634) (rest : List Int) : ∀ i : Nat, i + rest.length = l.length →
    Ev (fun k => doc_Text.l0 k ((List.range i).map (fun j => (l.getD j z83).f0) ++ rest) l l.length i) (textS l) := by
  induction rest with
  | nil =>
    intro i hi
    refine Ev.from_ 1 fun k => ?_
    simp only [List.length_nil, Nat.add_zero] at hi
    subst hi
    simp only [doc_Text.l0]
    rw [if_neg (by omega), List.append_nil, range_getD_map z83 (·.f0) l]
    rfl
  | cons r rest ih =>
    intro i hi
    simp only [List.length_cons] at hi
    refine Ev.step (fun k => by rw [doc_Text.l0]) ?_
    refine Ev.pos (by omega) (Ev.pos (by omega) (Ev.pos (by omega) (Ev.pos (by rw [fill_length, List.length_cons]; omega) ?_)))
    rw [Int.toNat_natCast, rd83, set_fill (fun j => (l.getD j z83).f0), wrap_in (by omega) (by omega)]
    exact ih (i + 1) (by omega)
theorem docText (l : List S83) (hl : l.length ≤ 5864062014634) : Ev (fun k => doc_Text.f k l) (textS l) := by
  unfold doc_Text.f
  refine Ev.pos (by omega) (Ev.pos (by omega) ?_)
  rw [Int.toNat_natCast]
  exact docText_l0 l hl (List.replicate l.length 0) 0 (by simp)
end Go.Proofs.Ytjnciljimacblaa.P
