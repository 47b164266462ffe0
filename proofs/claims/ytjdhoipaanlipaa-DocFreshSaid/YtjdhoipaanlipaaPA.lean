/- What the functions of layer doc compute, as plain functions on lists, and small lemmas for it. -/
import Derived.Test.YtjdhoipaanlipaaQx0
namespace Go.Proofs.Ytjdhoipaanlipaa.P
set_option linter.unusedVariables false
set_option linter.unusedSimpArgs false
open Go.RowKit Go.Proofs.Ytjdhoipaanlipaa.Q Go.Proofs.YtjdhoipaanlipaaW.PrintWords
theorem Ev.pos {α : Type} {c : Prop} [Decidable c] {f g : Nat → Option α} {r : α} (hc : c) (h : Ev f r) : Ev (fun k => if c then f k else g k) r := Ev.congr (fun k => if_pos hc) h
theorem Ev.neg {α : Type} {c : Prop} [Decidable c] {f g : Nat → Option α} {r : α} (hc : ¬ c) (h : Ev g r) : Ev (fun k => if c then f k else g k) r := Ev.congr (fun k => if_neg hc) h
theorem Ev.const {α : Type} {x : Option α} {r : α} (h : x = some r) : Ev (fun _ => x) r := ⟨0, fun _ _ => h⟩
/-- From the number of rounds m on. -/
theorem Ev.from_ {α : Type} {g : Nat → Option α} {r : α} (m : Nat) (h : ∀ k, g (k + m) = some r) : Ev g r := by
  refine ⟨m, fun n hn => ?_⟩
  obtain ⟨k, rfl⟩ : ∃ k, n = k + m := ⟨n - m, by omega⟩
  exact h k
theorem wrap_in {n : Int} (h0 : -9223372036854775808 ≤ n) (h1 : n ≤ 9223372036854775807) : wrap64 n = n := by unfold wrap64; omega

instance : DecidableEq S24 := fun a b =>
  if h : a.f0 = b.f0 ∧ a.f1 = b.f1 ∧ a.f2 = b.f2 then .isTrue (by cases a; cases b; simp_all) else .isFalse (fun e => h (by subst e; simp))

/-- The error of an operation. -/
def validS (o : S30) : Int :=
  if o.f0 < 0 ∨ 2 < o.f0 then 40
  else if o.f3 < 1 ∨ 64 < o.f3 ∨ o.f4 < 1 ∨ 64 < o.f4 then 41
  else if (o.f0 = 1 ∧ (o.f2 < 32 ∨ 126 < o.f2)) ∨ (o.f0 ≠ 1 ∧ o.f2 ≠ 0) then 42
  else if (o.f0 = 0 ∧ o.f1 ≠ 0) ∨ o.f1 < 0 ∨ 4096 ≤ o.f1 then 43
  else 0
/-- The error of an operation on a text of n characters. -/
def fitsS (n : Int) (o : S30) : Int :=
  if validS o ≠ 0 then validS o
  else if n < 0 ∨ 4096 < n ∨ (o.f0 = 1 ∧ n = 4096) then 44
  else if (o.f0 = 1 ∧ n < o.f1) ∨ (o.f0 = 2 ∧ n ≤ o.f1) then 43
  else 0
/-- The text behind an operation that fits. -/
def putS (d : List S24) (o : S30) : List S24 :=
  if o.f0 = 1 then d.take o.f1.toNat ++ ([⟨o.f2, o.f3, o.f4⟩] ++ d.drop o.f1.toNat)
  else if o.f0 = 2 then d.take o.f1.toNat ++ d.drop (o.f1.toNat + 1)
  else d
/-- The text behind an operation, and the error. -/
def applyS (d : List S24) (o : S30) : List S24 × Int := if fitsS d.length o = 0 then (putS d o, 0) else ([], fitsS d.length o)

/-- An operation that fits. -/
theorem fits_zero {n : Int} {o : S30} (h : fitsS n o = 0) : validS o = 0 ∧ 0 ≤ n ∧ n ≤ 4096 ∧ (o.f0 = 1 → n < 4096 ∧ o.f1 ≤ n) ∧ (o.f0 = 2 → o.f1 < n) := by
  unfold fitsS at h
  by_cases h1 : validS o ≠ 0
  · rw [if_pos h1] at h; exact absurd h h1
  · rw [if_neg h1] at h
    by_cases h2 : n < 0 ∨ 4096 < n ∨ (o.f0 = 1 ∧ n = 4096)
    · rw [if_pos h2] at h; omega
    · rw [if_neg h2] at h
      by_cases h3 : (o.f0 = 1 ∧ n < o.f1) ∨ (o.f0 = 2 ∧ n ≤ o.f1)
      · rw [if_pos h3] at h; omega
      · exact ⟨by omega, by omega, by omega, by omega, by omega⟩
theorem valid_zero {o : S30} (h : validS o = 0) : 0 ≤ o.f0 ∧ o.f0 ≤ 2 ∧ 1 ≤ o.f3 ∧ o.f3 ≤ 64 ∧ 1 ≤ o.f4 ∧ o.f4 ≤ 64 ∧ (o.f0 = 1 → 32 ≤ o.f2 ∧ o.f2 ≤ 126) ∧ (o.f0 ≠ 1 → o.f2 = 0) ∧ (o.f0 = 0 → o.f1 = 0) ∧ 0 ≤ o.f1 ∧ o.f1 < 4096 := by
  unfold validS at h
  by_cases h1 : o.f0 < 0 ∨ 2 < o.f0
  · rw [if_pos h1] at h; omega
  · rw [if_neg h1] at h
    by_cases h2 : o.f3 < 1 ∨ 64 < o.f3 ∨ o.f4 < 1 ∨ 64 < o.f4
    · rw [if_pos h2] at h; omega
    · rw [if_neg h2] at h
      by_cases h3 : (o.f0 = 1 ∧ (o.f2 < 32 ∨ 126 < o.f2)) ∨ (o.f0 ≠ 1 ∧ o.f2 ≠ 0)
      · rw [if_pos h3] at h; omega
      · rw [if_neg h3] at h
        by_cases h4 : (o.f0 = 0 ∧ o.f1 ≠ 0) ∨ o.f1 < 0 ∨ 4096 ≤ o.f1
        · rw [if_pos h4] at h; omega
        · refine ⟨?_, ?_, ?_, ?_, ?_, ?_, ?_, ?_, ?_, ?_, ?_⟩ <;> omega
/-- The converse. -/
theorem valid_ok {o : S30} (h0 : 0 ≤ o.f0) (h1 : o.f0 ≤ 2) (h2 : 1 ≤ o.f3) (h3 : o.f3 ≤ 64) (h4 : 1 ≤ o.f4) (h5 : o.f4 ≤ 64) (h6 : o.f0 = 1 → 32 ≤ o.f2 ∧ o.f2 ≤ 126) (h7 : o.f0 ≠ 1 → o.f2 = 0) (h8 : o.f0 = 0 → o.f1 = 0) (h9 : 0 ≤ o.f1) (h10 : o.f1 < 4096) : validS o = 0 := by
  unfold validS
  rw [if_neg (by omega), if_neg (by omega), if_neg (by omega), if_neg (by omega)]
theorem fits_ok {n : Int} {o : S30} (hv : validS o = 0) (h0 : 0 ≤ n) (h1 : n ≤ 4096) (h2 : o.f0 = 1 → n < 4096 ∧ o.f1 ≤ n) (h3 : o.f0 = 2 → o.f1 < n) : fitsS n o = 0 := by
  unfold fitsS
  rw [if_neg (by omega), if_neg (by omega), if_neg (by omega)]
theorem apply_ok {d : List S24} {o : S30} (h : fitsS d.length o = 0) : applyS d o = (putS d o, 0) := if_pos h
theorem apply_err {d : List S24} {o : S30} (h : fitsS d.length o ≠ 0) : applyS d o = ([], fitsS d.length o) := if_neg h
/-- The length behind. -/
theorem put_length {d : List S24} {o : S30} (h : fitsS d.length o = 0) : (putS d o).length = if o.f0 = 1 then d.length + 1 else if o.f0 = 2 then d.length - 1 else d.length := by
  obtain ⟨hv, h0, h1, h2, h3⟩ := fits_zero h
  have v := valid_zero hv
  unfold putS
  by_cases c1 : o.f0 = 1
  · rw [if_pos c1, if_pos c1]
    have := h2 c1
    simp only [List.length_append, List.length_take, List.length_drop, List.length_cons, List.length_nil]
    omega
  · rw [if_neg c1, if_neg c1]
    by_cases c2 : o.f0 = 2
    · rw [if_pos c2, if_pos c2]
      have := h3 c2
      simp only [List.length_append, List.length_take, List.length_drop]
      omega
    · rw [if_neg c2, if_neg c2]
theorem apply_length (d : List S24) (o : S30) : (applyS d o).1.length ≤ 4096 := by
  by_cases h : fitsS d.length o = 0
  · rw [apply_ok h]
    have hl := put_length h
    obtain ⟨_, _, _, h2, _⟩ := fits_zero h
    show (putS d o).length ≤ 4096
    rw [hl]
    split
    · have := h2 (by assumption); omega
    · split <;> omega
  · rw [apply_err h]; simp

/-! ### lists read by index, lists filled in order -/
theorem rd24 (xs : List S24) (i : Nat) : rd_T24 xs (i : Int) = xs.getD i z24 := by unfold rd_T24; rw [Int.toNat_natCast]
theorem rd30 (xs : List S30) (i : Nat) : rd_T30 xs (i : Int) = xs.getD i z30 := by unfold rd_T30; rw [Int.toNat_natCast]
theorem getD_at {α : Type} (z : α) (xs : List α) (i : Nat) (h : i < xs.length) : xs.getD i z = xs[i] := by simp [List.getD_eq_getElem?_getD, List.getElem?_eq_getElem h]
theorem drop_getD {α : Type} (z : α) (xs : List α) (i : Nat) (h : i < xs.length) : xs.drop i = xs.getD i z :: xs.drop (i + 1) := by
  rw [List.drop_eq_getElem_cons h, getD_at z xs i h]
theorem range_getD {α : Type} (z : α) (xs : List α) : (List.range xs.length).map (fun i => xs.getD i z) = xs := by
  apply List.ext_getElem
  · simp
  · intro i h1 h2
    simp [List.getD_eq_getElem?_getD, List.getElem?_eq_getElem h2]
theorem range_getD_map {α β : Type} (z : α) (g : α → β) (xs : List α) : (List.range xs.length).map (fun i => g (xs.getD i z)) = xs.map g := by
  conv => rhs; rw [← range_getD z xs]
  rw [List.map_map]
  rfl
theorem set_fill {α : Type} (g : Nat → α) (i : Nat) (r : α) (rest : List α) : ((List.range i).map g ++ r :: rest).set i (g i) = (List.range (i + 1)).map g ++ rest := by
  rw [List.set_append_right _ _ (by simp)]
  simp [List.range_succ]
theorem fill_length {α : Type} (g : Nat → α) (i : Nat) (rest : List α) : ((List.range i).map g ++ rest).length = i + rest.length := by simp
end Go.Proofs.Ytjdhoipaanlipaa.P
