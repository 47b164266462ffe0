/- The length of a longest common part of two lists: what is known of it (no shorter way, a distance, ends, parts). Plain lists, no program. No condition. -/
namespace Go.Proofs.Ytjnciljimacblaa.JotDiff
variable {α : Type} [DecidableEq α]

/-- The length of a longest common part. -/
def lcs : List α → List α → Nat
  | [], _ => 0
  | _ :: _, [] => 0
  | x :: xs, y :: ys => if x = y then lcs xs ys + 1 else max (lcs xs (y :: ys)) (lcs (x :: xs) ys)
  termination_by a b => a.length + b.length

theorem lcs_nil_left (b : List α) : lcs [] b = 0 := by unfold lcs; rfl
theorem lcs_nil_right (a : List α) : lcs a [] = 0 := by cases a <;> unfold lcs <;> rfl
theorem lcs_cons (x y : α) (xs ys : List α) : lcs (x :: xs) (y :: ys) = if x = y then lcs xs ys + 1 else max (lcs xs (y :: ys)) (lcs (x :: xs) ys) := by rw [lcs]
theorem lcs_cons_eq (x : α) (xs ys : List α) : lcs (x :: xs) (x :: ys) = lcs xs ys + 1 := by rw [lcs_cons, if_pos rfl]
theorem lcs_cons_ne {x y : α} (h : x ≠ y) (xs ys : List α) : lcs (x :: xs) (y :: ys) = max (lcs xs (y :: ys)) (lcs (x :: xs) ys) := by rw [lcs_cons, if_neg h]

theorem lcs_upper (a b : List α) : ∀ c : List α, c.Sublist a → c.Sublist b → c.length ≤ lcs a b := by
  induction a, b using lcs.induct with
  | case1 b => intro c h _; simp at h; simp [h]
  | case2 x xs => intro c _ h; simp at h; simp [h]
  | case3 xs x ys ih =>
    intro c h1 h2
    rw [lcs_cons_eq]
    cases c with
    | nil => simp
    | cons z c =>
      have h1' : c.Sublist xs := by cases h1 with
        | cons _ h => exact (List.sublist_cons_self z c).trans h
        | cons_cons _ h => exact h
      have h2' : c.Sublist ys := by cases h2 with
        | cons _ h => exact (List.sublist_cons_self z c).trans h
        | cons_cons _ h => exact h
      have := ih c h1' h2'
      simp only [List.length_cons]; omega
  | case4 x xs y ys e ih1 ih2 =>
    intro c h1 h2
    rw [lcs_cons_ne e]
    cases h1 with
    | cons _ h => have := ih1 c h h2; omega
    | @cons_cons c' _ _ h =>
      cases h2 with
      | cons _ h' => have := ih2 (x :: c') (h.cons_cons x) h'; omega
      | cons_cons _ _ => exact absurd rfl e

theorem lcs_attained (a b : List α) : ∃ c : List α, c.Sublist a ∧ c.Sublist b ∧ c.length = lcs a b := by
  induction a, b using lcs.induct with
  | case1 b => exact ⟨[], by simp, by simp, by rw [lcs_nil_left]; rfl⟩
  | case2 x xs => exact ⟨[], by simp, by simp, by rw [lcs_nil_right]; rfl⟩
  | case3 xs x ys ih =>
    obtain ⟨c, h1, h2, h3⟩ := ih
    exact ⟨x :: c, h1.cons_cons x, h2.cons_cons x, by rw [lcs_cons_eq, List.length_cons, h3]⟩
  | case4 x xs y ys e ih1 ih2 =>
    obtain ⟨c, h1, h2, h3⟩ := ih1
    obtain ⟨d, k1, k2, k3⟩ := ih2
    rw [lcs_cons_ne e]
    rcases Nat.le_total (lcs xs (y :: ys)) (lcs (x :: xs) ys) with h | h
    · exact ⟨d, k1, k2.cons y, by omega⟩
    · exact ⟨c, h1.cons x, h2, by omega⟩

theorem lcs_le_left (a b : List α) : lcs a b ≤ a.length := by
  obtain ⟨c, h1, _, h3⟩ := lcs_attained a b
  rw [← h3]; exact h1.length_le
theorem lcs_le_right (a b : List α) : lcs a b ≤ b.length := by
  obtain ⟨c, _, h2, h3⟩ := lcs_attained a b
  rw [← h3]; exact h2.length_le
theorem lcs_comm (a b : List α) : lcs a b = lcs b a := by
  obtain ⟨c, h1, h2, h3⟩ := lcs_attained a b
  obtain ⟨d, k1, k2, k3⟩ := lcs_attained b a
  have := lcs_upper b a c h2 h1
  have := lcs_upper a b d k2 k1
  omega
theorem lcs_self (a : List α) : lcs a a = a.length := by
  have := lcs_upper a a a (List.Sublist.refl _) (List.Sublist.refl _)
  have := lcs_le_left a a
  omega
/-- A part of a text has itself in common with it. -/
theorem lcs_part {p a : List α} (h : p.Sublist a) : lcs a p = p.length := by
  have := lcs_upper a p p h (List.Sublist.refl _)
  have := lcs_le_right a p
  omega
theorem lcs_prefix (c a b : List α) : lcs (c ++ a) (c ++ b) = c.length + lcs a b := by
  induction c with
  | nil => simp
  | cons x c ih => rw [List.cons_append, List.cons_append, lcs_cons_eq, ih, List.length_cons]; omega
theorem lcs_reverse (a b : List α) : lcs a.reverse b.reverse = lcs a b := by
  obtain ⟨c, h1, h2, h3⟩ := lcs_attained a b
  obtain ⟨d, k1, k2, k3⟩ := lcs_attained a.reverse b.reverse
  have := lcs_upper a.reverse b.reverse c.reverse h1.reverse h2.reverse
  have h4 := lcs_upper a b d.reverse (by simpa using k1.reverse) (by simpa using k2.reverse)
  simp at this h4
  omega
theorem lcs_suffix (c a b : List α) : lcs (a ++ c) (b ++ c) = c.length + lcs a b := by
  rw [← lcs_reverse, List.reverse_append, List.reverse_append, lcs_prefix, lcs_reverse, List.length_reverse]
/-- Two parts of one text share a part as long as they overlap. -/
theorem parts_meet {β : Type} (c : List β) : ∀ s t : List β, s.Sublist c → t.Sublist c → ∃ u : List β, u.Sublist s ∧ u.Sublist t ∧ s.length + t.length ≤ c.length + u.length := by
  induction c with
  | nil => intro s t hs ht; simp at hs ht; subst hs; subst ht; exact ⟨[], by simp, by simp, by simp⟩
  | cons x c ih =>
    intro s t hs ht
    cases hs with
    | cons _ h1 =>
      cases ht with
      | cons _ h2 => obtain ⟨u, a, b, d⟩ := ih s t h1 h2; exact ⟨u, a, b, by simp only [List.length_cons]; omega⟩
      | @cons_cons t' _ _ h2 => obtain ⟨u, a, b, d⟩ := ih s t' h1 h2; exact ⟨u, a, b.cons x, by simp only [List.length_cons]; omega⟩
    | @cons_cons s' _ _ h1 =>
      cases ht with
      | cons _ h2 => obtain ⟨u, a, b, d⟩ := ih s' t h1 h2; exact ⟨u, a.cons x, b, by simp only [List.length_cons]; omega⟩
      | @cons_cons t' _ _ h2 => obtain ⟨u, a, b, d⟩ := ih s' t' h1 h2; exact ⟨x :: u, a.cons_cons x, b.cons_cons x, by simp only [List.length_cons]; omega⟩
theorem lcs_triangle (a b c : List α) : lcs a c + lcs c b ≤ c.length + lcs a b := by
  obtain ⟨s, s1, s2, s3⟩ := lcs_attained a c
  obtain ⟨t, t1, t2, t3⟩ := lcs_attained c b
  obtain ⟨u, u1, u2, u3⟩ := parts_meet c s t s2 t1
  have := lcs_upper a b u (u1.trans s1) (u2.trans t2)
  omega
theorem lcs_full (a b : List α) (h : a.length + b.length = 2 * lcs a b) : a = b := by
  have ha := lcs_le_left a b
  have hb := lcs_le_right a b
  obtain ⟨c, h1, h2, h3⟩ := lcs_attained a b
  have e1 := h1.eq_of_length (by omega)
  have e2 := h2.eq_of_length (by omega)
  rw [← e1, ← e2]
/-- One character more at the front of the first changes it by at most one. -/
theorem lcs_drop_le (x : α) (xs b : List α) : lcs xs b ≤ lcs (x :: xs) b ∧ lcs (x :: xs) b ≤ lcs xs b + 1 := by
  constructor
  · obtain ⟨c, h1, h2, h3⟩ := lcs_attained xs b
    have := lcs_upper (x :: xs) b c (h1.cons x) h2
    omega
  · obtain ⟨c, h1, h2, h3⟩ := lcs_attained (x :: xs) b
    cases h1 with
    | cons _ h => have := lcs_upper xs b c h h2; omega
    | @cons_cons c' _ _ h =>
      have := lcs_upper xs b c' h ((List.sublist_cons_self x c').trans h2)
      simp only [List.length_cons] at h3
      omega
/-- What a walk through both texts keeps: equal heads are kept; else the first's head is left out where that loses nothing. -/
def keptL : List α → List α → List α
  | [], _ => []
  | _ :: _, [] => []
  | x :: xs, y :: ys => if x = y then x :: keptL xs ys else if lcs xs (y :: ys) = lcs (x :: xs) (y :: ys) then keptL xs (y :: ys) else keptL (x :: xs) ys
  termination_by a b => a.length + b.length
theorem kept_nil_left (b : List α) : keptL [] b = [] := by unfold keptL; rfl
theorem kept_nil_right (a : List α) : keptL a [] = [] := by cases a <;> unfold keptL <;> rfl
theorem kept_cons (x y : α) (xs ys : List α) : keptL (x :: xs) (y :: ys) = if x = y then x :: keptL xs ys else if lcs xs (y :: ys) = lcs (x :: xs) (y :: ys) then keptL xs (y :: ys) else keptL (x :: xs) ys := by rw [keptL]
/-- It is a part of both, of the greatest length. -/
theorem kept_spec (n : Nat) : ∀ a b : List α, a.length + b.length ≤ n → (keptL a b).Sublist a ∧ (keptL a b).Sublist b ∧ (keptL a b).length = lcs a b := by
  induction n with
  | zero =>
    intro a b h
    have ha : a = [] := List.length_eq_zero_iff.1 (by omega)
    subst ha
    rw [kept_nil_left, lcs_nil_left]
    simp
  | succ n ih =>
    intro a b h
    cases a with
    | nil => rw [kept_nil_left, lcs_nil_left]; simp
    | cons x xs =>
      cases b with
      | nil => rw [kept_nil_right, lcs_nil_right]; simp
      | cons y ys =>
        simp only [List.length_cons] at h
        rw [kept_cons]
        by_cases e : x = y
        · subst e
          rw [if_pos rfl, lcs_cons_eq]
          obtain ⟨h1, h2, h3⟩ := ih xs ys (by omega)
          exact ⟨h1.cons_cons x, h2.cons_cons x, by rw [List.length_cons, h3]⟩
        · rw [if_neg e]
          by_cases e2 : lcs xs (y :: ys) = lcs (x :: xs) (y :: ys)
          · rw [if_pos e2]
            obtain ⟨h1, h2, h3⟩ := ih xs (y :: ys) (by rw [List.length_cons]; omega)
            exact ⟨h1.cons x, h2, by rw [h3, e2]⟩
          · rw [if_neg e2]
            obtain ⟨h1, h2, h3⟩ := ih (x :: xs) ys (by rw [List.length_cons]; omega)
            refine ⟨h1, h2.cons y, ?_⟩
            rw [h3]
            have h4 := lcs_cons_ne e xs ys
            omega
end Go.Proofs.Ytjnciljimacblaa.JotDiff
