/- DiffFresh: what the walk's hypotheses ask, in plain Lean. -/
import Derived.Test.YtjnciljimacblaaPU
import Derived.Test.YtjnciljimacblaaFreshAll
namespace Go.Proofs.Ytjnciljimacblaa.Pure
set_option linter.unusedVariables false
set_option linter.unusedSimpArgs false
open Go.RowKit Go.Proofs.Ytjnciljimacblaa.Q Go.Proofs.Ytjnciljimacblaa.P Go.Proofs.YtjnciljimacblaaW.PrintWords
theorem one_refl (o : S38) : jotterlaw17_one.f o.f0 o.f1 o.f2 o.f3 o.f4 o.f0 o.f1 o.f2 o.f3 o.f4 = some true := by
  unfold jotterlaw17_one.f
  rw [if_pos rfl, if_pos rfl, if_pos rfl, if_pos rfl, beq_self_eq_true]
theorem lines_l0 (x : List S38) (hx : x.length ≤ 5000) (n : Nat) : ∀ i : Nat, i + n = x.length → Ev (fun k => jotterlaw17_lines.l0 k x x i) true := by
  induction n with
  | zero =>
    intro i hi
    exact Ev.step (fun k => by rw [jotterlaw17_lines.l0]) (Ev.neg (by omega) (Ev.now _))
  | succ n ih =>
    intro i hi
    refine Ev.step (fun k => by rw [jotterlaw17_lines.l0]) (Ev.pos (by omega) (Ev.pos (by omega) (Ev.pos (by omega) (Ev.bind (Ev.const (one_refl _)) (Ev.pos rfl ?_)))))
    rw [wrap_in (by omega) (by omega)]
    exact ih (i + 1) (by omega)
theorem lines_f (x : List S38) (hx : x.length ≤ 5000) : Ev (fun k => jotterlaw17_lines.f k x x) true := by
  unfold jotterlaw17_lines.f
  exact Ev.pos rfl (lines_l0 x hx x.length 0 (Nat.zero_add _))
/-- Two texts of up to 32 characters that end otherwise. -/
theorem between_few (A B : ByteArray) (hA : A.size ≤ 32) (hB : B.size ≤ 32) (pA : plainE A = 0) (pB : plainE B = 0) (hne : A ≠ B) : ∃ x : List S38, diff_Between.f A B 2 1 = some (x, 0) ∧ 0 < x.length ∧ x.length ≤ 64 := by
  have hc := check_ok (a := A) (b := B) (by omega) (by omega) pA pB
  have hd := distS_eq A B
  rw [L_length, L_length] at hd
  have hlen := ops_length 2 1 _ (L A) (L B) 0 0 (Nat.le_refl _)
  rw [L_length, L_length] at hlen
  refine ⟨opsI 2 1 A B 0 0 0, ?_, ?_⟩
  · unfold diff_Between.f
    rw [if_pos (by omega)]
    unfold betweenS
    rw [if_neg (by rw [hc]; simp), if_neg (by omega), if_neg (by omega)]
  · have e : opsI 2 1 A B 0 0 0 = opsL 2 1 (L A) (L B) 0 0 := rfl
    rw [e]
    refine ⟨?_, by omega⟩
    rcases Nat.eq_zero_or_pos (opsL 2 1 (L A) (L B) 0 0).length with h | h
    · exfalso
      rw [h] at hlen
      have := JotDiff.lcs_full (L A) (L B) (by rw [L_length, L_length]; omega)
      exact hne (L_inj this)
    · exact h
theorem DiffFresh (a b : ByteArray) (ha : a.size ≤ 140737488351232) (hb : b.size ≤ 140737488351232) :
    ∃ _k : Nat, ∀ W : World, Calls Try.prog 6 #[.string a, .string b] W fun e w' => e = .returned (.bool true) ∧ Below W.heap.size W w' := by
  have s1 := plainT_size a 30
  have s2 := plainT_size b 30
  have e1 : jotterlaw17_plain.f a 30 = some (plainT a 30) := plain_f a 30 (by omega)
  have e2 : jotterlaw17_plain.f b 30 = some (plainT b 30) := plain_f b 30 (by omega)
  have q1 : (⟨#[126, 33]⟩ : ByteArray).size = 2 := rfl
  have q2 : (⟨#[33, 126]⟩ : ByteArray).size = 2 := rfl
  have pA : plainE (plainT a 30 ++ (⟨#[126, 33]⟩ : ByteArray)) = 0 := plainE_append (plainT_ok a 30) (by decide)
  have pB : plainE (plainT b 30 ++ (⟨#[33, 126]⟩ : ByteArray)) = 0 := plainE_append (plainT_ok b 30) (by decide)
  have zA : (plainT a 30 ++ (⟨#[126, 33]⟩ : ByteArray)).size ≤ 32 := by rw [size_append, q1]; omega
  have zB : (plainT b 30 ++ (⟨#[33, 126]⟩ : ByteArray)).size ≤ 32 := by rw [size_append, q2]; omega
  have hne : plainT a 30 ++ (⟨#[126, 33]⟩ : ByteArray) ≠ plainT b 30 ++ (⟨#[33, 126]⟩ : ByteArray) := by
    intro h
    have h2 := congrArg (fun s => (L s).getLast?) h
    simp only [L_append] at h2
    have l1 : L (⟨#[126, 33]⟩ : ByteArray) = [126, 33] := rfl
    have l2 : L (⟨#[33, 126]⟩ : ByteArray) = [33, 126] := rfl
    rw [l1, l2] at h2
    simp [List.getLast?_append] at h2
  obtain ⟨x, hx⟩ := between_few _ _ zA zB pA pB hne
  obtain ⟨y, hy⟩ := between_few _ _ zB zA pB pA (Ne.symm hne)
  obtain ⟨k1, h1⟩ := lines_f x (by omega)
  obtain ⟨k2, h2⟩ := lines_f y (by omega)
  refine ⟨0, fun W => ?_⟩
  exact G.fresh_calls (max k1 k2) a b _ _ x y W e1 e2 s1 s2 hx hy (h1 _ (Nat.le_max_left _ _)) (h2 _ (Nat.le_max_right _ _))
end Go.Proofs.Ytjnciljimacblaa.Pure
