/- DiffMetric, as a plain law: Distance is a distance. -/
import Derived.Test.YtjnciljimacblaaPD
import Derived.Test.YtjnciljimacblaaQx5
namespace Go.Proofs.Ytjnciljimacblaa.Pure
set_option linter.unusedVariables false
set_option linter.unusedSimpArgs false
open Go.RowKit Go.Proofs.Ytjnciljimacblaa.Q Go.Proofs.Ytjnciljimacblaa.P Go.Proofs.YtjnciljimacblaaW.PrintWords
theorem metric_j0 (A B C : ByteArray) (hA : A.size ≤ 200) (hB : B.size ≤ 200) (hC : C.size ≤ 200) : jotterlaw17_DiffMetric.j0 1 A B (distS A B) (distS B A) (distS A C) (distS C B) (distS A A) false = some true := by
  have l1 := L_length A
  have l2 := L_length B
  have l3 := L_length C
  have h1 := JotDiff.lcs_le_left (L A) (L B)
  have h2 := JotDiff.lcs_le_right (L A) (L B)
  have h3 := JotDiff.lcs_comm (L A) (L B)
  have h4 := JotDiff.lcs_self (L A)
  have h5 := JotDiff.lcs_triangle (L A) (L B) (L C)
  have h6 := JotDiff.lcs_le_left (L A) (L C)
  have h7 := JotDiff.lcs_le_right (L A) (L C)
  have h8 := JotDiff.lcs_le_left (L C) (L B)
  have h9 := JotDiff.lcs_le_right (L C) (L B)
  have hq : ((distS A B == 0) != (A.toList == B.toList)) = false := by
    rw [toList_L, toList_L, bne_eq_false_iff_eq, Bool.eq_iff_iff, beq_iff_eq, beq_iff_eq, distS_eq]
    constructor
    · intro h
      exact JotDiff.lcs_full _ _ (by omega)
    · intro h
      rw [h] at h1 ⊢
      have := JotDiff.lcs_self (L B)
      omega
  simp only [jotterlaw17_DiffMetric.j0]
  rw [hq]
  simp only [distS_eq, h4, ← h3]
  rw [wrap_in (n := ((L A).length : Int) + (L C).length - 2 * (JotDiff.lcs (L A) (L C) : Nat) + (((L C).length : Int) + (L B).length - 2 * (JotDiff.lcs (L C) (L B) : Nat))) (by omega) (by omega),
    wrap_in (n := (A.size : Int) - B.size) (by omega) (by omega), wrap_in (n := (B.size : Int) - A.size) (by omega) (by omega), wrap_in (n := (A.size : Int) + B.size) (by omega) (by omega)]
  rw [if_neg (by simp), if_neg (by simp), if_pos (by omega), if_pos (by omega), if_neg (by omega), if_pos (by omega), if_pos (by omega), decide_eq_true (by omega)]
theorem DiffMetric (a b c : ByteArray) (ha : a.size ≤ 140737488351232) (hb : b.size ≤ 140737488351232) (hc : c.size ≤ 140737488351232) : ∃ k, jotterlaw17_DiffMetric.f k a b c = some true := by
  refine ⟨1, ?_⟩
  have s1 := plainT_size a 200
  have s2 := plainT_size b 200
  have s3 := plainT_size c 200
  have p1 := plainT_ok a 200
  have p2 := plainT_ok b 200
  have p3 := plainT_ok c 200
  have e1 : jotterlaw17_plain.f a 200 = some (plainT a 200) := plain_f a 200 (by omega)
  have e2 : jotterlaw17_plain.f b 200 = some (plainT b 200) := plain_f b 200 (by omega)
  have e3 : jotterlaw17_plain.f c 200 = some (plainT c 200) := plain_f c 200 (by omega)
  unfold jotterlaw17_DiffMetric.f
  rw [e1, e2, e3]
  generalize plainT a 200 = A at *
  generalize plainT b 200 = B at *
  generalize plainT c 200 = C at *
  simp only [Option.bind_some]
  rw [dist_f (a := A) (b := B) (by omega) (by omega) p1 p2, dist_f (a := B) (b := A) (by omega) (by omega) p2 p1, dist_f (a := A) (b := C) (by omega) (by omega) p1 p3, dist_f (a := C) (b := B) (by omega) (by omega) p3 p2, dist_f (a := A) (b := A) (by omega) (by omega) p1 p1]
  simp only [Option.bind_some, if_true]
  exact metric_j0 A B C s1 s2 s3
end Go.Proofs.Ytjnciljimacblaa.Pure
