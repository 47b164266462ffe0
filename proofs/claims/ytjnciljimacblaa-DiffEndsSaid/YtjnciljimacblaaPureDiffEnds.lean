/- DiffEnds, as a plain law: common ends count for nothing. -/
import Derived.Test.YtjnciljimacblaaPD
import Derived.Test.YtjnciljimacblaaQx6
namespace Go.Proofs.Ytjnciljimacblaa.Pure
set_option linter.unusedVariables false
set_option linter.unusedSimpArgs false
open Go.RowKit Go.Proofs.Ytjnciljimacblaa.Q Go.Proofs.Ytjnciljimacblaa.P Go.Proofs.YtjnciljimacblaaW.PrintWords
theorem ends_same (A B C : ByteArray) : distS ((C ++ A) ++ C) ((C ++ B) ++ C) = distS A B := by
  rw [distS_eq, distS_eq, L_append, L_append, L_append, L_append, JotDiff.lcs_suffix, JotDiff.lcs_prefix]
  simp only [List.length_append]
  omega
theorem ends_one (A C T S : ByteArray) (x y : UInt8) (hT : L T = [x]) (hS : L S = [y]) (h : x ≠ y) : distS ((C ++ T) ++ A) ((C ++ S) ++ A) = 2 := by
  have e : JotDiff.lcs (x :: L A) (y :: L A) = (L A).length := by
    rw [JotDiff.lcs_cons_ne h]
    have h1 : JotDiff.lcs (L A) (y :: L A) = (L A).length := by rw [JotDiff.lcs_comm]; exact JotDiff.lcs_part (List.sublist_cons_self _ _)
    have h2 : JotDiff.lcs (x :: L A) (L A) = (L A).length := JotDiff.lcs_part (List.sublist_cons_self _ _)
    rw [h1, h2]
    omega
  rw [distS_eq, L_append, L_append, L_append, L_append, hT, hS, List.append_assoc, List.append_assoc, JotDiff.lcs_prefix]
  show (((L C ++ (x :: L A)).length : Int) + ((L C ++ (y :: L A)).length : Int) - 2 * (((L C).length + JotDiff.lcs (x :: L A) (y :: L A) : Nat) : Int)) = 2
  rw [e]
  simp only [List.length_append, List.length_cons]
  omega
theorem DiffEnds (a b c : ByteArray) (ha : a.size ≤ 140737488351232) (hb : b.size ≤ 140737488351232) (hc : c.size ≤ 140737488351232) : ∃ k : Nat, jotterlaw17_DiffEnds.f a b c = some true := by
  refine ⟨1, ?_⟩
  have s1 := plainT_size a 150
  have s2 := plainT_size b 150
  have s3 := plainT_size c 150
  have p1 := plainT_ok a 150
  have p2 := plainT_ok b 150
  have p3 := plainT_ok c 150
  have e1 : jotterlaw17_plain.f a 150 = some (plainT a 150) := plain_f a 150 (by omega)
  have e2 : jotterlaw17_plain.f b 150 = some (plainT b 150) := plain_f b 150 (by omega)
  have e3 : jotterlaw17_plain.f c 150 = some (plainT c 150) := plain_f c 150 (by omega)
  unfold jotterlaw17_DiffEnds.f
  rw [e1, e2, e3]
  generalize plainT a 150 = A at *
  generalize plainT b 150 = B at *
  generalize plainT c 150 = C at *
  obtain ⟨T, hT⟩ : ∃ T : ByteArray, T = ⟨#[126]⟩ := ⟨_, rfl⟩
  obtain ⟨S, hS⟩ : ∃ S : ByteArray, S = ⟨#[33]⟩ := ⟨_, rfl⟩
  have lT : L T = [126] := by rw [hT]; rfl
  have lS : L S = [33] := by rw [hS]; rfl
  have zT : T.size = 1 := by rw [hT]; rfl
  have zS : S.size = 1 := by rw [hS]; rfl
  have pT : plainE T = 0 := by rw [plainE_zero, lT]; decide
  have pS : plainE S = 0 := by rw [plainE_zero, lS]; decide
  rw [← hT, ← hS]
  have z1 : ((C ++ A) ++ C).size = C.size + A.size + C.size := by rw [size_append, size_append]
  have z2 : ((C ++ B) ++ C).size = C.size + B.size + C.size := by rw [size_append, size_append]
  have z3 : ((C ++ T) ++ A).size = C.size + T.size + A.size := by rw [size_append, size_append]
  have z4 : ((C ++ S) ++ A).size = C.size + S.size + A.size := by rw [size_append, size_append]
  have y1 : (C ++ A).size = C.size + A.size := size_append C A
  have y2 : (C ++ B).size = C.size + B.size := size_append C B
  have y3 : (C ++ T).size = C.size + T.size := size_append C T
  have y4 : (C ++ S).size = C.size + S.size := size_append C S
  simp only [Option.bind_some]
  rw [dist_f (a := A) (b := B) (by omega) (by omega) p1 p2,
    dist_f (a := (C ++ A) ++ C) (b := (C ++ B) ++ C) (by omega) (by omega) (plainE_append (plainE_append p3 p1) p3) (plainE_append (plainE_append p3 p2) p3),
    dist_f (a := (C ++ T) ++ A) (b := (C ++ S) ++ A) (by omega) (by omega) (plainE_append (plainE_append p3 pT) p1) (plainE_append (plainE_append p3 pS) p1)]
  simp only [Option.bind_some, if_true]
  rw [if_pos (by omega), if_pos (by omega), if_pos (by omega), if_pos (by omega), if_pos (by omega), if_pos (by omega), if_pos (by omega), ends_same, if_pos rfl, ends_one A C T S 126 33 lT lS (by decide)]
  rfl
end Go.Proofs.Ytjnciljimacblaa.Pure
