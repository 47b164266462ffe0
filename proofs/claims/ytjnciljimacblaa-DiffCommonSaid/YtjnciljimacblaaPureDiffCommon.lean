/- DiffCommon, as a plain law: Common is a part of both, and no part is longer. -/
import Derived.Test.YtjnciljimacblaaPD
import Derived.Test.YtjnciljimacblaaQx19
namespace Go.Proofs.Ytjnciljimacblaa.Pure
set_option linter.unusedVariables false
set_option linter.unusedSimpArgs false
open Go.RowKit Go.Proofs.Ytjnciljimacblaa.Q Go.Proofs.Ytjnciljimacblaa.P Go.Proofs.YtjnciljimacblaaW.PrintWords
/-- The characters at the places that a list names. -/
def pickL : List UInt8 → List Bool → List UInt8
  | x :: xs, b :: bs => if b = true then x :: pickL xs bs else pickL xs bs
  | _, _ => []
theorem pick_nil_left (l : List Bool) : pickL [] l = [] := by unfold pickL; rfl
theorem pick_nil_right (a : List UInt8) : pickL a [] = [] := by cases a <;> rfl
theorem pick_part : ∀ (a : List UInt8) (l : List Bool), (pickL a l).Sublist a
  | [], l => by rw [pick_nil_left]; exact List.Sublist.refl _
  | x :: xs, [] => by rw [pick_nil_right]; exact List.nil_sublist _
  | x :: xs, b :: bs => by
    unfold pickL
    by_cases h : b = true
    · rw [if_pos h]; exact (pick_part xs bs).cons_cons x
    · rw [if_neg h]; exact (pick_part xs bs).cons x
theorem picked_l0 (a : ByteArray) (l : List Bool) (ha : a.size ≤ 300) (n : Nat) : ∀ (i : Nat) (xs : List Int), i + n = a.size → xs.length ≤ i →
    Ev (fun k => jotterlaw17_picked.l0 k a l xs i) (strOfNums (xs ++ numsOf (pickL ((L a).drop i) (l.drop i)))) := by
  induction n with
  | zero =>
    intro i xs hi hx
    refine Ev.from_ 2 fun k => ?_
    simp only [jotterlaw17_picked.l0]
    rw [if_neg (by omega)]
    simp only [jotterlaw17_picked.j1]
    rw [if_neg (by simp), List.drop_of_length_le (l := L a) (by rw [L_length]; omega), pick_nil_left]
    simp [numsOf]
  | succ n ih =>
    intro i xs hi hx
    have hia : i < (L a).length := by rw [L_length]; omega
    refine Ev.step (fun k => by rw [jotterlaw17_picked.l0]) (Ev.pos (by omega) ?_)
    refine Ev.step (fun k => by rw [jotterlaw17_picked.j1]) ?_
    by_cases hl : i < l.length
    · refine Ev.pos (decide_eq_true (by omega)) (Ev.pos (by omega) (Ev.pos (by omega) ?_))
      rw [List.drop_eq_getElem_cons hia, List.drop_eq_getElem_cons hl, wrap_in (by omega) (by omega), bt_L a i (by omega)]
      have hr : rdOf false l (i : Int) = l[i] := by
        unfold rdOf
        rw [Int.toNat_natCast, List.getD_eq_getElem?_getD, List.getElem?_eq_getElem hl]
        rfl
      rw [hr]
      unfold pickL
      by_cases hb : l[i] = true
      · refine Ev.pos hb (Ev.pos (by omega) (Ev.pos (by omega) ?_))
        rw [if_pos hb]
        have := ih (i + 1) (xs ++ [((L a)[i].toNat : Int)]) (by omega) (by simp; omega)
        rw [List.append_assoc] at this
        exact this
      · refine Ev.neg hb ?_
        rw [if_neg hb]
        exact ih (i + 1) xs (by omega) (by omega)
    · refine Ev.neg (by simp; omega) ?_
      rw [List.drop_of_length_le (l := l) (by omega), pick_nil_right]
      simp only [numsOf, List.map_nil, List.append_nil]
      exact Ev.now _
theorem picked_f (a : ByteArray) (l : List Bool) (ha : a.size ≤ 300) : Ev (fun k => jotterlaw17_picked.f k a l) (strOfNums (numsOf (pickL (L a) l))) :=
  picked_l0 a l ha a.size 0 [] (by omega) (by simp)
theorem within_l0 (s t : ByteArray) (hs : s.size ≤ 512) (ht : t.size ≤ 512) (n : Nat) : ∀ (p i : Nat), i + n = t.size → p ≤ s.size →
    Ev (fun k => jotterlaw17_within.l0 k s t p i) (((L s).drop p).isSublist ((L t).drop i)) := by
  induction n with
  | zero =>
    intro p i hi hp
    refine Ev.from_ 2 fun k => ?_
    simp only [jotterlaw17_within.l0]
    rw [if_neg (by omega)]
    simp only [jotterlaw17_within.j1]
    rw [if_neg (by simp), List.drop_of_length_le (l := L t) (by rw [L_length]; omega)]
    congr 1
    by_cases h : p = s.size
    · rw [List.drop_of_length_le (by rw [L_length]; omega), h]
      simp [List.isSublist]
    · rw [List.drop_eq_getElem_cons (show p < (L s).length by rw [L_length]; omega)]
      simp [List.isSublist]
      omega
  | succ n ih =>
    intro p i hi hp
    have hit : i < (L t).length := by rw [L_length]; omega
    refine Ev.step (fun k => by rw [jotterlaw17_within.l0]) (Ev.pos (by omega) ?_)
    refine Ev.step (fun k => by rw [jotterlaw17_within.j1]) ?_
    by_cases h : p < s.size
    · have hps : p < (L s).length := by rw [L_length]; omega
      refine Ev.pos (decide_eq_true (by omega)) (Ev.pos (by omega) (Ev.pos (by omega) (Ev.pos (by omega) (Ev.pos (by omega) ?_))))
      rw [bt_L t i (by omega), bt_L s p (by omega), wrap_in (by omega) (by omega), wrap_in (by omega) (by omega)]
      rw [List.drop_eq_getElem_cons hps, List.drop_eq_getElem_cons hit]
      by_cases e : (L s)[p] = (L t)[i]
      · refine Ev.pos (by rw [e]) ?_
        have h1 := ih (p + 1) (i + 1) (by omega) (by omega)
        have e2 : ((L s)[p] :: (L s).drop (p + 1)).isSublist ((L t)[i] :: (L t).drop (i + 1)) = ((L s).drop (p + 1)).isSublist ((L t).drop (i + 1)) := by
          simp [List.isSublist, e]
        rw [e2]
        exact h1
      · refine Ev.neg (fun h2 => e (UInt8.toNat_inj.1 (by omega))) ?_
        have h1 := ih p (i + 1) (by omega) (by omega)
        rw [List.drop_eq_getElem_cons hps] at h1
        have e2 : ((L s)[p] :: (L s).drop (p + 1)).isSublist ((L t)[i] :: (L t).drop (i + 1)) = ((L s)[p] :: (L s).drop (p + 1)).isSublist ((L t).drop (i + 1)) := by
          simp [List.isSublist, e]
        rw [e2]
        exact h1
    · refine Ev.neg (by simp; omega) ?_
      rw [List.drop_of_length_le (l := L s) (by rw [L_length]; omega)]
      have : p = s.size := by omega
      subst this
      simp only [List.isSublist, beq_self_eq_true]
      exact Ev.now _
theorem within_f (s t : ByteArray) (hs : s.size ≤ 512) (ht : t.size ≤ 512) : Ev (fun k => jotterlaw17_within.f k s t) ((L s).isSublist (L t)) :=
  within_l0 s t hs ht t.size 0 0 (by omega) (by omega)
theorem common_f {a b : ByteArray} (ha : a.size ≤ 512) (hb : b.size ≤ 512) (pa : plainE a = 0) (pb : plainE b = 0) : diff_Common.f a b = some (keptT a b, 0) := by
  unfold diff_Common.f
  rw [if_pos (check_ok ha hb pa pb)]
theorem L_kept (a b : ByteArray) : L (keptT a b) = JotDiff.keptL (L a) (L b) := L_nums _
theorem DiffCommon (a b : ByteArray) (l : List Bool) (ha : a.size ≤ 140737488351232) (hb : b.size ≤ 140737488351232) : ∃ k, jotterlaw17_DiffCommon.f k a b l = some true := by
  have s1 := plainT_size a 300
  have s2 := plainT_size b 300
  have p1 := plainT_ok a 300
  have p2 := plainT_ok b 300
  have e1 : jotterlaw17_plain.f a 300 = some (plainT a 300) := plain_f a 300 (by omega)
  have e2 : jotterlaw17_plain.f b 300 = some (plainT b 300) := plain_f b 300 (by omega)
  refine Ev.rounds (g := fun k => jotterlaw17_DiffCommon.f k a b l) ?_
  unfold jotterlaw17_DiffCommon.f
  rw [e1, e2]
  generalize plainT a 300 = A at *
  generalize plainT b 300 = B at *
  simp only [Option.bind_some]
  have hP := picked_f A l s1
  obtain ⟨P, hPe⟩ : ∃ P, P = strOfNums (numsOf (pickL (L A) l)) := ⟨_, rfl⟩
  rw [← hPe] at hP
  have hLP : L P = pickL (L A) l := by rw [hPe, L_nums]
  have hsub : (L P).Sublist (L A) := by rw [hLP]; exact pick_part _ _
  have hPs : P.size ≤ 300 := by have := hsub.length_le; rw [L_length, L_length] at this; omega
  have pP : plainE P = 0 := plainE_part hsub p1
  obtain ⟨k1, k2, k3⟩ := JotDiff.kept_spec _ (L A) (L B) (Nat.le_refl _)
  obtain ⟨m1, m2, m3⟩ := JotDiff.kept_spec _ (L A) (L P) (Nat.le_refl _)
  obtain ⟨n1, n2, n3⟩ := JotDiff.kept_spec _ (L P) (L A) (Nat.le_refl _)
  have lp := JotDiff.lcs_part hsub
  have eAP : keptT A P = P := L_inj (by rw [L_kept]; exact m2.eq_of_length (by rw [m3, lp]))
  have ePA : keptT P A = P := L_inj (by rw [L_kept]; exact n1.eq_of_length (by rw [n3, JotDiff.lcs_comm, lp]))
  have hSs : (keptT A B).size ≤ 300 := by rw [← L_length, L_kept]; have := k1.length_le; rw [L_length] at this; omega
  have wSA := within_f (keptT A B) A (by omega) (by omega)
  have wSB := within_f (keptT A B) B (by omega) (by omega)
  have wPB := within_f P B (by omega) (by omega)
  rw [L_kept] at wSA wSB
  rw [List.isSublist_iff_sublist.2 k1] at wSA
  rw [List.isSublist_iff_sublist.2 k2] at wSB
  rw [common_f (a := A) (b := B) (by omega) (by omega) p1 p2]
  simp only [Option.bind_some]
  refine Ev.bind hP ?_
  rw [common_f (a := A) (b := P) (by omega) (by omega) p1 pP, common_f (a := P) (b := A) (by omega) (by omega) pP p1, eAP, ePA]
  simp only [Option.bind_some, if_true, bne_self_eq_false]
  refine Ev.step (fun k => by rw [jotterlaw17_DiffCommon.j0]) ?_
  refine Ev.neg (by simp) (Ev.bind wSA (Ev.pos rfl (Ev.bind wSB (Ev.pos rfl (Ev.bind wPB ?_)))))
  by_cases h : (L P).isSublist (L B) = true
  · refine Ev.pos h (Ev.const ?_)
    have := JotDiff.lcs_upper (L A) (L B) (L P) hsub (List.isSublist_iff_sublist.1 h)
    rw [← k3, ← L_kept, L_length, L_length] at this
    rw [decide_eq_true (by omega)]
  · exact Ev.neg h (Ev.now _)
end Go.Proofs.Ytjnciljimacblaa.Pure
