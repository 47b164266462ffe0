/- DocUndo, as a plain law: in and out again, out and in again, leave the text. -/
import Derived.Test.YtjdhoipaanlipaaPApply
import Derived.Test.YtjdhoipaanlipaaPSame
import Derived.Test.YtjdhoipaanlipaaQx24
import Derived.Test.YtjdhoipaanlipaaOpenT
namespace Go.Proofs.Ytjdhoipaanlipaa.Pure
set_option linter.unusedVariables false
set_option linter.unusedSimpArgs false
open Go.RowKit Go.Proofs.Ytjdhoipaanlipaa.Q Go.Proofs.Ytjdhoipaanlipaa.P Go.Proofs.Ytjdhoipaanlipaa.OpenS Go.Proofs.YtjdhoipaanlipaaW.PrintWords
theorem put_ins (d : List S24) (p c a b : Int) : putS d ⟨1, p, c, a, b⟩ = d.take p.toNat ++ ([⟨c, a, b⟩] ++ d.drop p.toNat) := by unfold putS; rw [if_pos rfl]
theorem put_del (d : List S24) (p c a b : Int) : putS d ⟨2, p, c, a, b⟩ = d.take p.toNat ++ d.drop (p.toNat + 1) := by unfold putS; rw [if_neg (by simp), if_pos rfl]
theorem put_nop (d : List S24) (p c a b : Int) : putS d ⟨0, p, c, a, b⟩ = d := by unfold putS; rw [if_neg (by simp), if_neg (by simp)]
theorem ins_del (d : List S24) (p c a b c' a' b' : Int) (hp : p.toNat ≤ d.length) : putS (putS d ⟨1, p, c, a, b⟩) ⟨2, p, c', a', b'⟩ = d := by
  rw [put_ins, put_del]
  have h : (d.take p.toNat).length = p.toNat := by rw [List.length_take]; omega
  rw [List.take_append_of_le_length (by omega), List.take_of_length_le (by omega), List.drop_append, h, List.drop_of_length_le (by omega)]
  rw [show p.toNat + 1 - p.toNat = 1 by omega]
  simp
theorem del_ins (d : List S24) (p c a b : Int) (hp : p.toNat < d.length) : putS (putS d ⟨2, p, c, a, b⟩) ⟨1, p, (d.getD p.toNat z24).f0, (d.getD p.toNat z24).f1, (d.getD p.toNat z24).f2⟩ = d := by
  rw [put_del, put_ins]
  have h : (d.take p.toNat).length = p.toNat := by rw [List.length_take]; omega
  rw [List.take_append_of_le_length (by omega), List.take_of_length_le (by omega), List.drop_append, h, List.drop_of_length_le (by omega), show p.toNat - p.toNat = 0 by omega, List.drop_zero, List.nil_append]
  have e : d.drop p.toNat = d.getD p.toNat z24 :: d.drop (p.toNat + 1) := drop_getD z24 d _ hp
  conv => rhs; rw [← List.take_append_drop p.toNat d, e]
  rfl
theorem undo_j5 (d : List S24) (p : Int) (h0 : 0 ≤ p) (hp : p < d.length) (hd : d.length ≤ 4095) (less : List S24) (hless : less = putS d ⟨2, p, 0, 9, 2⟩) (x : S24) (hx : x = d.getD p.toNat z24) (hok : ElemOk x) (may : Bool)
    (hm : may = true ↔ (32 ≤ x.f0 ∧ x.f0 ≤ 126 ∧ 1 ≤ x.f1 ∧ x.f1 ≤ 64 ∧ 1 ≤ x.f2 ∧ x.f2 ≤ 64)) : Ev (fun k => jotterlaw04_DocUndo.j5 k d less may 1 p x.f0 x.f1 x.f2) true := by
  have hdel : validS ⟨2, p, 0, 9, 2⟩ = 0 := valid_ok (by simp) (by simp) (by simp) (by simp) (by simp) (by simp) (by simp) (by simp) (by simp) h0 (by show p < 4096; omega)
  have f2 : fitsS d.length ⟨2, p, 0, 9, 2⟩ = 0 := fits_ok hdel (by omega) (by omega) (by simp) (fun _ => hp)
  have hl : less.length = d.length - 1 := by rw [hless, put_length f2]; simp
  have hch := hok.f0
  have a := docApply less ⟨1, p, x.f0, x.f1, x.f2⟩ ⟨hch.1, hch.2⟩
  refine Ev.step (fun k => by rw [jotterlaw04_DocUndo.j5]) (Ev.bind a ?_)
  cases may with
  | true =>
    obtain ⟨m1, m2, m3, m4, m5, m6⟩ := hm.1 rfl
    have hv : validS ⟨1, p, x.f0, x.f1, x.f2⟩ = 0 := valid_ok (by simp) (by simp) m3 m4 m5 m6 (fun _ => ⟨m1, m2⟩) (by simp) (by simp) h0 (by show p < 4096; omega)
    have f : fitsS less.length ⟨1, p, x.f0, x.f1, x.f2⟩ = 0 := fits_ok hv (by omega) (by omega) (fun _ => ⟨by omega, by show p ≤ _; omega⟩) (by simp)
    have e : putS less ⟨1, p, x.f0, x.f1, x.f2⟩ = d := by rw [hless, hx]; exact del_ins d p 0 9 2 (by omega)
    rw [apply_ok f, e]
    exact Ev.pos rfl (Ev.pos rfl (Ev.bind (sameSelf d (by omega)) (Ev.now _)))
  | false =>
    have hn : validS ⟨1, p, x.f0, x.f1, x.f2⟩ ≠ 0 := by
      intro hv
      have v := valid_zero hv
      have v6 := v.2.2.2.2.2.2.1 rfl
      simp only at v v6
      exact absurd (hm.2 ⟨v6.1, v6.2, v.2.2.1, v.2.2.2.1, v.2.2.2.2.1, v.2.2.2.2.2.1⟩) (by simp)
    have f : fitsS less.length ⟨1, p, x.f0, x.f1, x.f2⟩ ≠ 0 := fun h => hn (fits_zero h).1
    rw [apply_err f]
    exact Ev.neg (by simp) (Ev.neg f (Ev.now _))
theorem undo_j4 (d : List S24) (p : Int) (h0 : 0 ≤ p) (hp : p < d.length) (hd : d.length ≤ 4095) (less : List S24) (hless : less = putS d ⟨2, p, 0, 9, 2⟩) (x : S24) (hx : x = d.getD p.toNat z24) (hok : ElemOk x) : Ev (fun k => jotterlaw04_DocUndo.j4 k d p less false x.f0 x.f1 x.f2) true := by
  have J := fun may hm => undo_j5 d p h0 hp hd less hless x hx hok may hm
  refine Ev.step (fun k => by rw [jotterlaw04_DocUndo.j4]) (Ev.neg (by simp) ?_)
  by_cases c1 : x.f0 ≥ 32
  · refine Ev.pos c1 ?_
    by_cases c2 : x.f0 ≤ 126
    · refine Ev.pos c2 ?_
      by_cases c3 : x.f1 ≥ 1
      · refine Ev.pos c3 ?_
        by_cases c4 : x.f1 ≤ 64
        · refine Ev.pos c4 ?_
          by_cases c5 : x.f2 ≥ 1
          · refine Ev.pos c5 (J _ ?_)
            rw [decide_eq_true_iff]
            omega
          · exact Ev.neg c5 (J false (by simp; omega))
        · exact Ev.neg c4 (J false (by simp; omega))
      · exact Ev.neg c3 (J false (by simp; omega))
    · exact Ev.neg c2 (J false (by simp; omega))
  · exact Ev.neg c1 (J false (by simp; omega))
theorem undo_j0 (d : List S24) (hd : d.length ≤ 4095) (ho : ∀ x ∈ d, ElemOk x) (n ch : Int) (hc : In8 ch) : Ev (fun k => jotterlaw04_DocUndo.j0 k d n ch) true := by
  obtain ⟨p, hp, p0, p1⟩ := placeS n ((d.length : Int) + 1) (by omega) (by omega)
  have c := chS ch hc.1 hc.2
  generalize hx : (32 + Int.tmod ch 95) % 256 = x at c
  have hin : validS ⟨1, p, x, 7, 64⟩ = 0 := valid_ok (by simp) (by simp) (by simp) (by simp) (by simp) (by simp) (fun _ => c) (by simp) (by simp) p0 (by show p < 4096; omega)
  have f1 : fitsS d.length ⟨1, p, x, 7, 64⟩ = 0 := fits_ok hin (by omega) (by omega) (fun _ => ⟨by omega, by show p ≤ _; omega⟩) (by simp)
  have hl1 : (putS d ⟨1, p, x, 7, 64⟩).length = d.length + 1 := by rw [put_length f1]; simp
  have hat : (putS d ⟨1, p, x, 7, 64⟩).getD p.toNat z24 = ⟨x, 7, 64⟩ := by
    rw [put_ins, List.getD_eq_getElem?_getD, List.getElem?_append_right (by rw [List.length_take]; exact Nat.min_le_left _ _), List.length_take, Nat.min_eq_left (by omega)]
    simp
  have hback : putS (putS d ⟨1, p, x, 7, 64⟩) ⟨2, p, 0, 9, 1⟩ = d := ins_del d p x 7 64 0 9 1 (by omega)
  generalize hT : putS d ⟨1, p, x, 7, 64⟩ = T at hl1 hat hback
  have hdel : validS ⟨2, p, 0, 9, 1⟩ = 0 := valid_ok (by simp) (by simp) (by simp) (by simp) (by simp) (by simp) (by simp) (by simp) (by simp) p0 (by show p < 4096; omega)
  have f2 : fitsS T.length ⟨2, p, 0, 9, 1⟩ = 0 := fits_ok hdel (by omega) (by omega) (by simp) (fun _ => by show p < _; omega)
  have hnop : validS ⟨0, 0, 0, 64, 1⟩ = 0 := by decide
  have f3 : fitsS d.length ⟨0, 0, 0, 64, 1⟩ = 0 := fits_ok hnop (by omega) (by omega) (by simp) (by simp)
  have a1 := docApply d ⟨1, p, x, 7, 64⟩ (by show 0 ≤ x ∧ x ≤ 255; omega)
  have a2 := docApply T ⟨2, p, 0, 9, 1⟩ ⟨Int.le_refl 0, by show (0 : Int) ≤ 255; omega⟩
  have a3 := docApply d ⟨0, 0, 0, 64, 1⟩ (by decide)
  rw [apply_ok f1, hT] at a1
  rw [apply_ok f2, hback] at a2
  rw [apply_ok f3, put_nop] at a3
  have s := sameSelf d (by omega)
  refine Ev.step (fun k => by rw [jotterlaw04_DocUndo.j0]) ?_
  rw [wrap_in (n := (d.length : Int) + 1) (by omega) (by omega), hx]
  have r : rd_T24 T p = ⟨x, 7, 64⟩ := by unfold rd_T24; exact hat
  refine Ev.bind (Ev.const hp) (Ev.bind a1 (Ev.pos rfl (Ev.pos (by show (T.length : Int) = _; omega) (Ev.pos p0 (Ev.pos (by show p < (T.length : Int); omega) ?_)))))
  show Ev (fun k => if (rd_T24 T p).f1 = 7 then (if (rd_T24 T p).f2 = 64 then jotterlaw04_DocUndo.j1 k d p T ((rd_T24 T p).f0 != x) else jotterlaw04_DocUndo.j1 k d p T true) else jotterlaw04_DocUndo.j1 k d p T true) true
  rw [r]
  refine Ev.pos rfl (Ev.pos rfl ?_)
  refine Ev.step (fun k => by rw [jotterlaw04_DocUndo.j1]) ?_
  refine Ev.neg (by simp) (Ev.bind a2 (Ev.bind s (Ev.pos rfl ?_)))
  refine Ev.step (fun k => by rw [jotterlaw04_DocUndo.j2]) ?_
  refine Ev.neg (by simp) (Ev.bind a3 (Ev.pos rfl (Ev.bind s ?_)))
  refine Ev.step (fun k => by rw [jotterlaw04_DocUndo.j3]) ?_
  refine Ev.neg (by simp) ?_
  by_cases e : p = d.length
  · exact Ev.pos e (Ev.now _)
  · have hlt : p < d.length := by omega
    refine Ev.neg e (Ev.pos p0 (Ev.pos hlt ?_))
    have hdel2 : validS ⟨2, p, 0, 9, 2⟩ = 0 := valid_ok (by simp) (by simp) (by simp) (by simp) (by simp) (by simp) (by simp) (by simp) (by simp) p0 (by show p < 4096; omega)
    have f4 : fitsS d.length ⟨2, p, 0, 9, 2⟩ = 0 := fits_ok hdel2 (by omega) (by omega) (by simp) (fun _ => hlt)
    have hl4 : (putS d ⟨2, p, 0, 9, 2⟩).length = d.length - 1 := by rw [put_length f4]; simp
    have a4 := docApply d ⟨2, p, 0, 9, 2⟩ ⟨Int.le_refl 0, by show (0 : Int) ≤ 255; omega⟩
    rw [apply_ok f4] at a4
    have rd : rd_T24 d p = d.getD p.toNat z24 := rfl
    rw [rd]
    refine Ev.bind a4 (Ev.pos rfl ?_)
    have hne : (((putS d ⟨2, p, 0, 9, 2⟩).length : Int) != wrap64 ((d.length : Int) - 1)) = false := by
      rw [wrap_in (by omega) (by omega), bne_eq_false_iff_eq]
      omega
    show Ev (fun k => jotterlaw04_DocUndo.j4 k d p (putS d ⟨2, p, 0, 9, 2⟩) (((putS d ⟨2, p, 0, 9, 2⟩).length : Int) != wrap64 ((d.length : Int) - 1)) (d.getD p.toNat z24).f0 (d.getD p.toNat z24).f1 (d.getD p.toNat z24).f2) true
    rw [hne]
    exact undo_j4 d p p0 hlt hd _ rfl _ rfl (by rw [getD_at _ _ _ (by omega)]; exact ho _ (List.getElem_mem _))
theorem DocUndo (d : List S24) (n ch : Int) (hd : d.length ≤ 5864062014634) (ho : ∀ x ∈ d, ElemOk x) (hn : In64 n) (hc : In8 ch) : ∃ k, jotterlaw04_DocUndo.f k d n ch = some true := by
  refine Ev.rounds (g := fun k => jotterlaw04_DocUndo.f k d n ch) ?_
  unfold jotterlaw04_DocUndo.f
  by_cases h : (d.length : Int) ≥ 4096
  · exact Ev.pos h (Ev.pos (by omega) (undo_j0 (d.take 4095) (by rw [List.length_take]; omega) (fun x hx => ho x (List.mem_of_mem_take hx)) n ch hc))
  · exact Ev.neg h (undo_j0 d (by omega) ho n ch hc)
end Go.Proofs.Ytjdhoipaanlipaa.Pure
