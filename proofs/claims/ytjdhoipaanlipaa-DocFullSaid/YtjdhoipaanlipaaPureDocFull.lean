/- DocFull, as a plain law: a text of 4096 characters takes no insertion, but a deletion, and then an insertion again. -/
import Derived.Test.YtjdhoipaanlipaaPApply
import Derived.Test.YtjdhoipaanlipaaPSame
import Derived.Test.YtjdhoipaanlipaaQx25
import Derived.Test.YtjdhoipaanlipaaOpenT
namespace Go.Proofs.Ytjdhoipaanlipaa.Pure
set_option linter.unusedVariables false
set_option linter.unusedSimpArgs false
open Go.RowKit Go.Proofs.Ytjdhoipaanlipaa.Q Go.Proofs.Ytjdhoipaanlipaa.P Go.Proofs.Ytjdhoipaanlipaa.OpenS Go.Proofs.YtjdhoipaanlipaaW.PrintWords
theorem fits_is {n : Int} {o : S30} {e : Int} (h : fitsS n o = e) : fitsS n o = e := h
theorem full_end (d : List S24) (hd : d.length = 4096) (n ch : Int) (hn : In64 n) (hc : In8 ch) : Ev (fun k => jotterlaw04_DocFull.l0 k n ch d 4096) true := by
  obtain ⟨p, hp, p0, p1⟩ := placeS n 4096 (by omega) (by omega)
  have c := chS ch hc.1 hc.2
  generalize hx : (32 + Int.tmod ch 95) % 256 = x at c
  have hin : validS ⟨1, p, x, 3, 3⟩ = 0 := valid_ok (by simp) (by simp) (by simp) (by simp) (by simp) (by simp) (fun _ => c) (by simp) (by simp) p0 p1
  have hdel : validS ⟨2, p, 0, 3, 4⟩ = 0 := valid_ok (by simp) (by simp) (by simp) (by simp) (by simp) (by simp) (by simp) (by simp) (by simp) p0 p1
  have hdel2 : validS ⟨2, 4095, 0, 3, 5⟩ = 0 := valid_ok (by simp) (by simp) (by simp) (by simp) (by simp) (by simp) (by simp) (by simp) (by simp) (by simp) (by simp)
  have e1 : fitsS d.length ⟨1, p, x, 3, 3⟩ = 44 := by unfold fitsS; rw [if_neg (by omega), if_pos (by simp; omega)]
  have e2 : fitsS d.length ⟨2, p, 0, 3, 4⟩ = 0 := fits_ok hdel (by omega) (by omega) (by simp) (fun _ => by show p < _; omega)
  have hl2 : (putS d ⟨2, p, 0, 3, 4⟩).length = 4095 := by rw [put_length e2]; simp [hd]
  generalize ht : putS d ⟨2, p, 0, 3, 4⟩ = t at hl2
  have e3 : fitsS t.length ⟨2, 4095, 0, 3, 5⟩ = 43 := by
    unfold fitsS
    rw [if_neg (by omega), if_neg (by simp; omega), if_pos (by simp; omega)]
  have e4 : fitsS t.length ⟨1, p, x, 3, 3⟩ = 0 := fits_ok hin (by omega) (by omega) (fun _ => ⟨by omega, by show p ≤ _; omega⟩) (by simp)
  have hl4 : (putS t ⟨1, p, x, 3, 3⟩).length = 4096 := by rw [put_length e4]; simp [hl2]
  have hat : (putS t ⟨1, p, x, 3, 3⟩).getD p.toNat z24 = ⟨x, 3, 3⟩ := by
    unfold putS
    rw [if_pos rfl, List.getD_eq_getElem?_getD, List.getElem?_append_right (by rw [List.length_take]; exact Nat.min_le_left _ _), List.length_take, Nat.min_eq_left (by show p.toNat ≤ _; omega)]
    simp
  have a1 := docApply d ⟨1, p, x, 3, 3⟩ (by show 0 ≤ x ∧ x ≤ 255; omega)
  have a2 := docApply d ⟨2, p, 0, 3, 4⟩ ⟨Int.le_refl 0, by show (0 : Int) ≤ 255; omega⟩
  have a3 := docApply t ⟨2, 4095, 0, 3, 5⟩ (by decide)
  have a4 := docApply t ⟨1, p, x, 3, 3⟩ (by show 0 ≤ x ∧ x ≤ 255; omega)
  rw [apply_err (by omega), e1] at a1
  rw [apply_ok e2, ht] at a2
  rw [apply_err (by omega), e3] at a3
  rw [apply_ok e4] at a4
  refine Ev.step (fun k => by rw [jotterlaw04_DocFull.l0]) (Ev.neg (by omega) (Ev.bind (Ev.const hp) ?_))
  rw [hx]
  refine Ev.bind a1 (Ev.pos rfl ?_)
  refine Ev.step (fun k => by rw [jotterlaw04_DocFull.j1]) ?_
  refine Ev.neg (by simp) (Ev.bind a2 (Ev.pos rfl ?_))
  refine Ev.step (fun k => by rw [jotterlaw04_DocFull.j2]) ?_
  refine Ev.neg (by simp [hl2]) (Ev.bind a3 (Ev.pos rfl (Ev.pos rfl (Ev.bind a4 (Ev.pos rfl (Ev.pos (by show ((putS t ⟨1, p, x, 3, 3⟩).length : Int) = 4096; omega) (Ev.pos p0 (Ev.pos ?_ ?_))))))))
  · show p < ((putS t ⟨1, p, x, 3, 3⟩).length : Int)
    omega
  · have r : rd_T24 (putS t ⟨1, p, x, 3, 3⟩) p = ⟨x, 3, 3⟩ := by unfold rd_T24; exact hat
    rw [r]
    exact Ev.pos rfl (Ev.now _)
theorem full_l0 (n ch : Int) (hn : In64 n) (hc : In8 ch) (m : Nat) : ∀ (i : Nat) (d : List S24), i + m = 4096 → d.length = 4096 → Ev (fun k => jotterlaw04_DocFull.l0 k n ch d i) true := by
  induction m with
  | zero =>
    intro i d hi hd
    have h := full_end d hd n ch hn hc
    rw [show ((4096 : Int)) = ((i : Nat) : Int) by omega] at h
    exact h
  | succ m ih =>
    intro i d hi hd
    refine Ev.step (fun k => by rw [jotterlaw04_DocFull.l0]) ?_
    refine Ev.pos (by omega) (Ev.pos (by omega) (Ev.pos (by omega) ?_))
    rw [wrap_in (n := (i : Int) + 1) (by omega) (by omega)]
    exact ih (i + 1) _ (by omega) (by rw [List.length_set]; exact hd)
theorem DocFull (n ch : Int) (hn : In64 n) (hc : In8 ch) : ∃ k, jotterlaw04_DocFull.f k n ch = some true := by
  refine Ev.rounds (g := fun k => jotterlaw04_DocFull.f k n ch) ?_
  unfold jotterlaw04_DocFull.f
  exact Ev.pos (by omega) (full_l0 n ch hn hc 4096 0 _ (by omega) (by rw [List.length_replicate]))
end Go.Proofs.Ytjdhoipaanlipaa.Pure
