/- DocParts, as a plain law: Replay of two lines is Replay of the first and Apply of the others, up to the first that is refused. -/
import Derived.Test.YtjdhoipaanlipaaPMade
import Derived.Test.YtjdhoipaanlipaaQx30
namespace Go.Proofs.Ytjdhoipaanlipaa.Pure
set_option linter.unusedVariables false
set_option linter.unusedSimpArgs false
open Go.RowKit Go.Proofs.Ytjdhoipaanlipaa.Q Go.Proofs.Ytjdhoipaanlipaa.P Go.Proofs.Ytjdhoipaanlipaa.OpenS Go.Proofs.YtjdhoipaanlipaaW.PrintWords
theorem parts_l2 (ops line both : List S30) (ho : ∀ o ∈ ops, OpOk o) (hops : ops.length ≤ 300) (hline : line.length ≤ 60) (hboth : both.length = line.length + ops.length) (n : Nat) : ∀ (i : Nat) (q : List S24) (t : List S24) (m f : Int), q.length ≤ 4096 → i + n = ops.length →
    replayS q (ops.drop i) ((line.length : Int) + i) = (t, m, f) → Ev (fun k => jotterlaw04_DocParts.l2 k ops line q both t m f i) true := by
  induction n with
  | zero =>
    intro i q t m f hq hi h
    rw [List.drop_of_length_le (by omega)] at h
    unfold replayS at h
    simp only [Prod.mk.injEq] at h
    obtain ⟨rfl, rfl, rfl⟩ := h
    refine Ev.step (fun k => by rw [jotterlaw04_DocParts.l2]) ?_
    exact Ev.neg (by omega) (Ev.pos rfl (Ev.pos (by omega) (Ev.bind (sameSelf q (by omega)) (Ev.now _))))
  | succ n ih =>
    intro i q t m f hq hi h
    have hop : OpOk (rd_T30 ops (i : Int)) := by
      rw [rd30, getD_at _ _ _ (by omega)]
      exact ho _ (List.getElem_mem _)
    rw [drop_getD z30 ops i (by omega)] at h
    unfold replayS at h
    rw [← rd30] at h
    refine Ev.step (fun k => by rw [jotterlaw04_DocParts.l2]) ?_
    refine Ev.pos (by omega) (Ev.pos (by omega) (Ev.bind (docApply q _ hop.f2) ?_))
    by_cases e : (applyS q (rd_T30 ops (i : Int))).2 = 0
    · rw [if_pos e] at h
      refine Ev.pos e ?_
      rw [wrap_in (by omega) (by omega)]
      exact ih (i + 1) _ t m f (apply_length _ _) (by omega) (by rw [← h]; congr 1)
    · rw [if_neg e] at h
      simp only [Prod.mk.injEq] at h
      obtain ⟨rfl, rfl, rfl⟩ := h
      refine Ev.neg e (Ev.pos rfl ?_)
      rw [wrap_in (by omega) (by omega)]
      exact Ev.pos rfl (Ev.bind (sameSelf q (by omega)) (Ev.now _))
theorem parts_l1 (ops line : List S30) (ho : ∀ o ∈ ops, OpOk o) (hl : ∀ o ∈ line, 0 ≤ o.f2 ∧ o.f2 ≤ 255) (hops : ops.length ≤ 300) (hline : line.length ≤ 60) (d : List S24) (hd : d.length ≤ 4096) (hr : replayS [] line 0 = (d, (line.length : Int), 0)) (n : Nat) : ∀ (i : Nat), i + n = ops.length →
    Ev (fun k => jotterlaw04_DocParts.l1 k ops line d (line ++ ops.take i) i) true := by
  induction n with
  | zero =>
    intro i hi
    rw [List.take_of_length_le (by omega)]
    refine Ev.step (fun k => by rw [jotterlaw04_DocParts.l1]) ?_
    refine Ev.neg (by omega) (Ev.bind (docReplay (line ++ ops) (by rw [List.length_append]; omega) (fun o h => ?_)) ?_)
    · rcases List.mem_append.1 h with h | h
      · exact hl o h
      · exact (ho o h).f2
    · refine parts_l2 ops line (line ++ ops) ho hops hline (by rw [List.length_append]) ops.length 0 d _ _ _ hd (by omega) ?_
      rw [replay_append, hr]
      simp
  | succ n ih =>
    intro i hi
    have e : ops.take (i + 1) = ops.take i ++ [rd_T30 ops (i : Int)] := by
      rw [List.take_succ_eq_append_getElem (by omega), rd30, getD_at _ _ _ (by omega)]
    refine Ev.step (fun k => by rw [jotterlaw04_DocParts.l1]) ?_
    refine Ev.pos (by omega) (Ev.pos (by omega) (Ev.pos (by rw [List.length_append, List.length_take]; omega) ?_))
    rw [wrap_in (by omega) (by omega)]
    have h := ih (i + 1) (by omega)
    rw [e, ← List.append_assoc] at h
    exact h
theorem parts_l0 (ops : List S30) (ho : ∀ o ∈ ops, OpOk o) (hops : ops.length ≤ 300) (steps : List S56) (hs : ∀ s ∈ steps, StepOk s) (hst : steps.length ≤ 60) (n : Nat) : ∀ (i : Nat) (line : List S30) (d : List S24), i + n = steps.length → line.length = i → d.length ≤ i →
    (∀ o ∈ line, 0 ≤ o.f2 ∧ o.f2 ≤ 255) → replayS [] line 0 = (d, (i : Int), 0) → Ev (fun k => jotterlaw04_DocParts.l0 k steps ops line d.length i) true := by
  induction n with
  | zero =>
    intro i line d hi hli hd hl hr
    refine Ev.step (fun k => by rw [jotterlaw04_DocParts.l0]) ?_
    have a := docReplay line (by omega) hl
    rw [hr] at a
    refine Ev.neg (by omega) (Ev.bind a (Ev.pos rfl (Ev.pos (by show (i : Int) = _; omega) ?_)))
    refine Ev.step (fun k => by rw [jotterlaw04_DocParts.j2]) ?_
    refine Ev.neg (by simp) ?_
    have h := parts_l1 ops line ho hl hops (by omega) d (by omega) (by rw [hr, hli]) ops.length 0 (by omega)
    rw [List.take_zero, List.append_nil] at h
    exact h
  | succ n ih =>
    intro i line d hi hli hd hl hr
    have hst2 : StepOk (rd_T56 steps (i : Int)) := by
      rw [rd56, getD_at _ _ _ (by omega)]
      exact hs _ (List.getElem_mem _)
    obtain ⟨o, hm, mk⟩ := madeS _ hst2 i d.length (by omega) (by omega)
    have hlen := put_length mk.fits
    refine Ev.step (fun k => by rw [jotterlaw04_DocParts.l0]) ?_
    refine Ev.pos (by omega) (Ev.pos (by omega) (Ev.bind hm (Ev.pos (by omega) (Ev.bind (Ev.now _) ?_))))
    have next := fun (z : Int) (hz : z = ((putS d o).length : Int)) => hz ▸ ih (i + 1) (line ++ [o]) (putS d o) (by omega) (by simp [hli]) (by rw [hlen]; split <;> (try split) <;> omega)
      (fun x hx => by
        rcases List.mem_append.1 hx with hx | hx
        · exact hl x hx
        · simp at hx; subst hx; exact mk.ch)
      (by rw [replay_snoc hr mk.fits]; rfl)
    rw [wrap_in (n := (i : Int) + 1) (by omega) (by omega)]
    rcases mk.kind with k1 | ⟨k2, hpos⟩
    · refine Ev.neg (by show ¬ o.f0 = 2; omega) ?_
      rw [wrap_in (n := (d.length : Int) + 1) (by omega) (by omega)]
      rw [if_pos k1] at hlen
      exact next _ (by omega)
    · refine Ev.pos k2 ?_
      rw [wrap_in (n := (d.length : Int) - 1) (by omega) (by omega)]
      rw [if_neg (by omega), if_pos k2] at hlen
      exact next _ (by omega)
theorem DocParts (steps : List S56) (ops : List S30) (hs : ∀ s ∈ steps, StepOk s) (ho : ∀ o ∈ ops, OpOk o) : ∃ k, jotterlaw04_DocParts.f k steps ops = some true := by
  refine Ev.rounds (g := fun k => jotterlaw04_DocParts.f k steps ops) ?_
  unfold jotterlaw04_DocParts.f
  have main : ∀ st : List S56, (∀ s ∈ st, StepOk s) → st.length ≤ 60 → Ev (fun k => jotterlaw04_DocParts.j0 k st (ops.take 300)) true := by
    intro st h1 h2
    refine Ev.step (fun k => by rw [jotterlaw04_DocParts.j0]) ?_
    exact parts_l0 (ops.take 300) (fun o h => ho o (List.mem_of_mem_take h)) (by rw [List.length_take]; omega) st h1 h2 st.length 0 [] [] (by omega) rfl (by simp) (by simp) rfl
  refine Ev.bind (Ev.const (shortS ops)) ?_
  by_cases h : (steps.length : Int) > 60
  · exact Ev.pos h (Ev.pos (by omega) (main _ (fun s hs' => hs s (List.mem_of_mem_take hs')) (by rw [List.length_take]; omega)))
  · exact Ev.neg h (main _ hs (by omega))
end Go.Proofs.Ytjdhoipaanlipaa.Pure
