/- made: the statement's own operations: each fits the text that it is made for. -/
import Derived.Test.YtjdhoipaanlipaaPSame
import Derived.Test.YtjdhoipaanlipaaPReplay
import Derived.Test.YtjdhoipaanlipaaQx29
import Derived.Test.YtjdhoipaanlipaaOpenT
namespace Go.Proofs.Ytjdhoipaanlipaa.P
set_option linter.unusedVariables false
set_option linter.unusedSimpArgs false
open Go.RowKit Go.Proofs.Ytjdhoipaanlipaa.Q Go.Proofs.Ytjdhoipaanlipaa.OpenS Go.Proofs.YtjdhoipaanlipaaW.PrintWords
theorem rd56 (xs : List S56) (i : Nat) : rd_T56 xs (i : Int) = xs.getD i z56 := by unfold rd_T56; rw [Int.toNat_natCast]
/-- What is known of the i-th operation, made for a text of n characters. -/
structure Made (o : S30) (i n : Nat) : Prop where
  fits : fitsS n o = 0
  ch : 0 ≤ o.f2 ∧ o.f2 ≤ 255
  client : o.f3 = 1
  seq : o.f4 = 1 + i
  kind : o.f0 = 1 ∨ (o.f0 = 2 ∧ 0 < n)
theorem madeS (s : S56) (hs : StepOk s) (i n : Nat) (hi : i < 60) (hn : n ≤ 60) :
    ∃ o : S30, Ev (fun k => jotterlaw04_made.f k s.f0 s.f1 s.f2 i n) (o.f0, o.f1, o.f2, o.f3, o.f4) ∧ Made o i n := by
  have t1 : Int.tdiv (i : Int) 64 = 0 := by rw [Int.tdiv_eq_ediv_of_nonneg (by omega)]; omega
  have t2 : Int.tmod (i : Int) 64 = i := by rw [Int.tmod_eq_emod_of_nonneg (by omega)]; omega
  have w1 : wrap64 (1 + Int.tmod (wrap64 (Int.tdiv (i : Int) 64)) 64) = 1 := by rw [t1, wrap_in (n := 0) (by omega) (by omega), show Int.tmod 0 64 = 0 from rfl, wrap_in (by omega) (by omega)]; rfl
  have w2 : wrap64 (1 + Int.tmod (i : Int) 64) = 1 + i := by rw [t2, wrap_in (by omega) (by omega)]
  have c := chS s.f2 hs.f2.1 hs.f2.2
  unfold jotterlaw04_made.f
  rw [w1, w2]
  obtain ⟨p, hp, p0, p1⟩ := placeS s.f1 ((n : Int) + 1) (by omega) (by omega)
  have ins : Made ⟨1, p, (32 + Int.tmod s.f2 95) % 256, 1, 1 + i⟩ i n := by
    refine ⟨fits_ok (valid_ok (by simp) (by simp) (by simp) (by simp) (by show (1 : Int) ≤ 1 + i; omega) (by show 1 + (i : Int) ≤ 64; omega) (fun _ => c) (by simp) (by simp) p0 (by show p < 4096; omega)) (by omega) (by omega) (fun _ => ⟨by omega, by show p ≤ _; omega⟩) (by simp), by show 0 ≤ (32 + Int.tmod s.f2 95) % 256 ∧ (32 + Int.tmod s.f2 95) % 256 ≤ 255; omega, rfl, rfl, .inl rfl⟩
  by_cases ho : s.f0 = true
  · by_cases hz : n = 0
    · refine ⟨_, Ev.pos ho (Ev.step (fun k => by rw [jotterlaw04_made.j0]) (Ev.neg (by simp; omega) ?_)), ins⟩
      rw [wrap_in (n := (n : Int) + 1) (by omega) (by omega)]
      exact Ev.bind (Ev.const hp) (Ev.now _)
    · obtain ⟨q, hq, q0, q1⟩ := placeS s.f1 (n : Int) (by omega) (by omega)
      refine ⟨⟨2, q, 0, 1, 1 + i⟩, Ev.pos ho (Ev.step (fun k => by rw [jotterlaw04_made.j0]) (Ev.pos (by simp; omega) ?_)), ?_⟩
      · exact Ev.bind (Ev.const hq) (Ev.now _)
      · exact ⟨fits_ok (valid_ok (by simp) (by simp) (by simp) (by simp) (by show (1 : Int) ≤ 1 + i; omega) (by show 1 + (i : Int) ≤ 64; omega) (by simp) (by simp) (by simp) q0 (by show q < 4096; omega)) (by omega) (by omega) (by simp) (fun _ => q1), ⟨Int.le_refl 0, by show (0 : Int) ≤ 255; omega⟩, rfl, rfl, .inr ⟨rfl, by omega⟩⟩
  · refine ⟨_, Ev.neg ho (Ev.step (fun k => by rw [jotterlaw04_made.j0]) (Ev.neg (by simp) ?_)), ins⟩
    rw [wrap_in (n := (n : Int) + 1) (by omega) (by omega)]
    exact Ev.bind (Ev.const hp) (Ev.now _)
theorem replay_cons (d : List S24) (o : S30) (os : List S30) (i : Int) : replayS d (o :: os) i = if (applyS d o).2 = 0 then replayS (applyS d o).1 os (i + 1) else (d, i, (applyS d o).2) := by rw [replayS]
/-- Replay of a line and one operation more. -/
theorem replay_append (xs : List S30) : ∀ (d : List S24) (i : Int) (ys : List S30), replayS d (xs ++ ys) i = if (replayS d xs i).2.2 = 0 then replayS (replayS d xs i).1 ys (replayS d xs i).2.1 else replayS d xs i := by
  induction xs with
  | nil => intro d i ys; simp [replayS]
  | cons o os ih =>
    intro d i ys
    rw [List.cons_append, replay_cons, replay_cons d o os i]
    by_cases h : (applyS d o).2 = 0
    · rw [if_pos h, if_pos h]; exact ih _ _ _
    · rw [if_neg h, if_neg h, if_neg h]
theorem replay_snoc {ops : List S30} {d : List S24} {i : Int} {o : S30} (h : replayS [] ops 0 = (d, i, 0)) (hf : fitsS d.length o = 0) : replayS [] (ops ++ [o]) 0 = (putS d o, i + 1, 0) := by
  rw [replay_append, h]
  simp only [if_true]
  unfold replayS
  rw [apply_ok hf]
  simp [replayS]
end Go.Proofs.Ytjdhoipaanlipaa.P
