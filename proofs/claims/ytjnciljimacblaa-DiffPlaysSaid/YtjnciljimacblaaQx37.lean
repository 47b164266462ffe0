/- Go functions of the seat, each as a Lean function that tells its answer, and the proof that the call gives it. Condition: the arguments are read as lists. Laid by a program of this session. -/
import Derived.Test.YtjnciljimacblaaQx0
namespace Go.Proofs.Ytjnciljimacblaa.Q
open Go.RowKit Go.Proofs.YtjnciljimacblaaW.PrintWords Go.Proofs.YtjnciljimacblaaW.PrintLast Go.Proofs.YtjnciljimacblaaW.PrintMore
attribute [local go_sem] max2_int min2_int max_two min_two max_three min_three max_four min_four   -- for this text's walks alone
set_option linter.unusedVariables false
set_option linter.unusedSimpArgs false

/-! ### jotterlaw17_rising: function 28 -/
def jotterlaw17_rising.l0 : Nat → List (S83) → Int → Option (Bool)
  | 0, _, _ => none
  | k + 1, x0, x3 => if x3 < (x0.length : Int) then (if 0 ≤ x3 then (if 0 ≤ (wrap64 (x3 - 1)) then (if (wrap64 (x3 - 1)) < (x0.length : Int) then (if ((rd_T83 x0 x3).f1) < ((rd_T83 x0 (wrap64 (x3 - 1))).f1) then (some false) else (if ((rd_T83 x0 x3).f1) = ((rd_T83 x0 (wrap64 (x3 - 1))).f1) then (if ((rd_T83 x0 x3).f2) ≤ ((rd_T83 x0 (wrap64 (x3 - 1))).f2) then (some false) else (jotterlaw17_rising.l0 k x0 (wrap64 (x3 + 1)))) else (jotterlaw17_rising.l0 k x0 (wrap64 (x3 + 1))))) else (none)) else (none)) else (none)) else (some true)
def jotterlaw17_rising.f (k : Nat) (l0 : List (S83)) : Option (Bool) := jotterlaw17_rising.l0 k l0 1
theorem jotterlaw17_rising.mono_l : ∀ k, (∀ y0 y1, LeO (jotterlaw17_rising.l0 k y0 y1) (jotterlaw17_rising.l0 (k + 1) y0 y1))
  | 0 => fun _ _ r h => by simp [jotterlaw17_rising.l0] at h
  | k + 1 => by
    have ih0 := jotterlaw17_rising.mono_l k
    · intro y0 y1
      unfold jotterlaw17_rising.l0
      repeat' first
      | (with_reducible exact ih0 _ _)
      | (with_reducible exact LeO.refl _)
      | (with_reducible exact LeO.none _)
      | (with_reducible refine LeO.ite ?_ ?_)
      | (with_reducible refine LeO.bind ?_ (fun _ => ?_))
      | exact ih0 _ _
      | exact LeO.none _
      | refine LeO.ite ?_ ?_
      | refine LeO.bind ?_ (fun _ => ?_)
theorem jotterlaw17_rising.mono : ∀ a0 k, LeO (jotterlaw17_rising.f k a0) (jotterlaw17_rising.f (k + 1) a0) := by
  intro a0 k
  have ih0 := jotterlaw17_rising.mono_l k
  unfold jotterlaw17_rising.f
  repeat' first
      | (with_reducible exact ih0 _ _)
      | (with_reducible exact LeO.refl _)
      | (with_reducible exact LeO.none _)
      | (with_reducible refine LeO.ite ?_ ?_)
      | (with_reducible refine LeO.bind ?_ (fun _ => ?_))
      | exact ih0 _ _
      | exact LeO.none _
      | refine LeO.ite ?_ ?_
      | refine LeO.bind ?_ (fun _ => ?_)
set_option maxHeartbeats 8000000 in
set_option maxRecDepth 100000 in
theorem jotterlaw17_rising.calls (k : Nat) (A0 : Option Addr) (c0 : Nat) (l0 : List (S83)) (r : Bool) (w : World) (hr0 : Kd.C k83 w A0 l0.length l0) (hc0 : l0.length ≤ c0) (h : jotterlaw17_rising.f k l0 = some r) :
    Calls Try.prog 28 #[.slice A0 l0.length c0] w fun e w' => e = .returned (.bool r) ∧ Drawn0 w w' := by
  have HR0 := Aside0.mk hr0
  have HC0 := Aside0.mk hc0
  clear hr0 hc0
  have H : (jotterlaw17_rising.l0 k l0 1) = some r := h
  clear h
  have H' := Aside0.mk H
  clear H
  go_enter Try.func28, Try.ntmps28
  go_wp2
  repeat (go_quiet (fail); try go_wp2)
  go_loopg [3] k (fun kq v3 w' => ∃ (x3_1 : Int), v3 = .int .i64 x3_1 ∧ Aside0 (jotterlaw17_rising.l0 kq l0 x3_1 = some r) ∧ Aside0 (kq ≤ k) ∧ Drawn0 w w')
  case atStart => exact ⟨(1), (by first | rfl | (simp; done) | (simp [*]; done)), H', ⟨Nat.le_refl _⟩, by repeat (first | exact Drawn0.refl _ | apply Drawn0.step)⟩
  case round =>
    clear H'
    obtain ⟨x3_1, rfl, HA, HK1, ⟨m1, rfl⟩⟩ := hrel
    cases gk with
    | zero => exact absurd HA.out (by simp [jotterlaw17_rising.l0])
    | succ k1 =>
      have H := HA.out
      clear HA
      simp only [jotterlaw17_rising.l0] at H
      by_cases c2 : x3_1 < (l0.length : Int)
      · rw [if_pos c2] at H
        have c2b0 : decide (x3_1 < (l0.length : Int)) = true := decide_eq_true c2
        clear c2
        by_cases c3 : 0 ≤ x3_1
        · rw [if_pos c3] at H
          have c3b0 : decide (0 ≤ x3_1) = true := decide_eq_true c3
          clear c3
          obtain ⟨ji4, hji4⟩ : ∃ j_ : Int, (wrap64 (x3_1 - 1)) = j_ := ⟨_, rfl⟩
          replace H : (if 0 ≤ (ji4) then (if (ji4) < (l0.length : Int) then (if ((rd_T83 l0 x3_1).f1) < ((rd_T83 l0 (ji4)).f1) then (some false) else (if ((rd_T83 l0 x3_1).f1) = ((rd_T83 l0 (ji4)).f1) then (if ((rd_T83 l0 x3_1).f2) ≤ ((rd_T83 l0 (ji4)).f2) then (some false) else (jotterlaw17_rising.l0 k1 l0 (wrap64 (x3_1 + 1)))) else (jotterlaw17_rising.l0 k1 l0 (wrap64 (x3_1 + 1))))) else (none)) else (none)) = some r := by first | (rw [hji4] at H; exact H) | (simp only [hji4] at H ⊢; exact H)
          have hji4w : (IntKind.i64.wrap (x3_1 - 1)) = ji4 := (i64_w _).trans hji4
          by_cases c5 : 0 ≤ (ji4)
          · rw [if_pos c5] at H
            have c5b0 : decide (0 ≤ (ji4)) = true := decide_eq_true c5
            clear c5
            by_cases c6 : (ji4) < (l0.length : Int)
            · rw [if_pos c6] at H
              have c6b0 : decide ((ji4) < (l0.length : Int)) = true := decide_eq_true c6
              clear c6
              by_cases c7 : ((rd_T83 l0 x3_1).f1) < ((rd_T83 l0 (ji4)).f1)
              · rw [if_pos c7] at H
                have c7b0 : decide (((rd_T83 l0 x3_1).f1) < ((rd_T83 l0 (ji4)).f1)) = true := decide_eq_true c7
                clear c7
                obtain rfl := Option.some.inj H
                have p338 : 0 ≤ (x3_1 : Int) := of_decide_eq_true (by first | (with_reducible assumption) | assumption)
                have q338 : x3_1 < (l0.length : Int) := of_decide_eq_true (by first | (with_reducible assumption) | assumption)
                obtain ⟨ad338, e338, hx338_0, hx338_1, hx338_2⟩ := at_T83 HR0.out x3_1 p338 q338
                cases e338
                replace p338 := eq_true p338
                replace q338 := eq_true q338
                have p339 : 0 ≤ ((ji4) : Int) := of_decide_eq_true (by first | (with_reducible assumption) | assumption)
                have q339 : (ji4) < (l0.length : Int) := of_decide_eq_true (by first | (with_reducible assumption) | assumption)
                obtain ⟨ad339, e339, hx339_0, hx339_1, hx339_2⟩ := at_T83 HR0.out (ji4) p339 q339
                obtain rfl : ad338 = ad339 := (by injection e339)
                replace p339 := eq_true p339
                replace q339 := eq_true q339
                go_wp2
                repeat (go_quiet (fail); try go_wp2)
                go_ret
                exact ⟨by first | rfl | (simp; done) | (simp only [← hji4] <;> (first | rfl | simp)) | (simp [*]; done), by repeat (first | exact Drawn0.refl _ | apply Drawn0.step)⟩
              · rw [if_neg c7] at H
                have c7b0 : decide (((rd_T83 l0 x3_1).f1) < ((rd_T83 l0 (ji4)).f1)) = false := decide_eq_false c7
                clear c7
                by_cases c8 : ((rd_T83 l0 x3_1).f1) = ((rd_T83 l0 (ji4)).f1)
                · rw [if_pos c8] at H
                  have c8b0 : (((rd_T83 l0 x3_1).f1) == ((rd_T83 l0 (ji4)).f1)) = true := beq_iff_eq.mpr c8
                  have c8b1 : (((rd_T83 l0 x3_1).f1) != ((rd_T83 l0 (ji4)).f1)) = false := bne_eq_false_iff_eq.mpr c8
                  clear c8
                  by_cases c9 : ((rd_T83 l0 x3_1).f2) ≤ ((rd_T83 l0 (ji4)).f2)
                  · rw [if_pos c9] at H
                    have c9b0 : decide (((rd_T83 l0 x3_1).f2) ≤ ((rd_T83 l0 (ji4)).f2)) = true := decide_eq_true c9
                    clear c9
                    obtain rfl := Option.some.inj H
                    have p338 : 0 ≤ (x3_1 : Int) := of_decide_eq_true (by first | (with_reducible assumption) | assumption)
                    have q338 : x3_1 < (l0.length : Int) := of_decide_eq_true (by first | (with_reducible assumption) | assumption)
                    obtain ⟨ad338, e338, hx338_0, hx338_1, hx338_2⟩ := at_T83 HR0.out x3_1 p338 q338
                    cases e338
                    replace p338 := eq_true p338
                    replace q338 := eq_true q338
                    have p339 : 0 ≤ ((ji4) : Int) := of_decide_eq_true (by first | (with_reducible assumption) | assumption)
                    have q339 : (ji4) < (l0.length : Int) := of_decide_eq_true (by first | (with_reducible assumption) | assumption)
                    obtain ⟨ad339, e339, hx339_0, hx339_1, hx339_2⟩ := at_T83 HR0.out (ji4) p339 q339
                    obtain rfl : ad338 = ad339 := (by injection e339)
                    replace p339 := eq_true p339
                    replace q339 := eq_true q339
                    have p340 : 0 ≤ (x3_1 : Int) := of_decide_eq_true (by first | (with_reducible assumption) | assumption)
                    have q340 : x3_1 < (l0.length : Int) := of_decide_eq_true (by first | (with_reducible assumption) | assumption)
                    obtain ⟨ad340, e340, hx340_0, hx340_1, hx340_2⟩ := at_T83 HR0.out x3_1 p340 q340
                    obtain rfl : ad338 = ad340 := (by injection e340)
                    replace p340 := eq_true p340
                    replace q340 := eq_true q340
                    have p341 : 0 ≤ ((ji4) : Int) := of_decide_eq_true (by first | (with_reducible assumption) | assumption)
                    have q341 : (ji4) < (l0.length : Int) := of_decide_eq_true (by first | (with_reducible assumption) | assumption)
                    obtain ⟨ad341, e341, hx341_0, hx341_1, hx341_2⟩ := at_T83 HR0.out (ji4) p341 q341
                    obtain rfl : ad338 = ad341 := (by injection e341)
                    replace p341 := eq_true p341
                    replace q341 := eq_true q341
                    have p342 : 0 ≤ (x3_1 : Int) := of_decide_eq_true (by first | (with_reducible assumption) | assumption)
                    have q342 : x3_1 < (l0.length : Int) := of_decide_eq_true (by first | (with_reducible assumption) | assumption)
                    obtain ⟨ad342, e342, hx342_0, hx342_1, hx342_2⟩ := at_T83 HR0.out x3_1 p342 q342
                    obtain rfl : ad338 = ad342 := (by injection e342)
                    replace p342 := eq_true p342
                    replace q342 := eq_true q342
                    have p343 : 0 ≤ ((ji4) : Int) := of_decide_eq_true (by first | (with_reducible assumption) | assumption)
                    have q343 : (ji4) < (l0.length : Int) := of_decide_eq_true (by first | (with_reducible assumption) | assumption)
                    obtain ⟨ad343, e343, hx343_0, hx343_1, hx343_2⟩ := at_T83 HR0.out (ji4) p343 q343
                    obtain rfl : ad338 = ad343 := (by injection e343)
                    replace p343 := eq_true p343
                    replace q343 := eq_true q343
                    go_wp2
                    repeat (go_quiet (fail); try go_wp2)
                    go_ret
                    exact ⟨by first | rfl | (simp; done) | (simp only [← hji4] <;> (first | rfl | simp)) | (simp [*]; done), by repeat (first | exact Drawn0.refl _ | apply Drawn0.step)⟩
                  · rw [if_neg c9] at H
                    have c9b0 : decide (((rd_T83 l0 x3_1).f2) ≤ ((rd_T83 l0 (ji4)).f2)) = false := decide_eq_false c9
                    clear c9
                    have H' := Aside0.mk H
                    clear H
                    have p338 : 0 ≤ (x3_1 : Int) := of_decide_eq_true (by first | (with_reducible assumption) | assumption)
                    have q338 : x3_1 < (l0.length : Int) := of_decide_eq_true (by first | (with_reducible assumption) | assumption)
                    obtain ⟨ad338, e338, hx338_0, hx338_1, hx338_2⟩ := at_T83 HR0.out x3_1 p338 q338
                    cases e338
                    replace p338 := eq_true p338
                    replace q338 := eq_true q338
                    have p339 : 0 ≤ ((ji4) : Int) := of_decide_eq_true (by first | (with_reducible assumption) | assumption)
                    have q339 : (ji4) < (l0.length : Int) := of_decide_eq_true (by first | (with_reducible assumption) | assumption)
                    obtain ⟨ad339, e339, hx339_0, hx339_1, hx339_2⟩ := at_T83 HR0.out (ji4) p339 q339
                    obtain rfl : ad338 = ad339 := (by injection e339)
                    replace p339 := eq_true p339
                    replace q339 := eq_true q339
                    have p340 : 0 ≤ (x3_1 : Int) := of_decide_eq_true (by first | (with_reducible assumption) | assumption)
                    have q340 : x3_1 < (l0.length : Int) := of_decide_eq_true (by first | (with_reducible assumption) | assumption)
                    obtain ⟨ad340, e340, hx340_0, hx340_1, hx340_2⟩ := at_T83 HR0.out x3_1 p340 q340
                    obtain rfl : ad338 = ad340 := (by injection e340)
                    replace p340 := eq_true p340
                    replace q340 := eq_true q340
                    have p341 : 0 ≤ ((ji4) : Int) := of_decide_eq_true (by first | (with_reducible assumption) | assumption)
                    have q341 : (ji4) < (l0.length : Int) := of_decide_eq_true (by first | (with_reducible assumption) | assumption)
                    obtain ⟨ad341, e341, hx341_0, hx341_1, hx341_2⟩ := at_T83 HR0.out (ji4) p341 q341
                    obtain rfl : ad338 = ad341 := (by injection e341)
                    replace p341 := eq_true p341
                    replace q341 := eq_true q341
                    have p342 : 0 ≤ (x3_1 : Int) := of_decide_eq_true (by first | (with_reducible assumption) | assumption)
                    have q342 : x3_1 < (l0.length : Int) := of_decide_eq_true (by first | (with_reducible assumption) | assumption)
                    obtain ⟨ad342, e342, hx342_0, hx342_1, hx342_2⟩ := at_T83 HR0.out x3_1 p342 q342
                    obtain rfl : ad338 = ad342 := (by injection e342)
                    replace p342 := eq_true p342
                    replace q342 := eq_true q342
                    have p343 : 0 ≤ ((ji4) : Int) := of_decide_eq_true (by first | (with_reducible assumption) | assumption)
                    have q343 : (ji4) < (l0.length : Int) := of_decide_eq_true (by first | (with_reducible assumption) | assumption)
                    obtain ⟨ad343, e343, hx343_0, hx343_1, hx343_2⟩ := at_T83 HR0.out (ji4) p343 q343
                    obtain rfl : ad338 = ad343 := (by injection e343)
                    replace p343 := eq_true p343
                    replace q343 := eq_true q343
                    go_wp2
                    repeat (go_quiet (fail); try go_wp2)
                    go_roundg k1
                    case measure => have := HK1.out; omega
                    case rel => exact ⟨(wrap64 (x3_1 + 1)), (by first | rfl | (simp; done) | (simp [*]; done)), H', ⟨by have := HK1.out; omega⟩, by repeat (first | exact Drawn0.refl _ | apply Drawn0.step)⟩
                · rw [if_neg c8] at H
                  have c8b0 : (((rd_T83 l0 x3_1).f1) == ((rd_T83 l0 (ji4)).f1)) = false := beq_eq_false_iff_ne.mpr c8
                  have c8b1 : (((rd_T83 l0 x3_1).f1) != ((rd_T83 l0 (ji4)).f1)) = true := bne_iff_ne.mpr c8
                  have H' := Aside0.mk H
                  clear H
                  have p338 : 0 ≤ (x3_1 : Int) := of_decide_eq_true (by first | (with_reducible assumption) | assumption)
                  have q338 : x3_1 < (l0.length : Int) := of_decide_eq_true (by first | (with_reducible assumption) | assumption)
                  obtain ⟨ad338, e338, hx338_0, hx338_1, hx338_2⟩ := at_T83 HR0.out x3_1 p338 q338
                  cases e338
                  replace p338 := eq_true p338
                  replace q338 := eq_true q338
                  have p339 : 0 ≤ ((ji4) : Int) := of_decide_eq_true (by first | (with_reducible assumption) | assumption)
                  have q339 : (ji4) < (l0.length : Int) := of_decide_eq_true (by first | (with_reducible assumption) | assumption)
                  obtain ⟨ad339, e339, hx339_0, hx339_1, hx339_2⟩ := at_T83 HR0.out (ji4) p339 q339
                  obtain rfl : ad338 = ad339 := (by injection e339)
                  replace p339 := eq_true p339
                  replace q339 := eq_true q339
                  have p340 : 0 ≤ (x3_1 : Int) := of_decide_eq_true (by first | (with_reducible assumption) | assumption)
                  have q340 : x3_1 < (l0.length : Int) := of_decide_eq_true (by first | (with_reducible assumption) | assumption)
                  obtain ⟨ad340, e340, hx340_0, hx340_1, hx340_2⟩ := at_T83 HR0.out x3_1 p340 q340
                  obtain rfl : ad338 = ad340 := (by injection e340)
                  replace p340 := eq_true p340
                  replace q340 := eq_true q340
                  have p341 : 0 ≤ ((ji4) : Int) := of_decide_eq_true (by first | (with_reducible assumption) | assumption)
                  have q341 : (ji4) < (l0.length : Int) := of_decide_eq_true (by first | (with_reducible assumption) | assumption)
                  obtain ⟨ad341, e341, hx341_0, hx341_1, hx341_2⟩ := at_T83 HR0.out (ji4) p341 q341
                  obtain rfl : ad338 = ad341 := (by injection e341)
                  replace p341 := eq_true p341
                  replace q341 := eq_true q341
                  go_wp2
                  repeat (go_quiet (fail); try go_wp2)
                  go_roundg k1
                  case measure => have := HK1.out; omega
                  case rel => exact ⟨(wrap64 (x3_1 + 1)), (by first | rfl | (simp; done) | (simp [*]; done)), H', ⟨by have := HK1.out; omega⟩, by repeat (first | exact Drawn0.refl _ | apply Drawn0.step)⟩
            · rw [if_neg c6] at H
              exact absurd H (by simp)
          · rw [if_neg c5] at H
            exact absurd H (by simp)
        · rw [if_neg c3] at H
          exact absurd H (by simp)
      · rw [if_neg c2] at H
        have c2b0 : decide (x3_1 < (l0.length : Int)) = false := decide_eq_false c2
        clear c2
        obtain rfl := Option.some.inj H
        go_wp2
        repeat (go_quiet (fail); try go_wp2)
        go_ret
        exact ⟨by first | rfl | (simp; done) | (simp [*]; done), by repeat (first | exact Drawn0.refl _ | apply Drawn0.step)⟩

end Go.Proofs.Ytjnciljimacblaa.Q
