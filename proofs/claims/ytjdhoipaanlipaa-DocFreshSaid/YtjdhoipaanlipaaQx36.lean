/- Go functions of the seat, each as a Lean function that tells its answer, and the proof that the call gives it. Condition: the arguments are read as lists. Laid by a program of this session. -/
import Derived.Test.YtjdhoipaanlipaaQx0
namespace Go.Proofs.Ytjdhoipaanlipaa.Q
open Go.RowKit Go.Proofs.YtjdhoipaanlipaaW.PrintWords Go.Proofs.YtjdhoipaanlipaaW.PrintLast Go.Proofs.YtjdhoipaanlipaaW.PrintMore
attribute [local go_sem] max2_int min2_int max_two min_two max_three min_three max_four min_four   -- for this text's walks alone
set_option linter.unusedVariables false
set_option linter.unusedSimpArgs false

/-! ### jotterlaw04_full: function 38 -/
def jotterlaw04_full.l0 : Nat → List (S24) → Int → Int → Option (Bool)
  | 0, _, _, _ => none
  | k + 1, x0, x1, x5 => if x5 < (x0.length : Int) then (if 0 ≤ x5 then (if ((rd_T24 x0 x5).f1) = x1 then (if ((rd_T24 x0 x5).f2) = x1 then (if ((rd_T24 x0 x5).f0) = ((x1) % 256) then (jotterlaw04_full.l0 k x0 x1 (wrap64 (x5 + 1))) else (some false)) else (some false)) else (some false)) else (none)) else (some true)
def jotterlaw04_full.f (k : Nat) (l0 : List (S24)) (a1 : Int) : Option (Bool) := jotterlaw04_full.l0 k l0 a1 0
theorem jotterlaw04_full.mono_l : ∀ k, (∀ y0 y1 y2, LeO (jotterlaw04_full.l0 k y0 y1 y2) (jotterlaw04_full.l0 (k + 1) y0 y1 y2))
  | 0 => fun _ _ _ r h => by simp [jotterlaw04_full.l0] at h
  | k + 1 => by
    have ih0 := jotterlaw04_full.mono_l k
    · intro y0 y1 y2
      unfold jotterlaw04_full.l0
      repeat' first
      | (with_reducible exact ih0 _ _ _)
      | (with_reducible exact LeO.refl _)
      | (with_reducible exact LeO.none _)
      | (with_reducible refine LeO.ite ?_ ?_)
      | (with_reducible refine LeO.bind ?_ (fun _ => ?_))
      | exact ih0 _ _ _
      | exact LeO.none _
      | refine LeO.ite ?_ ?_
      | refine LeO.bind ?_ (fun _ => ?_)
theorem jotterlaw04_full.mono : ∀ a0 a1 k, LeO (jotterlaw04_full.f k a0 a1) (jotterlaw04_full.f (k + 1) a0 a1) := by
  intro a0 a1 k
  have ih0 := jotterlaw04_full.mono_l k
  unfold jotterlaw04_full.f
  repeat' first
      | (with_reducible exact ih0 _ _ _)
      | (with_reducible exact LeO.refl _)
      | (with_reducible exact LeO.none _)
      | (with_reducible refine LeO.ite ?_ ?_)
      | (with_reducible refine LeO.bind ?_ (fun _ => ?_))
      | exact ih0 _ _ _
      | exact LeO.none _
      | refine LeO.ite ?_ ?_
      | refine LeO.bind ?_ (fun _ => ?_)
set_option maxHeartbeats 8000000 in
set_option maxRecDepth 100000 in
theorem jotterlaw04_full.calls (k : Nat) (A0 : Option Addr) (c0 : Nat) (l0 : List (S24)) (a1 : Int) (r : Bool) (w : World) (hr0 : Kd.C k24 w A0 l0.length l0) (hc0 : l0.length ≤ c0) (h : jotterlaw04_full.f k l0 a1 = some r) :
    Calls Try.prog 38 #[.slice A0 l0.length c0, .int .i64 a1] w fun e w' => e = .returned (.bool r) ∧ Drawn0 w w' := by
  have HR0 := Aside0.mk hr0
  have HC0 := Aside0.mk hc0
  clear hr0 hc0
  have H : (jotterlaw04_full.l0 k l0 a1 0) = some r := h
  clear h
  have H' := Aside0.mk H
  clear H
  go_enter Try.func38, Try.ntmps38
  go_wp2
  go_loopg [5] k (fun kq v5 w' => ∃ (x5_1 : Int), v5 = .int .i64 x5_1 ∧ Aside0 (jotterlaw04_full.l0 kq l0 a1 x5_1 = some r) ∧ Aside0 (kq ≤ k) ∧ Drawn0 w w')
  case atStart => exact ⟨(0), (by first | rfl | (simp; done) | (simp [*]; done)), H', ⟨Nat.le_refl _⟩, by repeat (first | exact Drawn0.refl _ | apply Drawn0.step)⟩
  case round =>
    clear H'
    try clear p2
    obtain ⟨x5_1, rfl, HA, HK1, ⟨m1, rfl⟩⟩ := hrel
    cases gk with
    | zero => exact absurd HA.out (by simp [jotterlaw04_full.l0])
    | succ k1 =>
      have H := HA.out
      clear HA
      simp only [jotterlaw04_full.l0] at H
      by_cases c3 : x5_1 < (l0.length : Int)
      · rw [if_pos c3] at H
        have c3b0 : decide (x5_1 < (l0.length : Int)) = true := decide_eq_true c3
        clear c3
        by_cases c4 : 0 ≤ x5_1
        · rw [if_pos c4] at H
          have c4b0 : decide (0 ≤ x5_1) = true := decide_eq_true c4
          clear c4
          by_cases c5 : ((rd_T24 l0 x5_1).f1) = a1
          · rw [if_pos c5] at H
            have c5b0 : (((rd_T24 l0 x5_1).f1) == a1) = true := beq_iff_eq.mpr c5
            have c5b1 : (((rd_T24 l0 x5_1).f1) != a1) = false := bne_eq_false_iff_eq.mpr c5
            clear c5
            by_cases c6 : ((rd_T24 l0 x5_1).f2) = a1
            · rw [if_pos c6] at H
              have c6b0 : (((rd_T24 l0 x5_1).f2) == a1) = true := beq_iff_eq.mpr c6
              have c6b1 : (((rd_T24 l0 x5_1).f2) != a1) = false := bne_eq_false_iff_eq.mpr c6
              clear c6
              by_cases c7 : ((rd_T24 l0 x5_1).f0) = ((a1) % 256)
              · rw [if_pos c7] at H
                have c7b0 : (((rd_T24 l0 x5_1).f0) == ((a1) % 256)) = true := beq_iff_eq.mpr c7
                have c7b1 : (((rd_T24 l0 x5_1).f0) != ((a1) % 256)) = false := bne_eq_false_iff_eq.mpr c7
                clear c7
                have H' := Aside0.mk H
                clear H
                have p458 : 0 ≤ (x5_1 : Int) := of_decide_eq_true (by first | (with_reducible assumption) | assumption)
                have q458 : x5_1 < (l0.length : Int) := of_decide_eq_true (by first | (with_reducible assumption) | assumption)
                obtain ⟨ad458, e458, hx458_0, hx458_1, hx458_2⟩ := at_T24 HR0.out x5_1 p458 q458
                cases e458
                replace p458 := eq_true p458
                replace q458 := eq_true q458
                have p459 : 0 ≤ (x5_1 : Int) := of_decide_eq_true (by first | (with_reducible assumption) | assumption)
                have q459 : x5_1 < (l0.length : Int) := of_decide_eq_true (by first | (with_reducible assumption) | assumption)
                obtain ⟨ad459, e459, hx459_0, hx459_1, hx459_2⟩ := at_T24 HR0.out x5_1 p459 q459
                obtain rfl : ad458 = ad459 := (by injection e459)
                replace p459 := eq_true p459
                replace q459 := eq_true q459
                have p460 : 0 ≤ (x5_1 : Int) := of_decide_eq_true (by first | (with_reducible assumption) | assumption)
                have q460 : x5_1 < (l0.length : Int) := of_decide_eq_true (by first | (with_reducible assumption) | assumption)
                obtain ⟨ad460, e460, hx460_0, hx460_1, hx460_2⟩ := at_T24 HR0.out x5_1 p460 q460
                obtain rfl : ad458 = ad460 := (by injection e460)
                replace p460 := eq_true p460
                replace q460 := eq_true q460
                go_wp2
                go_roundg k1
                case measure => have := HK1.out; omega
                case rel => exact ⟨(wrap64 (x5_1 + 1)), (by first | rfl | (simp; done) | (simp [*]; done)), H', ⟨by have := HK1.out; omega⟩, by repeat (first | exact Drawn0.refl _ | apply Drawn0.step)⟩
              · rw [if_neg c7] at H
                have c7b0 : (((rd_T24 l0 x5_1).f0) == ((a1) % 256)) = false := beq_eq_false_iff_ne.mpr c7
                have c7b1 : (((rd_T24 l0 x5_1).f0) != ((a1) % 256)) = true := bne_iff_ne.mpr c7
                obtain rfl := Option.some.inj H
                have p458 : 0 ≤ (x5_1 : Int) := of_decide_eq_true (by first | (with_reducible assumption) | assumption)
                have q458 : x5_1 < (l0.length : Int) := of_decide_eq_true (by first | (with_reducible assumption) | assumption)
                obtain ⟨ad458, e458, hx458_0, hx458_1, hx458_2⟩ := at_T24 HR0.out x5_1 p458 q458
                cases e458
                replace p458 := eq_true p458
                replace q458 := eq_true q458
                have p459 : 0 ≤ (x5_1 : Int) := of_decide_eq_true (by first | (with_reducible assumption) | assumption)
                have q459 : x5_1 < (l0.length : Int) := of_decide_eq_true (by first | (with_reducible assumption) | assumption)
                obtain ⟨ad459, e459, hx459_0, hx459_1, hx459_2⟩ := at_T24 HR0.out x5_1 p459 q459
                obtain rfl : ad458 = ad459 := (by injection e459)
                replace p459 := eq_true p459
                replace q459 := eq_true q459
                have p460 : 0 ≤ (x5_1 : Int) := of_decide_eq_true (by first | (with_reducible assumption) | assumption)
                have q460 : x5_1 < (l0.length : Int) := of_decide_eq_true (by first | (with_reducible assumption) | assumption)
                obtain ⟨ad460, e460, hx460_0, hx460_1, hx460_2⟩ := at_T24 HR0.out x5_1 p460 q460
                obtain rfl : ad458 = ad460 := (by injection e460)
                replace p460 := eq_true p460
                replace q460 := eq_true q460
                go_wp2
                go_ret
                exact ⟨by first | rfl | (simp; done) | (simp [*]; done), by repeat (first | exact Drawn0.refl _ | apply Drawn0.step)⟩
            · rw [if_neg c6] at H
              have c6b0 : (((rd_T24 l0 x5_1).f2) == a1) = false := beq_eq_false_iff_ne.mpr c6
              have c6b1 : (((rd_T24 l0 x5_1).f2) != a1) = true := bne_iff_ne.mpr c6
              obtain rfl := Option.some.inj H
              have p458 : 0 ≤ (x5_1 : Int) := of_decide_eq_true (by first | (with_reducible assumption) | assumption)
              have q458 : x5_1 < (l0.length : Int) := of_decide_eq_true (by first | (with_reducible assumption) | assumption)
              obtain ⟨ad458, e458, hx458_0, hx458_1, hx458_2⟩ := at_T24 HR0.out x5_1 p458 q458
              cases e458
              replace p458 := eq_true p458
              replace q458 := eq_true q458
              have p459 : 0 ≤ (x5_1 : Int) := of_decide_eq_true (by first | (with_reducible assumption) | assumption)
              have q459 : x5_1 < (l0.length : Int) := of_decide_eq_true (by first | (with_reducible assumption) | assumption)
              obtain ⟨ad459, e459, hx459_0, hx459_1, hx459_2⟩ := at_T24 HR0.out x5_1 p459 q459
              obtain rfl : ad458 = ad459 := (by injection e459)
              replace p459 := eq_true p459
              replace q459 := eq_true q459
              go_wp2
              go_ret
              exact ⟨by first | rfl | (simp; done) | (simp [*]; done), by repeat (first | exact Drawn0.refl _ | apply Drawn0.step)⟩
          · rw [if_neg c5] at H
            have c5b0 : (((rd_T24 l0 x5_1).f1) == a1) = false := beq_eq_false_iff_ne.mpr c5
            have c5b1 : (((rd_T24 l0 x5_1).f1) != a1) = true := bne_iff_ne.mpr c5
            obtain rfl := Option.some.inj H
            have p458 : 0 ≤ (x5_1 : Int) := of_decide_eq_true (by first | (with_reducible assumption) | assumption)
            have q458 : x5_1 < (l0.length : Int) := of_decide_eq_true (by first | (with_reducible assumption) | assumption)
            obtain ⟨ad458, e458, hx458_0, hx458_1, hx458_2⟩ := at_T24 HR0.out x5_1 p458 q458
            cases e458
            replace p458 := eq_true p458
            replace q458 := eq_true q458
            go_wp2
            go_ret
            exact ⟨by first | rfl | (simp; done) | (simp [*]; done), by repeat (first | exact Drawn0.refl _ | apply Drawn0.step)⟩
        · rw [if_neg c4] at H
          exact absurd H (by simp)
      · rw [if_neg c3] at H
        have c3b0 : decide (x5_1 < (l0.length : Int)) = false := decide_eq_false c3
        clear c3
        obtain rfl := Option.some.inj H
        go_wp2
        go_ret
        exact ⟨by first | rfl | (simp; done) | (simp [*]; done), by repeat (first | exact Drawn0.refl _ | apply Drawn0.step)⟩

end Go.Proofs.Ytjdhoipaanlipaa.Q
