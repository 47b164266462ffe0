/- Go functions of the seat, each as a Lean function that tells its answer, and the proof that the call gives it. Condition: the arguments are read as lists. Laid by a program of this session. -/
import Derived.Test.YtjdhoipaanlipaaQx0
namespace Go.Proofs.Ytjdhoipaanlipaa.Q
open Go.RowKit Go.Proofs.YtjdhoipaanlipaaW.PrintWords Go.Proofs.YtjdhoipaanlipaaW.PrintLast Go.Proofs.YtjdhoipaanlipaaW.PrintMore
attribute [local go_sem] max2_int min2_int max_two min_two max_three min_three max_four min_four   -- for this text's walks alone
set_option linter.unusedVariables false
set_option linter.unusedSimpArgs false

/-! ### jotterref04_Find: function 13 -/
def jotterref04_Find.l0 : Nat → List (S24) → Int → Int → Int → Option (Int)
  | 0, _, _, _, _ => none
  | k + 1, x0, x1, x2, x7 => if x7 < (x0.length : Int) then (if 0 ≤ x7 then (if ((rd_T24 x0 x7).f1) = x1 then (if ((rd_T24 x0 x7).f2) = x2 then (some x7) else (jotterref04_Find.l0 k x0 x1 x2 (wrap64 (x7 + 1)))) else (jotterref04_Find.l0 k x0 x1 x2 (wrap64 (x7 + 1)))) else (none)) else (some (-1))
def jotterref04_Find.f (k : Nat) (l0 : List (S24)) (a1 : Int) (a2 : Int) : Option (Int) := jotterref04_Find.l0 k l0 a1 a2 0
theorem jotterref04_Find.mono_l : ∀ k, (∀ y0 y1 y2 y3, LeO (jotterref04_Find.l0 k y0 y1 y2 y3) (jotterref04_Find.l0 (k + 1) y0 y1 y2 y3))
  | 0 => fun _ _ _ _ r h => by simp [jotterref04_Find.l0] at h
  | k + 1 => by
    have ih0 := jotterref04_Find.mono_l k
    · intro y0 y1 y2 y3
      unfold jotterref04_Find.l0
      repeat' first
      | (with_reducible exact ih0 _ _ _ _)
      | (with_reducible exact LeO.refl _)
      | (with_reducible exact LeO.none _)
      | (with_reducible refine LeO.ite ?_ ?_)
      | (with_reducible refine LeO.bind ?_ (fun _ => ?_))
      | exact ih0 _ _ _ _
      | exact LeO.none _
      | refine LeO.ite ?_ ?_
      | refine LeO.bind ?_ (fun _ => ?_)
theorem jotterref04_Find.mono : ∀ a0 a1 a2 k, LeO (jotterref04_Find.f k a0 a1 a2) (jotterref04_Find.f (k + 1) a0 a1 a2) := by
  intro a0 a1 a2 k
  have ih0 := jotterref04_Find.mono_l k
  unfold jotterref04_Find.f
  repeat' first
      | (with_reducible exact ih0 _ _ _ _)
      | (with_reducible exact LeO.refl _)
      | (with_reducible exact LeO.none _)
      | (with_reducible refine LeO.ite ?_ ?_)
      | (with_reducible refine LeO.bind ?_ (fun _ => ?_))
      | exact ih0 _ _ _ _
      | exact LeO.none _
      | refine LeO.ite ?_ ?_
      | refine LeO.bind ?_ (fun _ => ?_)
set_option maxHeartbeats 8000000 in
set_option maxRecDepth 100000 in
theorem jotterref04_Find.calls (k : Nat) (A0 : Option Addr) (c0 : Nat) (l0 : List (S24)) (a1 : Int) (a2 : Int) (r : Int) (w : World) (hr0 : Kd.C k24 w A0 l0.length l0) (hc0 : l0.length ≤ c0) (h : jotterref04_Find.f k l0 a1 a2 = some r) :
    Calls Try.prog 13 #[.slice A0 l0.length c0, .int .i64 a1, .int .i64 a2] w fun e w' => e = .returned (.int .i64 r) ∧ Drawn0 w w' := by
  have HR0 := Aside0.mk hr0
  have HC0 := Aside0.mk hc0
  clear hr0 hc0
  have H : (jotterref04_Find.l0 k l0 a1 a2 0) = some r := h
  clear h
  have H' := Aside0.mk H
  clear H
  go_enter Try.func13, Try.ntmps13
  go_wp2
  go_loopg [7] k (fun kq v7 w' => ∃ (x7_1 : Int), v7 = .int .i64 x7_1 ∧ Aside0 (jotterref04_Find.l0 kq l0 a1 a2 x7_1 = some r) ∧ Aside0 (kq ≤ k) ∧ Drawn0 w w')
  case atStart => exact ⟨(0), (by first | rfl | (simp; done) | (simp [*]; done)), H', ⟨Nat.le_refl _⟩, by repeat (first | exact Drawn0.refl _ | apply Drawn0.step)⟩
  case round =>
    clear H'
    try clear c1
    try clear p2
    obtain ⟨x7_1, rfl, HA, HK1, ⟨m1, rfl⟩⟩ := hrel
    cases gk with
    | zero => exact absurd HA.out (by simp [jotterref04_Find.l0])
    | succ k1 =>
      have H := HA.out
      clear HA
      simp only [jotterref04_Find.l0] at H
      by_cases c4 : x7_1 < (l0.length : Int)
      · rw [if_pos c4] at H
        have c4b0 : decide (x7_1 < (l0.length : Int)) = true := decide_eq_true c4
        clear c4
        by_cases c5 : 0 ≤ x7_1
        · rw [if_pos c5] at H
          have c5b0 : decide (0 ≤ x7_1) = true := decide_eq_true c5
          clear c5
          by_cases c6 : ((rd_T24 l0 x7_1).f1) = a1
          · rw [if_pos c6] at H
            have c6b0 : (((rd_T24 l0 x7_1).f1) == a1) = true := beq_iff_eq.mpr c6
            have c6b1 : (((rd_T24 l0 x7_1).f1) != a1) = false := bne_eq_false_iff_eq.mpr c6
            clear c6
            by_cases c7 : ((rd_T24 l0 x7_1).f2) = a2
            · rw [if_pos c7] at H
              have c7b0 : (((rd_T24 l0 x7_1).f2) == a2) = true := beq_iff_eq.mpr c7
              have c7b1 : (((rd_T24 l0 x7_1).f2) != a2) = false := bne_eq_false_iff_eq.mpr c7
              clear c7
              obtain rfl := Option.some.inj H
              have p106 : 0 ≤ (x7_1 : Int) := of_decide_eq_true (by first | (with_reducible assumption) | assumption)
              have q106 : x7_1 < (l0.length : Int) := of_decide_eq_true (by first | (with_reducible assumption) | assumption)
              obtain ⟨ad106, e106, hx106_0, hx106_1, hx106_2⟩ := at_T24 HR0.out x7_1 p106 q106
              cases e106
              replace p106 := eq_true p106
              replace q106 := eq_true q106
              have p107 : 0 ≤ (x7_1 : Int) := of_decide_eq_true (by first | (with_reducible assumption) | assumption)
              have q107 : x7_1 < (l0.length : Int) := of_decide_eq_true (by first | (with_reducible assumption) | assumption)
              obtain ⟨ad107, e107, hx107_0, hx107_1, hx107_2⟩ := at_T24 HR0.out x7_1 p107 q107
              obtain rfl : ad106 = ad107 := (by injection e107)
              replace p107 := eq_true p107
              replace q107 := eq_true q107
              go_wp2
              go_ret
              exact ⟨by first | rfl | (simp; done) | (simp [*]; done), by repeat (first | exact Drawn0.refl _ | apply Drawn0.step)⟩
            · rw [if_neg c7] at H
              have c7b0 : (((rd_T24 l0 x7_1).f2) == a2) = false := beq_eq_false_iff_ne.mpr c7
              have c7b1 : (((rd_T24 l0 x7_1).f2) != a2) = true := bne_iff_ne.mpr c7
              have H' := Aside0.mk H
              clear H
              have p106 : 0 ≤ (x7_1 : Int) := of_decide_eq_true (by first | (with_reducible assumption) | assumption)
              have q106 : x7_1 < (l0.length : Int) := of_decide_eq_true (by first | (with_reducible assumption) | assumption)
              obtain ⟨ad106, e106, hx106_0, hx106_1, hx106_2⟩ := at_T24 HR0.out x7_1 p106 q106
              cases e106
              replace p106 := eq_true p106
              replace q106 := eq_true q106
              have p107 : 0 ≤ (x7_1 : Int) := of_decide_eq_true (by first | (with_reducible assumption) | assumption)
              have q107 : x7_1 < (l0.length : Int) := of_decide_eq_true (by first | (with_reducible assumption) | assumption)
              obtain ⟨ad107, e107, hx107_0, hx107_1, hx107_2⟩ := at_T24 HR0.out x7_1 p107 q107
              obtain rfl : ad106 = ad107 := (by injection e107)
              replace p107 := eq_true p107
              replace q107 := eq_true q107
              go_wp2
              go_roundg k1
              case measure => have := HK1.out; omega
              case rel => exact ⟨(wrap64 (x7_1 + 1)), (by first | rfl | (simp; done) | (simp [*]; done)), H', ⟨by have := HK1.out; omega⟩, by repeat (first | exact Drawn0.refl _ | apply Drawn0.step)⟩
          · rw [if_neg c6] at H
            have c6b0 : (((rd_T24 l0 x7_1).f1) == a1) = false := beq_eq_false_iff_ne.mpr c6
            have c6b1 : (((rd_T24 l0 x7_1).f1) != a1) = true := bne_iff_ne.mpr c6
            have H' := Aside0.mk H
            clear H
            have p106 : 0 ≤ (x7_1 : Int) := of_decide_eq_true (by first | (with_reducible assumption) | assumption)
            have q106 : x7_1 < (l0.length : Int) := of_decide_eq_true (by first | (with_reducible assumption) | assumption)
            obtain ⟨ad106, e106, hx106_0, hx106_1, hx106_2⟩ := at_T24 HR0.out x7_1 p106 q106
            cases e106
            replace p106 := eq_true p106
            replace q106 := eq_true q106
            go_wp2
            go_roundg k1
            case measure => have := HK1.out; omega
            case rel => exact ⟨(wrap64 (x7_1 + 1)), (by first | rfl | (simp; done) | (simp [*]; done)), H', ⟨by have := HK1.out; omega⟩, by repeat (first | exact Drawn0.refl _ | apply Drawn0.step)⟩
        · rw [if_neg c5] at H
          exact absurd H (by simp)
      · rw [if_neg c4] at H
        have c4b0 : decide (x7_1 < (l0.length : Int)) = false := decide_eq_false c4
        clear c4
        obtain rfl := Option.some.inj H
        go_wp2
        go_ret
        exact ⟨by first | rfl | (simp; done) | (simp [*]; done), by repeat (first | exact Drawn0.refl _ | apply Drawn0.step)⟩

end Go.Proofs.Ytjdhoipaanlipaa.Q
