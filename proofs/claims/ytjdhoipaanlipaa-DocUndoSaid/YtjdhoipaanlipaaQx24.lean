/- Go functions of the seat, each as a Lean function that tells its answer, and the proof that the call gives it. Condition: the arguments are read as lists. Laid by a program of this session. -/
import Derived.Test.YtjdhoipaanlipaaQx0
import Derived.Test.YtjdhoipaanlipaaQx20
import Derived.Test.YtjdhoipaanlipaaQx21
import Derived.Test.YtjdhoipaanlipaaQx23
namespace Go.Proofs.Ytjdhoipaanlipaa.Q
open Go.RowKit Go.Proofs.YtjdhoipaanlipaaW.PrintWords Go.Proofs.YtjdhoipaanlipaaW.PrintLast Go.Proofs.YtjdhoipaanlipaaW.PrintMore
attribute [local go_sem] max2_int min2_int max_two min_two max_three min_three max_four min_four   -- for this text's walks alone
set_option linter.unusedVariables false
set_option linter.unusedSimpArgs false

/-! ### jotterlaw04_DocUndo: function 6 -/
mutual
def jotterlaw04_DocUndo.j0 : Nat → List (S24) → Int → Int → Option (Bool)
  | 0, _, _, _ => none
  | k + 1, x0, x1, x2 => (jotterlaw04_place.f x1 (wrap64 ((x0.length : Int) + 1))).bind fun t247 => ((doc_Apply.f k x0 1 t247 ((32 + (Int.tmod x2 95)) % 256) 7 64).bind fun bt248 => (if bt248.2 = 0 then (if (bt248.1.length : Int) = (wrap64 ((x0.length : Int) + 1)) then (if 0 ≤ t247 then (if t247 < (bt248.1.length : Int) then (if ((rd_T24 bt248.1 t247).f1) = 7 then (if ((rd_T24 bt248.1 t247).f2) = 64 then (jotterlaw04_DocUndo.j1 k x0 t247 bt248.1 (((rd_T24 bt248.1 t247).f0) != ((32 + (Int.tmod x2 95)) % 256))) else (jotterlaw04_DocUndo.j1 k x0 t247 bt248.1 true)) else (jotterlaw04_DocUndo.j1 k x0 t247 bt248.1 true)) else (none)) else (none)) else (jotterlaw04_DocUndo.j1 k x0 t247 bt248.1 true)) else (jotterlaw04_DocUndo.j1 k x0 t247 bt248.1 true)))
def jotterlaw04_DocUndo.j1 : Nat → List (S24) → Int → List (S24) → Bool → Option (Bool)
  | 0, _, _, _, _ => none
  | k + 1, x0, x7, x8, x78 => if x78 = true then (some false) else ((doc_Apply.f k x8 2 x7 0 9 1).bind fun bt255 => ((jotterlaw04_same.f k bt255.1 x0).bind fun t259 => (if bt255.2 = 0 then (jotterlaw04_DocUndo.j2 k x0 x7 (!t259)) else (jotterlaw04_DocUndo.j2 k x0 x7 true))))
def jotterlaw04_DocUndo.j2 : Nat → List (S24) → Int → Bool → Option (Bool)
  | 0, _, _, _ => none
  | k + 1, x0, x7, x94 => if x94 = true then (some false) else ((doc_Apply.f k x0 0 0 0 64 1).bind fun bt260 => (if bt260.2 = 0 then ((jotterlaw04_same.f k bt260.1 x0).bind fun t264 => (jotterlaw04_DocUndo.j3 k x0 x7 (!t264))) else (jotterlaw04_DocUndo.j3 k x0 x7 true)))
def jotterlaw04_DocUndo.j3 : Nat → List (S24) → Int → Bool → Option (Bool)
  | 0, _, _, _ => none
  | k + 1, x0, x7, x108 => if x108 = true then (some false) else (if x7 = (x0.length : Int) then (some true) else (if 0 ≤ x7 then (if x7 < (x0.length : Int) then ((doc_Apply.f k x0 2 x7 0 9 2).bind fun bt267 => (if bt267.2 = 0 then (jotterlaw04_DocUndo.j4 k x0 x7 bt267.1 ((bt267.1.length : Int) != (wrap64 ((x0.length : Int) - 1))) ((rd_T24 x0 x7).f0) ((rd_T24 x0 x7).f1) ((rd_T24 x0 x7).f2)) else (jotterlaw04_DocUndo.j4 k x0 x7 bt267.1 true ((rd_T24 x0 x7).f0) ((rd_T24 x0 x7).f1) ((rd_T24 x0 x7).f2)))) else (none)) else (none)))
def jotterlaw04_DocUndo.j4 : Nat → List (S24) → Int → List (S24) → Bool → Int → Int → Int → Option (Bool)
  | 0, _, _, _, _, _, _, _ => none
  | k + 1, x0, x7, x16, x133, x267000, x267001, x267002 => if x133 = true then (some false) else (if x267000 ≥ 32 then (if x267000 ≤ 126 then (if x267001 ≥ 1 then (if x267001 ≤ 64 then (if x267002 ≥ 1 then (jotterlaw04_DocUndo.j5 k x0 x16 (decide (x267002 ≤ 64)) 1 x7 x267000 x267001 x267002) else (jotterlaw04_DocUndo.j5 k x0 x16 false 1 x7 x267000 x267001 x267002)) else (jotterlaw04_DocUndo.j5 k x0 x16 false 1 x7 x267000 x267001 x267002)) else (jotterlaw04_DocUndo.j5 k x0 x16 false 1 x7 x267000 x267001 x267002)) else (jotterlaw04_DocUndo.j5 k x0 x16 false 1 x7 x267000 x267001 x267002)) else (jotterlaw04_DocUndo.j5 k x0 x16 false 1 x7 x267000 x267001 x267002))
def jotterlaw04_DocUndo.j5 : Nat → List (S24) → List (S24) → Bool → Int → Int → Int → Int → Int → Option (Bool)
  | 0, _, _, _, _, _, _, _, _ => none
  | k + 1, x0, x16, x19, x272000, x272001, x272002, x272003, x272004 => (doc_Apply.f k x16 x272000 x272001 x272002 x272003 x272004).bind fun bt272 => (if x19 = true then (if bt272.2 = 0 then ((jotterlaw04_same.f k bt272.1 x0).bind fun t276 => (some t276)) else (some false)) else (if bt272.2 = 0 then (some false) else (some ((bt272.1.length : Int) == 0))))
end
def jotterlaw04_DocUndo.f (k : Nat) (l0 : List (S24)) (a1 : Int) (a2 : Int) : Option (Bool) := if (l0.length : Int) ≥ 4096 then (if 4095 ≤ (l0.length : Int) then (jotterlaw04_DocUndo.j0 k (l0.take 4095) a1 a2) else (none)) else (jotterlaw04_DocUndo.j0 k l0 a1 a2)
theorem jotterlaw04_DocUndo.mono_l : ∀ k, (∀ y0 y1 y2, LeO (jotterlaw04_DocUndo.j0 k y0 y1 y2) (jotterlaw04_DocUndo.j0 (k + 1) y0 y1 y2)) ∧ (∀ y0 y1 y2 y3, LeO (jotterlaw04_DocUndo.j1 k y0 y1 y2 y3) (jotterlaw04_DocUndo.j1 (k + 1) y0 y1 y2 y3)) ∧ (∀ y0 y1 y2, LeO (jotterlaw04_DocUndo.j2 k y0 y1 y2) (jotterlaw04_DocUndo.j2 (k + 1) y0 y1 y2)) ∧ (∀ y0 y1 y2, LeO (jotterlaw04_DocUndo.j3 k y0 y1 y2) (jotterlaw04_DocUndo.j3 (k + 1) y0 y1 y2)) ∧ (∀ y0 y1 y2 y3 y4 y5 y6, LeO (jotterlaw04_DocUndo.j4 k y0 y1 y2 y3 y4 y5 y6) (jotterlaw04_DocUndo.j4 (k + 1) y0 y1 y2 y3 y4 y5 y6)) ∧ (∀ y0 y1 y2 y3 y4 y5 y6 y7, LeO (jotterlaw04_DocUndo.j5 k y0 y1 y2 y3 y4 y5 y6 y7) (jotterlaw04_DocUndo.j5 (k + 1) y0 y1 y2 y3 y4 y5 y6 y7))
  | 0 => ⟨fun _ _ _ r h => by simp [jotterlaw04_DocUndo.j0] at h, fun _ _ _ _ r h => by simp [jotterlaw04_DocUndo.j1] at h, fun _ _ _ r h => by simp [jotterlaw04_DocUndo.j2] at h, fun _ _ _ r h => by simp [jotterlaw04_DocUndo.j3] at h, fun _ _ _ _ _ _ _ r h => by simp [jotterlaw04_DocUndo.j4] at h, fun _ _ _ _ _ _ _ _ r h => by simp [jotterlaw04_DocUndo.j5] at h⟩
  | k + 1 => by
    obtain ⟨ih0, ih1, ih2, ih3, ih4, ih5⟩ := jotterlaw04_DocUndo.mono_l k
    refine ⟨?_, ?_, ?_, ?_, ?_, ?_⟩
    · intro y0 y1 y2
      unfold jotterlaw04_DocUndo.j0
      repeat' first
      | (with_reducible exact ih0 _ _ _)
      | (with_reducible exact ih1 _ _ _ _)
      | (with_reducible exact ih2 _ _ _)
      | (with_reducible exact ih3 _ _ _)
      | (with_reducible exact ih4 _ _ _ _ _ _ _)
      | (with_reducible exact ih5 _ _ _ _ _ _ _ _)
      | (with_reducible exact doc_Apply.mono _ _ _ _ _ _ _)
      | (with_reducible exact jotterlaw04_same.mono _ _ _)
      | (with_reducible exact LeO.refl _)
      | (with_reducible exact LeO.none _)
      | (with_reducible refine LeO.ite ?_ ?_)
      | (with_reducible refine LeO.bind ?_ (fun _ => ?_))
      | exact ih0 _ _ _
      | exact ih1 _ _ _ _
      | exact ih2 _ _ _
      | exact ih3 _ _ _
      | exact ih4 _ _ _ _ _ _ _
      | exact ih5 _ _ _ _ _ _ _ _
      | exact doc_Apply.mono _ _ _ _ _ _ _
      | exact jotterlaw04_same.mono _ _ _
      | exact LeO.none _
      | refine LeO.ite ?_ ?_
      | refine LeO.bind ?_ (fun _ => ?_)
    · intro y0 y1 y2 y3
      unfold jotterlaw04_DocUndo.j1
      repeat' first
      | (with_reducible exact ih0 _ _ _)
      | (with_reducible exact ih1 _ _ _ _)
      | (with_reducible exact ih2 _ _ _)
      | (with_reducible exact ih3 _ _ _)
      | (with_reducible exact ih4 _ _ _ _ _ _ _)
      | (with_reducible exact ih5 _ _ _ _ _ _ _ _)
      | (with_reducible exact doc_Apply.mono _ _ _ _ _ _ _)
      | (with_reducible exact jotterlaw04_same.mono _ _ _)
      | (with_reducible exact LeO.refl _)
      | (with_reducible exact LeO.none _)
      | (with_reducible refine LeO.ite ?_ ?_)
      | (with_reducible refine LeO.bind ?_ (fun _ => ?_))
      | exact ih0 _ _ _
      | exact ih1 _ _ _ _
      | exact ih2 _ _ _
      | exact ih3 _ _ _
      | exact ih4 _ _ _ _ _ _ _
      | exact ih5 _ _ _ _ _ _ _ _
      | exact doc_Apply.mono _ _ _ _ _ _ _
      | exact jotterlaw04_same.mono _ _ _
      | exact LeO.none _
      | refine LeO.ite ?_ ?_
      | refine LeO.bind ?_ (fun _ => ?_)
    · intro y0 y1 y2
      unfold jotterlaw04_DocUndo.j2
      repeat' first
      | (with_reducible exact ih0 _ _ _)
      | (with_reducible exact ih1 _ _ _ _)
      | (with_reducible exact ih2 _ _ _)
      | (with_reducible exact ih3 _ _ _)
      | (with_reducible exact ih4 _ _ _ _ _ _ _)
      | (with_reducible exact ih5 _ _ _ _ _ _ _ _)
      | (with_reducible exact doc_Apply.mono _ _ _ _ _ _ _)
      | (with_reducible exact jotterlaw04_same.mono _ _ _)
      | (with_reducible exact LeO.refl _)
      | (with_reducible exact LeO.none _)
      | (with_reducible refine LeO.ite ?_ ?_)
      | (with_reducible refine LeO.bind ?_ (fun _ => ?_))
      | exact ih0 _ _ _
      | exact ih1 _ _ _ _
      | exact ih2 _ _ _
      | exact ih3 _ _ _
      | exact ih4 _ _ _ _ _ _ _
      | exact ih5 _ _ _ _ _ _ _ _
      | exact doc_Apply.mono _ _ _ _ _ _ _
      | exact jotterlaw04_same.mono _ _ _
      | exact LeO.none _
      | refine LeO.ite ?_ ?_
      | refine LeO.bind ?_ (fun _ => ?_)
    · intro y0 y1 y2
      unfold jotterlaw04_DocUndo.j3
      repeat' first
      | (with_reducible exact ih0 _ _ _)
      | (with_reducible exact ih1 _ _ _ _)
      | (with_reducible exact ih2 _ _ _)
      | (with_reducible exact ih3 _ _ _)
      | (with_reducible exact ih4 _ _ _ _ _ _ _)
      | (with_reducible exact ih5 _ _ _ _ _ _ _ _)
      | (with_reducible exact doc_Apply.mono _ _ _ _ _ _ _)
      | (with_reducible exact jotterlaw04_same.mono _ _ _)
      | (with_reducible exact LeO.refl _)
      | (with_reducible exact LeO.none _)
      | (with_reducible refine LeO.ite ?_ ?_)
      | (with_reducible refine LeO.bind ?_ (fun _ => ?_))
      | exact ih0 _ _ _
      | exact ih1 _ _ _ _
      | exact ih2 _ _ _
      | exact ih3 _ _ _
      | exact ih4 _ _ _ _ _ _ _
      | exact ih5 _ _ _ _ _ _ _ _
      | exact doc_Apply.mono _ _ _ _ _ _ _
      | exact jotterlaw04_same.mono _ _ _
      | exact LeO.none _
      | refine LeO.ite ?_ ?_
      | refine LeO.bind ?_ (fun _ => ?_)
    · intro y0 y1 y2 y3 y4 y5 y6
      unfold jotterlaw04_DocUndo.j4
      repeat' first
      | (with_reducible exact ih0 _ _ _)
      | (with_reducible exact ih1 _ _ _ _)
      | (with_reducible exact ih2 _ _ _)
      | (with_reducible exact ih3 _ _ _)
      | (with_reducible exact ih4 _ _ _ _ _ _ _)
      | (with_reducible exact ih5 _ _ _ _ _ _ _ _)
      | (with_reducible exact doc_Apply.mono _ _ _ _ _ _ _)
      | (with_reducible exact jotterlaw04_same.mono _ _ _)
      | (with_reducible exact LeO.refl _)
      | (with_reducible exact LeO.none _)
      | (with_reducible refine LeO.ite ?_ ?_)
      | (with_reducible refine LeO.bind ?_ (fun _ => ?_))
      | exact ih0 _ _ _
      | exact ih1 _ _ _ _
      | exact ih2 _ _ _
      | exact ih3 _ _ _
      | exact ih4 _ _ _ _ _ _ _
      | exact ih5 _ _ _ _ _ _ _ _
      | exact doc_Apply.mono _ _ _ _ _ _ _
      | exact jotterlaw04_same.mono _ _ _
      | exact LeO.none _
      | refine LeO.ite ?_ ?_
      | refine LeO.bind ?_ (fun _ => ?_)
    · intro y0 y1 y2 y3 y4 y5 y6 y7
      unfold jotterlaw04_DocUndo.j5
      repeat' first
      | (with_reducible exact ih0 _ _ _)
      | (with_reducible exact ih1 _ _ _ _)
      | (with_reducible exact ih2 _ _ _)
      | (with_reducible exact ih3 _ _ _)
      | (with_reducible exact ih4 _ _ _ _ _ _ _)
      | (with_reducible exact ih5 _ _ _ _ _ _ _ _)
      | (with_reducible exact doc_Apply.mono _ _ _ _ _ _ _)
      | (with_reducible exact jotterlaw04_same.mono _ _ _)
      | (with_reducible exact LeO.refl _)
      | (with_reducible exact LeO.none _)
      | (with_reducible refine LeO.ite ?_ ?_)
      | (with_reducible refine LeO.bind ?_ (fun _ => ?_))
      | exact ih0 _ _ _
      | exact ih1 _ _ _ _
      | exact ih2 _ _ _
      | exact ih3 _ _ _
      | exact ih4 _ _ _ _ _ _ _
      | exact ih5 _ _ _ _ _ _ _ _
      | exact doc_Apply.mono _ _ _ _ _ _ _
      | exact jotterlaw04_same.mono _ _ _
      | exact LeO.none _
      | refine LeO.ite ?_ ?_
      | refine LeO.bind ?_ (fun _ => ?_)
theorem jotterlaw04_DocUndo.mono : ∀ a0 a1 a2 k, LeO (jotterlaw04_DocUndo.f k a0 a1 a2) (jotterlaw04_DocUndo.f (k + 1) a0 a1 a2) := by
  intro a0 a1 a2 k
  obtain ⟨ih0, ih1, ih2, ih3, ih4, ih5⟩ := jotterlaw04_DocUndo.mono_l k
  unfold jotterlaw04_DocUndo.f
  repeat' first
      | (with_reducible exact ih0 _ _ _)
      | (with_reducible exact ih1 _ _ _ _)
      | (with_reducible exact ih2 _ _ _)
      | (with_reducible exact ih3 _ _ _)
      | (with_reducible exact ih4 _ _ _ _ _ _ _)
      | (with_reducible exact ih5 _ _ _ _ _ _ _ _)
      | (with_reducible exact doc_Apply.mono _ _ _ _ _ _ _)
      | (with_reducible exact jotterlaw04_same.mono _ _ _)
      | (with_reducible exact LeO.refl _)
      | (with_reducible exact LeO.none _)
      | (with_reducible refine LeO.ite ?_ ?_)
      | (with_reducible refine LeO.bind ?_ (fun _ => ?_))
      | exact ih0 _ _ _
      | exact ih1 _ _ _ _
      | exact ih2 _ _ _
      | exact ih3 _ _ _
      | exact ih4 _ _ _ _ _ _ _
      | exact ih5 _ _ _ _ _ _ _ _
      | exact doc_Apply.mono _ _ _ _ _ _ _
      | exact jotterlaw04_same.mono _ _ _
      | exact LeO.none _
      | refine LeO.ite ?_ ?_
      | refine LeO.bind ?_ (fun _ => ?_)
set_option maxHeartbeats 8000000 in
set_option maxRecDepth 100000 in
theorem jotterlaw04_DocUndo.calls (k : Nat) (P0_ : Nat → Prop) (A0 : Option Addr) (c0 : Nat) (l0 : List (S24)) (a1 : Int) (a2 : Int) (r : Bool) (w : World) (hs0 : Kd.V k24 24 w w.heap.size (fun k_ => P0_ k_) (.slice A0 l0.length c0) l0) (h : jotterlaw04_DocUndo.f k l0 a1 a2 = some r) :
    Calls Try.prog 6 #[.slice A0 l0.length c0, .int .i64 a1, .int .u8 a2] w fun e w' => e = .returned (.bool r) ∧ Below w.heap.size w w' := by
  have hu30 := Try.underlying30
  have hu24 := Try.underlying24
  have HO0 := Aside0.mk (show Kd.V k24 24 w w.heap.size (fun k_ => (P0_ k_ ∨ w.heap.size ≤ k_)) (.slice A0 l0.length c0) l0 from Kd.V_mono hs0 (fun k_ hk => .inl hk))
  have HB := Aside0.mk (Below.refl w.heap.size w)
  have H : (if (l0.length : Int) ≥ 4096 then (if 4095 ≤ (l0.length : Int) then (jotterlaw04_DocUndo.j0 k (l0.take 4095) a1 a2) else (none)) else (jotterlaw04_DocUndo.j0 k l0 a1 a2)) = some r := h
  clear h
  have HC4 := Aside0.mk H
  clear H
  go_enter Try.func6, Try.ntmps6
  go_upto_if 24 with (fail)
  go_cut [0] (fun v0 wc => ∃ (kq : Nat) (x0_3 : List (S24)), Aside0 (jotterlaw04_DocUndo.j0 kq x0_3 a1 a2 = some r) ∧ Aside0 (kq ≤ k) ∧ Aside0 (Kd.V k24 24 wc w.heap.size (fun k_ => (P0_ k_ ∨ w.heap.size ≤ k_)) v0 x0_3) ∧ Aside0 (Below w.heap.size w wc))
  case first =>
    have H := HC4.out
    clear HC4
    by_cases c5 : (l0.length : Int) ≥ 4096
    · rw [if_pos c5] at H
      have c5b0 : decide (4096 ≤ (l0.length : Int)) = true := decide_eq_true c5
      have c5b1 : decide (4096 ≤ l0.length) = true := decide_eq_true (by omega)
      clear c5
      (first | rw [c5b0] | (simp only [i64_w, i32_w]; rw [c5b0]) | skip)
      by_cases c6 : 4095 ≤ (l0.length : Int)
      · rw [if_pos c6] at H
        have c6b0 := eq_true c6
        have c6b1 : decide (4095 ≤ (l0.length : Int)) = true := decide_eq_true c6
        clear c6
        obtain ⟨y242, hy242⟩ : ∃ y_ : List (S24), y_ = (l0.take 4095) := ⟨_, rfl⟩
        replace H : (jotterlaw04_DocUndo.j0 k y242 a1 a2) = some r := by first | (rw [hy242]; with_reducible exact H) | (have H2_ := (Option.bind_some _ _).symm.trans H; rw [hy242]; with_reducible exact H2_) | (have H2_ := (Option.bind_some _ _).symm.trans H; with_reducible exact H2_) | with_reducible exact H | (rw [hy242]; exact H) | exact H
        have Ny242 := Aside0.mk hy242
        clear hy242
        as_aux_lemma =>
          have H' := Aside0.mk H
          clear H
          have q7 : (4095 : Int) ≤ ((l0.length : Int) : Int) := of_decide_eq_true (by first | (with_reducible assumption) | assumption)
          obtain ⟨i07, hi07, _, hsz7, _⟩ := info_parts info24
          have hroom7 : l0.length ≤ c0 := (Kd.V_reads' HO0.out).2.1
          have hC7 : Kd.F k24 _ _ A0 l0.length l0 := (Kd.V_at (base := w.heap.size) HO0.out).2.2
          have hcut7 := cut_to (P := Try.prog) 22 24 .i64 Try.underlying22 hi07 A0 l0.length c0 4095 (by omega) q7 hroom7
          have hr7 := Kd.F_take (m := 4095) hC7 (by omega)
          have hy7 : y242.length = (4095 : Int).toNat := (by rw [Ny242.out, List.length_take]; omega)
          rw [← Ny242.out] at hr7
          rw [← hy7] at hcut7
          have HO246 := Aside0.mk (show Kd.V k24 24 _ w.heap.size _ (.slice A0 y242.length c0) y242 from Kd.V_mk (by omega) hr7)
          have HC246 := Aside0.mk (show y242.length ≤ c0 from by omega)
          clear hr7 hC7 hroom7 hi07 hsz7
          have KY7 := Aside0.mk hy7
          clear hy7
          replace q7 := eq_true q7
          go_wp2
          go_meet
          case rel => exact ⟨_, (y242), H', ⟨by first | omega | exact Nat.le_refl _⟩, ⟨by (with_reducible repeat (first | apply Kd.V_alloc | apply Kd.V_drewN | apply Kd.V_drew)); exact HO246.out⟩, ⟨by repeat (first | (with_reducible first | exact HB.out | apply below_alloc | apply pw_below_drewN | apply below_drew1) | exact HB.out)⟩⟩
      · rw [if_neg c6] at H
        exact absurd H (by simp)
    · rw [if_neg c5] at H
      have c5b0 : decide (4096 ≤ (l0.length : Int)) = false := decide_eq_false c5
      have c5b1 : decide (4096 ≤ l0.length) = false := decide_eq_false (by omega)
      clear c5
      (first | rw [c5b0] | (simp only [i64_w, i32_w]; rw [c5b0]) | skip)
      as_aux_lemma =>
        have H' := Aside0.mk H
        clear H
        go_wp2
        go_meet
        case rel => exact ⟨_, (l0), H', ⟨by first | omega | exact Nat.le_refl _⟩, ⟨by (with_reducible repeat (first | apply Kd.V_alloc | apply Kd.V_drewN | apply Kd.V_drew)); exact HO0.out⟩, ⟨by repeat (first | (with_reducible first | exact HB.out | apply below_alloc | apply pw_below_drewN | apply below_drew1) | exact HB.out)⟩⟩
  case rest =>
    clear HC4
    try clear p2
    try clear c5
    try clear c5b0
    try clear c5b1
    try clear c6
    try clear c6b0
    try clear c6b1
    try clear q7
    try clear q7
    obtain ⟨kq, x0_3, HA, HJ3, HO_0, HB⟩ := hcut
    cases kq with
    | zero => exact absurd HA.out (by simp [jotterlaw04_DocUndo.j0])
    | succ kj3 =>
      have H := HA.out
      clear HA
      simp only [jotterlaw04_DocUndo.j0] at H
      replace H := Option.bind_eq_some_iff.mp H
      obtain ⟨t247, A80, H⟩ := H
      replace H : ((doc_Apply.f kj3 x0_3 1 t247 ((32 + (Int.tmod a2 95)) % 256) 7 64).bind fun bt248 => (if bt248.2 = 0 then (if (bt248.1.length : Int) = (wrap64 ((x0_3.length : Int) + 1)) then (if 0 ≤ t247 then (if t247 < (bt248.1.length : Int) then (if ((rd_T24 bt248.1 t247).f1) = 7 then (if ((rd_T24 bt248.1 t247).f2) = 64 then (jotterlaw04_DocUndo.j1 kj3 x0_3 t247 bt248.1 (((rd_T24 bt248.1 t247).f0) != ((32 + (Int.tmod a2 95)) % 256))) else (jotterlaw04_DocUndo.j1 kj3 x0_3 t247 bt248.1 true)) else (jotterlaw04_DocUndo.j1 kj3 x0_3 t247 bt248.1 true)) else (none)) else (none)) else (jotterlaw04_DocUndo.j1 kj3 x0_3 t247 bt248.1 true)) else (jotterlaw04_DocUndo.j1 kj3 x0_3 t247 bt248.1 true))) = some r := H
      have A8 := Aside0.mk A80
      clear A80
      replace H := Option.bind_eq_some_iff.mp H
      obtain ⟨⟨t248, t251⟩, A90, H⟩ := H
      replace H : (if t251 = 0 then (if (t248.length : Int) = (wrap64 ((x0_3.length : Int) + 1)) then (if 0 ≤ t247 then (if t247 < (t248.length : Int) then (if ((rd_T24 t248 t247).f1) = 7 then (if ((rd_T24 t248 t247).f2) = 64 then (jotterlaw04_DocUndo.j1 kj3 x0_3 t247 t248 (((rd_T24 t248 t247).f0) != ((32 + (Int.tmod a2 95)) % 256))) else (jotterlaw04_DocUndo.j1 kj3 x0_3 t247 t248 true)) else (jotterlaw04_DocUndo.j1 kj3 x0_3 t247 t248 true)) else (none)) else (none)) else (jotterlaw04_DocUndo.j1 kj3 x0_3 t247 t248 true)) else (jotterlaw04_DocUndo.j1 kj3 x0_3 t247 t248 true)) = some r := H
      have A9 := Aside0.mk A90
      clear A90
      have HC10 := Aside0.mk H
      clear H
      obtain ⟨Ao11, co11, eo11⟩ := Kd.V_slice HO_0.out
      subst eo11
      go_upto_region 5 with (first | ((with_reducible refine gate_callee (f := 27) rfl ?_); refine goesL_ (some 31) rfl rfl Try.func27 (by kernel_rfl) rfl #[.int .i64 a1, .int .i64 (wrap64 ((x0_3.length : Int) + 1))] rfl (by (try simp only [List.map_toArray, List.map_cons, List.map_nil]); first | done | rfl | (simp only [List.length_drop, List.length_take]; rfl)) ?_; (with_reducible refine (jotterlaw04_place.calls a1 (wrap64 ((x0_3.length : Int) + 1)) t247 _ A8.out).mono ?_); rintro e w' ⟨rfl, ⟨nd, rfl⟩⟩; refine ⟨_, rfl, ?_⟩) | ((with_reducible refine gate_callee (f := 25) rfl ?_); refine goesL_ (some 39) rfl rfl Try.func25 (by kernel_rfl) rfl #[.slice Ao11 x0_3.length co11, .agg #[.int .i64 1, .int .i64 t247, .int .u8 ((32 + (Int.tmod a2 95)) % 256), .int .i64 7, .int .i64 64]] rfl (by (try simp only [List.map_toArray, List.map_cons, List.map_nil]); first | done | rfl | (simp only [List.length_drop, List.length_take]; rfl)) ?_; (with_reducible refine (doc_Apply.calls kj3 _ _ x0_3 1 t247 ((32 + (Int.tmod a2 95)) % 256) 7 64 t248 t251 _ ?side1 ?side2 A9.out).mono ?_); (case side1 => repeat (first | exact (Kd.V_reads' HO_0.out).2.2 | (with_reducible refine Kd.C_alloc ?_ _) | (with_reducible refine Kd.C_drewN ?_ _) | (with_reducible refine Kd.C_drew ?_))); (case side2 => exact (Kd.V_reads' HO_0.out).2.1); rintro e w12 ⟨v249, rfl, ho0, hb⟩; refine ⟨_, rfl, ?_⟩; have n0_ := Aside0.mk (Kd.V_elder' (by (with_reducible repeat (first | apply Kd.V_alloc | apply Kd.V_drewN | apply Kd.V_drew)); exact HO_0.out) (Kd.R_base ho0) hb); have n1_ := Aside0.mk (Kd.R_lower (Kd.R_newM (M := fun k_ => (w.heap.size ≤ k_)) ho0 (below_size (by repeat (first | (with_reducible first | exact HB.out | apply below_alloc | apply pw_below_drewN | apply below_drew1) | exact HB.out))) (fun k_ h_ => h_)) (below_size (by repeat (first | (with_reducible first | exact HB.out | apply below_alloc | apply pw_below_drewN | apply below_drew1) | exact HB.out)))); have n2_ := Aside0.mk (below_step (by repeat (first | (with_reducible first | exact HB.out | apply below_alloc | apply pw_below_drewN | apply below_drew1) | exact HB.out)) hb); clear HO_0; clear HB; have HO_0 := n0_; have HO250 := n1_; have HB := n2_; clear n0_ n1_ n2_; (try clear hb); (try clear hb2); (try clear hk); (try clear hi); (try clear ho0)))
      (try simp only [Act.put, List.setIfInBounds_toArray, List.set_cons_zero, List.set_cons_succ])
      go_cut [78] (fun v78 wc => ∃ (kq : Nat) (x78_9 : Bool), v78 = .bool x78_9 ∧ Aside0 (jotterlaw04_DocUndo.j1 kq x0_3 t247 t248 x78_9 = some r) ∧ Aside0 (kq ≤ kj3) ∧ Aside0 (Kd.V k24 24 wc w.heap.size (fun k_ => (P0_ k_ ∨ w.heap.size ≤ k_) ∧ some k_ ≠ (v249 : Value).ownBlock) (.slice Ao11 x0_3.length co11) x0_3) ∧ Aside0 (Kd.R k24 24 wc w.heap.size (fun k_ => (w.heap.size ≤ k_)) v249 t248) ∧ Aside0 (Below w.heap.size w wc))
      case first =>
        have H := HC10.out
        clear HC10
        by_cases c13 : t251 = 0
        · rw [if_pos c13] at H
          have c13b0 : (t251 == 0) = true := beq_iff_eq.mpr c13
          have c13b1 : (t251 != 0) = false := bne_eq_false_iff_eq.mpr c13
          clear c13
          (first | rw [c13b0] | (simp only [i64_w, i32_w]; rw [c13b0]) | skip)
          by_cases c14 : (t248.length : Int) = (wrap64 ((x0_3.length : Int) + 1))
          · rw [if_pos c14] at H
            have c14b0 : ((t248.length : Int) == (wrap64 ((x0_3.length : Int) + 1))) = true := beq_iff_eq.mpr c14
            have c14b1 : ((t248.length : Int) != (wrap64 ((x0_3.length : Int) + 1))) = false := bne_eq_false_iff_eq.mpr c14
            clear c14
            by_cases c15 : 0 ≤ t247
            · rw [if_pos c15] at H
              have c15b0 : decide (0 ≤ t247) = true := decide_eq_true c15
              clear c15
              by_cases c16 : t247 < (t248.length : Int)
              · rw [if_pos c16] at H
                have c16b0 : decide (t247 < (t248.length : Int)) = true := decide_eq_true c16
                clear c16
                by_cases c17 : ((rd_T24 t248 t247).f1) = 7
                · rw [if_pos c17] at H
                  have c17b0 : (((rd_T24 t248 t247).f1) == 7) = true := beq_iff_eq.mpr c17
                  have c17b1 : (((rd_T24 t248 t247).f1) != 7) = false := bne_eq_false_iff_eq.mpr c17
                  clear c17
                  by_cases c18 : ((rd_T24 t248 t247).f2) = 64
                  · rw [if_pos c18] at H
                    have c18b0 : (((rd_T24 t248 t247).f2) == 64) = true := beq_iff_eq.mpr c18
                    have c18b1 : (((rd_T24 t248 t247).f2) != 64) = false := bne_eq_false_iff_eq.mpr c18
                    clear c18
                    as_aux_lemma =>
                      have H' := Aside0.mk H
                      clear H
                      obtain ⟨Ao19, co19, eo19⟩ := Kd.R_slice HO250.out
                      subst eo19
                      have p252 : 0 ≤ (t247 : Int) := of_decide_eq_true (by first | (with_reducible assumption) | assumption)
                      have q252 : t247 < (t248.length : Int) := of_decide_eq_true (by first | (with_reducible assumption) | assumption)
                      obtain ⟨ad252, e252, hx252_0, hx252_1, hx252_2⟩ := at_T24 (Kd.R_reads' HO250.out).2.2 t247 p252 q252
                      cases e252
                      replace p252 := eq_true p252
                      replace q252 := eq_true q252
                      have p253 : 0 ≤ (t247 : Int) := of_decide_eq_true (by first | (with_reducible assumption) | assumption)
                      have q253 : t247 < (t248.length : Int) := of_decide_eq_true (by first | (with_reducible assumption) | assumption)
                      obtain ⟨ad253, e253, hx253_0, hx253_1, hx253_2⟩ := at_T24 (Kd.R_reads' HO250.out).2.2 t247 p253 q253
                      obtain rfl : ad252 = ad253 := (by injection e253)
                      replace p253 := eq_true p253
                      replace q253 := eq_true q253
                      have p254 : 0 ≤ (t247 : Int) := of_decide_eq_true (by first | (with_reducible assumption) | assumption)
                      have q254 : t247 < (t248.length : Int) := of_decide_eq_true (by first | (with_reducible assumption) | assumption)
                      obtain ⟨ad254, e254, hx254_0, hx254_1, hx254_2⟩ := at_T24 (Kd.R_reads' HO250.out).2.2 t247 p254 q254
                      obtain rfl : ad252 = ad254 := (by injection e254)
                      replace p254 := eq_true p254
                      replace q254 := eq_true q254
                      go_wp2
                      go_meet
                      case rel => exact ⟨_, ((((rd_T24 t248 t247).f0) != ((32 + (Int.tmod a2 95)) % 256))), (by first | rfl | (simp; done) | (simp [*]; done)), H', ⟨by have := HJ3.out; first | omega | exact Nat.le_refl _⟩, ⟨by (with_reducible repeat (first | apply Kd.V_alloc | apply Kd.V_drewN | apply Kd.V_drew)); exact HO_0.out⟩, ⟨by (with_reducible repeat (first | apply Kd.R_alloc | apply Kd.R_drewN | apply Kd.R_drew)); exact Kd.R_mono HO250.out (fun _ hk => hk.1)⟩, ⟨by repeat (first | (with_reducible first | exact HB.out | apply below_alloc | apply pw_below_drewN | apply below_drew1) | exact HB.out)⟩⟩
                  · rw [if_neg c18] at H
                    have c18b0 : (((rd_T24 t248 t247).f2) == 64) = false := beq_eq_false_iff_ne.mpr c18
                    have c18b1 : (((rd_T24 t248 t247).f2) != 64) = true := bne_iff_ne.mpr c18
                    as_aux_lemma =>
                      have H' := Aside0.mk H
                      clear H
                      obtain ⟨Ao20, co20, eo20⟩ := Kd.R_slice HO250.out
                      subst eo20
                      have p252 : 0 ≤ (t247 : Int) := of_decide_eq_true (by first | (with_reducible assumption) | assumption)
                      have q252 : t247 < (t248.length : Int) := of_decide_eq_true (by first | (with_reducible assumption) | assumption)
                      obtain ⟨ad252, e252, hx252_0, hx252_1, hx252_2⟩ := at_T24 (Kd.R_reads' HO250.out).2.2 t247 p252 q252
                      cases e252
                      replace p252 := eq_true p252
                      replace q252 := eq_true q252
                      have p253 : 0 ≤ (t247 : Int) := of_decide_eq_true (by first | (with_reducible assumption) | assumption)
                      have q253 : t247 < (t248.length : Int) := of_decide_eq_true (by first | (with_reducible assumption) | assumption)
                      obtain ⟨ad253, e253, hx253_0, hx253_1, hx253_2⟩ := at_T24 (Kd.R_reads' HO250.out).2.2 t247 p253 q253
                      obtain rfl : ad252 = ad253 := (by injection e253)
                      replace p253 := eq_true p253
                      replace q253 := eq_true q253
                      go_wp2
                      go_meet
                      case rel => exact ⟨_, (true), (by first | rfl | (simp; done) | (simp [*]; done)), H', ⟨by have := HJ3.out; first | omega | exact Nat.le_refl _⟩, ⟨by (with_reducible repeat (first | apply Kd.V_alloc | apply Kd.V_drewN | apply Kd.V_drew)); exact HO_0.out⟩, ⟨by (with_reducible repeat (first | apply Kd.R_alloc | apply Kd.R_drewN | apply Kd.R_drew)); exact Kd.R_mono HO250.out (fun _ hk => hk.1)⟩, ⟨by repeat (first | (with_reducible first | exact HB.out | apply below_alloc | apply pw_below_drewN | apply below_drew1) | exact HB.out)⟩⟩
                · rw [if_neg c17] at H
                  have c17b0 : (((rd_T24 t248 t247).f1) == 7) = false := beq_eq_false_iff_ne.mpr c17
                  have c17b1 : (((rd_T24 t248 t247).f1) != 7) = true := bne_iff_ne.mpr c17
                  as_aux_lemma =>
                    have H' := Aside0.mk H
                    clear H
                    obtain ⟨Ao21, co21, eo21⟩ := Kd.R_slice HO250.out
                    subst eo21
                    have p252 : 0 ≤ (t247 : Int) := of_decide_eq_true (by first | (with_reducible assumption) | assumption)
                    have q252 : t247 < (t248.length : Int) := of_decide_eq_true (by first | (with_reducible assumption) | assumption)
                    obtain ⟨ad252, e252, hx252_0, hx252_1, hx252_2⟩ := at_T24 (Kd.R_reads' HO250.out).2.2 t247 p252 q252
                    cases e252
                    replace p252 := eq_true p252
                    replace q252 := eq_true q252
                    go_wp2
                    go_meet
                    case rel => exact ⟨_, (true), (by first | rfl | (simp; done) | (simp [*]; done)), H', ⟨by have := HJ3.out; first | omega | exact Nat.le_refl _⟩, ⟨by (with_reducible repeat (first | apply Kd.V_alloc | apply Kd.V_drewN | apply Kd.V_drew)); exact HO_0.out⟩, ⟨by (with_reducible repeat (first | apply Kd.R_alloc | apply Kd.R_drewN | apply Kd.R_drew)); exact Kd.R_mono HO250.out (fun _ hk => hk.1)⟩, ⟨by repeat (first | (with_reducible first | exact HB.out | apply below_alloc | apply pw_below_drewN | apply below_drew1) | exact HB.out)⟩⟩
              · rw [if_neg c16] at H
                exact absurd H (by simp)
            · rw [if_neg c15] at H
              exact absurd H (by simp)
          · rw [if_neg c14] at H
            have c14b0 : ((t248.length : Int) == (wrap64 ((x0_3.length : Int) + 1))) = false := beq_eq_false_iff_ne.mpr c14
            have c14b1 : ((t248.length : Int) != (wrap64 ((x0_3.length : Int) + 1))) = true := bne_iff_ne.mpr c14
            as_aux_lemma =>
              have H' := Aside0.mk H
              clear H
              obtain ⟨Ao22, co22, eo22⟩ := Kd.R_slice HO250.out
              subst eo22
              go_wp2
              go_meet
              case rel => exact ⟨_, (true), (by first | rfl | (simp; done) | (simp [*]; done)), H', ⟨by have := HJ3.out; first | omega | exact Nat.le_refl _⟩, ⟨by (with_reducible repeat (first | apply Kd.V_alloc | apply Kd.V_drewN | apply Kd.V_drew)); exact HO_0.out⟩, ⟨by (with_reducible repeat (first | apply Kd.R_alloc | apply Kd.R_drewN | apply Kd.R_drew)); exact Kd.R_mono HO250.out (fun _ hk => hk.1)⟩, ⟨by repeat (first | (with_reducible first | exact HB.out | apply below_alloc | apply pw_below_drewN | apply below_drew1) | exact HB.out)⟩⟩
        · rw [if_neg c13] at H
          have c13b0 : (t251 == 0) = false := beq_eq_false_iff_ne.mpr c13
          have c13b1 : (t251 != 0) = true := bne_iff_ne.mpr c13
          (first | rw [c13b0] | (simp only [i64_w, i32_w]; rw [c13b0]) | skip)
          as_aux_lemma =>
            have H' := Aside0.mk H
            clear H
            go_wp2
            go_meet
            case rel => exact ⟨_, (true), (by first | rfl | (simp; done) | (simp [*]; done)), H', ⟨by have := HJ3.out; first | omega | exact Nat.le_refl _⟩, ⟨by (with_reducible repeat (first | apply Kd.V_alloc | apply Kd.V_drewN | apply Kd.V_drew)); exact HO_0.out⟩, ⟨by (with_reducible repeat (first | apply Kd.R_alloc | apply Kd.R_drewN | apply Kd.R_drew)); exact Kd.R_mono HO250.out (fun _ hk => hk.1)⟩, ⟨by repeat (first | (with_reducible first | exact HB.out | apply below_alloc | apply pw_below_drewN | apply below_drew1) | exact HB.out)⟩⟩
      case rest =>
        clear HC10
        try clear c1
        try clear c2
        try clear p2
        try clear q2
        try clear hx2
        try clear c5
        try clear c5b0
        try clear c5b1
        try clear c6
        try clear c6b0
        try clear c6b1
        try clear p6
        try clear q7
        try clear c13
        try clear c13b0
        try clear c13b1
        try clear c14
        try clear c14b0
        try clear c14b1
        try clear c15
        try clear c15b0
        try clear c16
        try clear c16b0
        try clear c17
        try clear c17b0
        try clear c17b1
        try clear c18
        try clear c18b0
        try clear c18b1
        try clear hx252_0
        try clear hx252_1
        try clear hx252_2
        try clear hx253_0
        try clear hx253_1
        try clear hx253_2
        try clear hx254_0
        try clear hx254_1
        try clear hx254_2
        try clear p2
        try clear p252
        try clear p253
        try clear p254
        try clear q252
        try clear q253
        try clear q254
        try clear q7
        obtain ⟨kq, x78_9, rfl, HA, HJ9, HO_0, HO_8, HB⟩ := hcut
        cases kq with
        | zero => exact absurd HA.out (by simp [jotterlaw04_DocUndo.j1])
        | succ kj9 =>
          have H := HA.out
          clear HA
          simp only [jotterlaw04_DocUndo.j1] at H
          by_cases c23 : x78_9 = true
          · subst c23
            have H1 : (some false) = some r := by rw [if_pos rfl] at H; exact H
            clear H
            have H := H1
            clear H1
            as_aux_lemma =>
              obtain rfl := Option.some.inj H
              go_wp2
              go_ret
              exact ⟨by first | rfl | (simp [errW_none, errW_some] <;> rfl) | (simp [*, errW_none, errW_some] <;> rfl), by repeat (first | (with_reducible first | exact HB.out | apply below_alloc | apply pw_below_drewN | apply below_drew1) | exact HB.out)⟩
          · replace c23 := Bool.eq_false_iff.mpr c23
            subst c23
            have H1 : ((doc_Apply.f kj9 t248 2 t247 0 9 1).bind fun bt255 => ((jotterlaw04_same.f kj9 bt255.1 x0_3).bind fun t259 => (if bt255.2 = 0 then (jotterlaw04_DocUndo.j2 kj9 x0_3 t247 (!t259)) else (jotterlaw04_DocUndo.j2 kj9 x0_3 t247 true)))) = some r := by rw [if_neg (show ¬ (false = true) by decide)] at H; exact H
            clear H
            have H := H1
            clear H1
            replace H := Option.bind_eq_some_iff.mp H
            obtain ⟨⟨t255, t258⟩, A240, H⟩ := H
            replace H : ((jotterlaw04_same.f kj9 t255 x0_3).bind fun t259 => (if t258 = 0 then (jotterlaw04_DocUndo.j2 kj9 x0_3 t247 (!t259)) else (jotterlaw04_DocUndo.j2 kj9 x0_3 t247 true))) = some r := H
            have A24 := Aside0.mk A240
            clear A240
            replace H := Option.bind_eq_some_iff.mp H
            obtain ⟨t259, A250, H⟩ := H
            replace H : (if t258 = 0 then (jotterlaw04_DocUndo.j2 kj9 x0_3 t247 (!t259)) else (jotterlaw04_DocUndo.j2 kj9 x0_3 t247 true)) = some r := H
            have A25 := Aside0.mk A250
            clear A250
            have HC26 := Aside0.mk H
            clear H
            obtain ⟨Ao27, co27, eo27⟩ := Kd.R_slice HO_8.out
            subst eo27
            go_upto_region 9 with (first | ((with_reducible refine gate_callee (f := 25) rfl ?_); refine goesL_ (some 83) rfl rfl Try.func25 (by kernel_rfl) rfl #[.slice Ao27 t248.length co27, .agg #[.int .i64 2, .int .i64 t247, .int .u8 0, .int .i64 9, .int .i64 1]] rfl (by (try simp only [List.map_toArray, List.map_cons, List.map_nil]); first | done | rfl | (simp only [List.length_drop, List.length_take]; rfl)) ?_; (with_reducible refine (doc_Apply.calls kj9 _ _ t248 2 t247 0 9 1 t255 t258 _ ?side1 ?side2 A24.out).mono ?_); (case side1 => repeat (first | exact (Kd.R_reads' HO_8.out).2.2 | (with_reducible refine Kd.C_alloc ?_ _) | (with_reducible refine Kd.C_drewN ?_ _) | (with_reducible refine Kd.C_drew ?_))); (case side2 => exact (Kd.R_reads' HO_8.out).2.1); rintro e w28 ⟨v256, rfl, ho0, hb⟩; refine ⟨_, rfl, ?_⟩; have n0_ := Aside0.mk (Kd.V_elder' (by (with_reducible repeat (first | apply Kd.V_alloc | apply Kd.V_drewN | apply Kd.V_drew)); exact HO_0.out) (Kd.R_base ho0) hb); have n1_ := Aside0.mk (Kd.R_elder' (by (with_reducible repeat (first | apply Kd.R_alloc | apply Kd.R_drewN | apply Kd.R_drew)); exact HO_8.out) (Kd.R_base ho0) hb); have n2_ := Aside0.mk (Kd.R_lower (Kd.R_new' (Kd.R_newM (M := fun k_ => (w.heap.size ≤ k_)) ho0 (below_size (by repeat (first | (with_reducible first | exact HB.out | apply below_alloc | apply pw_below_drewN | apply below_drew1) | exact HB.out))) (fun k_ h_ => h_)) (Kd.R_lt (by (with_reducible repeat (first | apply Kd.R_alloc | apply Kd.R_drewN | apply Kd.R_drew)); exact HO_8.out))) (below_size (by repeat (first | (with_reducible first | exact HB.out | apply below_alloc | apply pw_below_drewN | apply below_drew1) | exact HB.out)))); have n3_ := Aside0.mk (below_step (by repeat (first | (with_reducible first | exact HB.out | apply below_alloc | apply pw_below_drewN | apply below_drew1) | exact HB.out)) hb); clear HO_0; clear HO_8; clear HB; have HO_0 := n0_; have HO_8 := n1_; have HO257 := n2_; have HB := n3_; clear n0_ n1_ n2_ n3_; (try clear hb); (try clear hb2); (try clear hk); (try clear hi); (try clear ho0); obtain ⟨Ao29, co29, eo29⟩ := Kd.R_slice HO257.out; subst eo29) | ((with_reducible refine gate_callee (f := 26) rfl ?_); refine goesL_ (some 88) rfl rfl Try.func26 (by kernel_rfl) rfl #[.slice Ao29 t255.length co29, .slice Ao11 x0_3.length co11] rfl (by (try simp only [List.map_toArray, List.map_cons, List.map_nil]); first | done | rfl | (simp only [List.length_drop, List.length_take]; rfl)) ?_; (with_reducible refine (jotterlaw04_same.calls kj9 _ _ t255 _ _ x0_3 t259 _ ?side1 ?side2 ?side3 ?side4 A25.out).mono ?_); (case side1 => repeat (first | exact (Kd.R_reads' HO257.out).2.2 | (with_reducible refine Kd.C_alloc ?_ _) | (with_reducible refine Kd.C_drewN ?_ _) | (with_reducible refine Kd.C_drew ?_))); (case side2 => exact (Kd.R_reads' HO257.out).2.1); (case side3 => repeat (first | exact (Kd.V_reads' HO_0.out).2.2 | (with_reducible refine Kd.C_alloc ?_ _) | (with_reducible refine Kd.C_drewN ?_ _) | (with_reducible refine Kd.C_drew ?_))); (case side4 => exact (Kd.V_reads' HO_0.out).2.1); rintro e w' ⟨rfl, ⟨nd, rfl⟩⟩; refine ⟨_, rfl, ?_⟩))
            (try simp only [Act.put, List.setIfInBounds_toArray, List.set_cons_zero, List.set_cons_succ])
            go_cut [94] (fun v94 wc => ∃ (kq : Nat) (x94_25 : Bool), v94 = .bool x94_25 ∧ Aside0 (jotterlaw04_DocUndo.j2 kq x0_3 t247 x94_25 = some r) ∧ Aside0 (kq ≤ kj9) ∧ Aside0 (Kd.V k24 24 wc w.heap.size (fun k_ => (P0_ k_ ∨ w.heap.size ≤ k_)) (.slice Ao11 x0_3.length co11) x0_3) ∧ Aside0 (Below w.heap.size w wc))
            case first =>
              have H := HC26.out
              clear HC26
              by_cases c30 : t258 = 0
              · rw [if_pos c30] at H
                have c30b0 : (t258 == 0) = true := beq_iff_eq.mpr c30
                have c30b1 : (t258 != 0) = false := bne_eq_false_iff_eq.mpr c30
                clear c30
                (first | rw [c30b0] | (simp only [i64_w, i32_w]; rw [c30b0]) | skip)
                as_aux_lemma =>
                  have H' := Aside0.mk H
                  clear H
                  go_wp2
                  go_meet
                  case rel => exact ⟨_, (!t259), (by first | rfl | (simp; done) | (simp [*]; done)), H', ⟨by have := HJ3.out; have := HJ9.out; first | omega | exact Nat.le_refl _⟩, ⟨by (with_reducible repeat (first | apply Kd.V_alloc | apply Kd.V_drewN | apply Kd.V_drew)); exact Kd.V_mono HO_0.out (fun _ hk => hk.1.1)⟩, ⟨by repeat (first | (with_reducible first | exact HB.out | apply below_alloc | apply pw_below_drewN | apply below_drew1) | exact HB.out)⟩⟩
              · rw [if_neg c30] at H
                have c30b0 : (t258 == 0) = false := beq_eq_false_iff_ne.mpr c30
                have c30b1 : (t258 != 0) = true := bne_iff_ne.mpr c30
                (first | rw [c30b0] | (simp only [i64_w, i32_w]; rw [c30b0]) | skip)
                as_aux_lemma =>
                  have H' := Aside0.mk H
                  clear H
                  go_wp2
                  go_meet
                  case rel => exact ⟨_, (true), (by first | rfl | (simp; done) | (simp [*]; done)), H', ⟨by have := HJ3.out; have := HJ9.out; first | omega | exact Nat.le_refl _⟩, ⟨by (with_reducible repeat (first | apply Kd.V_alloc | apply Kd.V_drewN | apply Kd.V_drew)); exact Kd.V_mono HO_0.out (fun _ hk => hk.1.1)⟩, ⟨by repeat (first | (with_reducible first | exact HB.out | apply below_alloc | apply pw_below_drewN | apply below_drew1) | exact HB.out)⟩⟩
            case rest =>
              clear HC26
              try clear c1
              try clear c2
              try clear p2
              try clear q2
              try clear hx2
              try clear c3
              try clear c5
              try clear c5b0
              try clear c5b1
              try clear c6
              try clear c6b0
              try clear c6b1
              try clear p6
              try clear q7
              try clear c13
              try clear c13b0
              try clear c13b1
              try clear c14
              try clear c14b0
              try clear c14b1
              try clear c15
              try clear c15b0
              try clear c16
              try clear c16b0
              try clear c17
              try clear c17b0
              try clear c17b1
              try clear c18
              try clear c18b0
              try clear c18b1
              try clear c23
              try clear c25
              try clear p25
              try clear q25
              try clear hx25
              try clear c26
              try clear c27
              try clear c30
              try clear c30b0
              try clear c30b1
              try clear hx252_0
              try clear hx252_1
              try clear hx252_2
              try clear hx253_0
              try clear hx253_1
              try clear hx253_2
              try clear hx254_0
              try clear hx254_1
              try clear hx254_2
              try clear p2
              try clear p252
              try clear p253
              try clear p254
              try clear p6
              try clear q2
              try clear q252
              try clear q253
              try clear q254
              try clear q7
              obtain ⟨kq, x94_25, rfl, HA, HJ25, HO_0, HB⟩ := hcut
              cases kq with
              | zero => exact absurd HA.out (by simp [jotterlaw04_DocUndo.j2])
              | succ kj25 =>
                have H := HA.out
                clear HA
                simp only [jotterlaw04_DocUndo.j2] at H
                by_cases c31 : x94_25 = true
                · subst c31
                  have H1 : (some false) = some r := by rw [if_pos rfl] at H; exact H
                  clear H
                  have H := H1
                  clear H1
                  as_aux_lemma =>
                    obtain rfl := Option.some.inj H
                    go_wp2
                    go_ret
                    exact ⟨by first | rfl | (simp [errW_none, errW_some] <;> rfl) | (simp [*, errW_none, errW_some] <;> rfl), by repeat (first | (with_reducible first | exact HB.out | apply below_alloc | apply pw_below_drewN | apply below_drew1) | exact HB.out)⟩
                · replace c31 := Bool.eq_false_iff.mpr c31
                  subst c31
                  have H1 : ((doc_Apply.f kj25 x0_3 0 0 0 64 1).bind fun bt260 => (if bt260.2 = 0 then ((jotterlaw04_same.f kj25 bt260.1 x0_3).bind fun t264 => (jotterlaw04_DocUndo.j3 kj25 x0_3 t247 (!t264))) else (jotterlaw04_DocUndo.j3 kj25 x0_3 t247 true))) = some r := by rw [if_neg (show ¬ (false = true) by decide)] at H; exact H
                  clear H
                  have H := H1
                  clear H1
                  replace H := Option.bind_eq_some_iff.mp H
                  obtain ⟨⟨t260, t263⟩, A320, H⟩ := H
                  replace H : (if t263 = 0 then ((jotterlaw04_same.f kj25 t260 x0_3).bind fun t264 => (jotterlaw04_DocUndo.j3 kj25 x0_3 t247 (!t264))) else (jotterlaw04_DocUndo.j3 kj25 x0_3 t247 true)) = some r := H
                  have A32 := Aside0.mk A320
                  clear A320
                  have HC33 := Aside0.mk H
                  clear H
                  go_upto_region 12 with (first | ((with_reducible refine gate_callee (f := 25) rfl ?_); refine goesL_ (some 98) rfl rfl Try.func25 (by kernel_rfl) rfl #[.slice Ao11 x0_3.length co11, .agg #[.int .i64 0, .int .i64 0, .int .u8 0, .int .i64 64, .int .i64 1]] rfl (by (try simp only [List.map_toArray, List.map_cons, List.map_nil]); first | done | rfl | (simp only [List.length_drop, List.length_take]; rfl)) ?_; (with_reducible refine (doc_Apply.calls kj25 _ _ x0_3 0 0 0 64 1 t260 t263 _ ?side1 ?side2 A32.out).mono ?_); (case side1 => repeat (first | exact (Kd.V_reads' HO_0.out).2.2 | (with_reducible refine Kd.C_alloc ?_ _) | (with_reducible refine Kd.C_drewN ?_ _) | (with_reducible refine Kd.C_drew ?_))); (case side2 => exact (Kd.V_reads' HO_0.out).2.1); rintro e w34 ⟨v261, rfl, ho0, hb⟩; refine ⟨_, rfl, ?_⟩; have n0_ := Aside0.mk (Kd.V_elder' (by (with_reducible repeat (first | apply Kd.V_alloc | apply Kd.V_drewN | apply Kd.V_drew)); exact HO_0.out) (Kd.R_base ho0) hb); have n1_ := Aside0.mk (Kd.R_lower (Kd.R_newM (M := fun k_ => (w.heap.size ≤ k_)) ho0 (below_size (by repeat (first | (with_reducible first | exact HB.out | apply below_alloc | apply pw_below_drewN | apply below_drew1) | exact HB.out))) (fun k_ h_ => h_)) (below_size (by repeat (first | (with_reducible first | exact HB.out | apply below_alloc | apply pw_below_drewN | apply below_drew1) | exact HB.out)))); have n2_ := Aside0.mk (below_step (by repeat (first | (with_reducible first | exact HB.out | apply below_alloc | apply pw_below_drewN | apply below_drew1) | exact HB.out)) hb); clear HO_0; clear HB; have HO_0 := n0_; have HO262 := n1_; have HB := n2_; clear n0_ n1_ n2_; (try clear hb); (try clear hb2); (try clear hk); (try clear hi); (try clear ho0)))
                  (try simp only [Act.put, List.setIfInBounds_toArray, List.set_cons_zero, List.set_cons_succ])
                  go_cut [108] (fun v108 wc => ∃ (kq : Nat) (x108_32 : Bool), v108 = .bool x108_32 ∧ Aside0 (jotterlaw04_DocUndo.j3 kq x0_3 t247 x108_32 = some r) ∧ Aside0 (kq ≤ kj25) ∧ Aside0 (Kd.V k24 24 wc w.heap.size (fun k_ => (P0_ k_ ∨ w.heap.size ≤ k_)) (.slice Ao11 x0_3.length co11) x0_3) ∧ Aside0 (Below w.heap.size w wc))
                  case first =>
                    have H := HC33.out
                    clear HC33
                    by_cases c35 : t263 = 0
                    · rw [if_pos c35] at H
                      have c35b0 : (t263 == 0) = true := beq_iff_eq.mpr c35
                      have c35b1 : (t263 != 0) = false := bne_eq_false_iff_eq.mpr c35
                      clear c35
                      (first | rw [c35b0] | (simp only [i64_w, i32_w]; rw [c35b0]) | skip)
                      replace H := Option.bind_eq_some_iff.mp H
                      obtain ⟨t264, A360, H⟩ := H
                      replace H : (jotterlaw04_DocUndo.j3 kj25 x0_3 t247 (!t264)) = some r := H
                      have A36 := Aside0.mk A360
                      clear A360
                      as_aux_lemma =>
                        have H' := Aside0.mk H
                        clear H
                        obtain ⟨Ao37, co37, eo37⟩ := Kd.R_slice HO262.out
                        subst eo37
                        go_wp2_with (first | (go_at_call 26; (with_reducible refine (jotterlaw04_same.calls kj25 _ _ t260 _ _ x0_3 t264 _ ?side1 ?side2 ?side3 ?side4 A36.out).mono ?_); (case side1 => repeat (first | exact (Kd.R_reads' HO262.out).2.2 | (with_reducible refine Kd.C_alloc ?_ _) | (with_reducible refine Kd.C_drewN ?_ _) | (with_reducible refine Kd.C_drew ?_))); (case side2 => exact (Kd.R_reads' HO262.out).2.1); (case side3 => repeat (first | exact (Kd.V_reads' HO_0.out).2.2 | (with_reducible refine Kd.C_alloc ?_ _) | (with_reducible refine Kd.C_drewN ?_ _) | (with_reducible refine Kd.C_drew ?_))); (case side4 => exact (Kd.V_reads' HO_0.out).2.1); rintro e w' ⟨rfl, ⟨nd, rfl⟩⟩))
                        go_meet
                        case rel => exact ⟨_, (!t264), (by first | rfl | (simp; done) | (simp [*]; done)), H', ⟨by have := HJ3.out; have := HJ9.out; have := HJ25.out; first | omega | exact Nat.le_refl _⟩, ⟨by (with_reducible repeat (first | apply Kd.V_alloc | apply Kd.V_drewN | apply Kd.V_drew)); exact Kd.V_mono HO_0.out (fun _ hk => hk.1)⟩, ⟨by repeat (first | (with_reducible first | exact HB.out | apply below_alloc | apply pw_below_drewN | apply below_drew1) | exact HB.out)⟩⟩
                    · rw [if_neg c35] at H
                      have c35b0 : (t263 == 0) = false := beq_eq_false_iff_ne.mpr c35
                      have c35b1 : (t263 != 0) = true := bne_iff_ne.mpr c35
                      (first | rw [c35b0] | (simp only [i64_w, i32_w]; rw [c35b0]) | skip)
                      as_aux_lemma =>
                        have H' := Aside0.mk H
                        clear H
                        go_wp2
                        go_meet
                        case rel => exact ⟨_, (true), (by first | rfl | (simp; done) | (simp [*]; done)), H', ⟨by have := HJ3.out; have := HJ9.out; have := HJ25.out; first | omega | exact Nat.le_refl _⟩, ⟨by (with_reducible repeat (first | apply Kd.V_alloc | apply Kd.V_drewN | apply Kd.V_drew)); exact Kd.V_mono HO_0.out (fun _ hk => hk.1)⟩, ⟨by repeat (first | (with_reducible first | exact HB.out | apply below_alloc | apply pw_below_drewN | apply below_drew1) | exact HB.out)⟩⟩
                  case rest =>
                    clear HC33
                    try clear c1
                    try clear c2
                    try clear p2
                    try clear q2
                    try clear hx2
                    try clear c3
                    try clear c5
                    try clear c5b0
                    try clear c5b1
                    try clear c6
                    try clear c6b0
                    try clear c6b1
                    try clear p6
                    try clear q7
                    try clear c13
                    try clear c13b0
                    try clear c13b1
                    try clear c14
                    try clear c14b0
                    try clear c14b1
                    try clear c15
                    try clear c15b0
                    try clear c16
                    try clear c16b0
                    try clear c17
                    try clear c17b0
                    try clear c17b1
                    try clear c18
                    try clear c18b0
                    try clear c18b1
                    try clear c23
                    try clear c25
                    try clear p25
                    try clear q25
                    try clear hx25
                    try clear c26
                    try clear c27
                    try clear c30
                    try clear c30b0
                    try clear c30b1
                    try clear c31
                    try clear c35
                    try clear c35b0
                    try clear c35b1
                    try clear hx252_0
                    try clear hx252_1
                    try clear hx252_2
                    try clear hx253_0
                    try clear hx253_1
                    try clear hx253_2
                    try clear hx254_0
                    try clear hx254_1
                    try clear hx254_2
                    try clear p2
                    try clear p25
                    try clear p252
                    try clear p253
                    try clear p254
                    try clear p6
                    try clear q2
                    try clear q25
                    try clear q252
                    try clear q253
                    try clear q254
                    try clear q7
                    obtain ⟨kq, x108_32, rfl, HA, HJ32, HO_0, HB⟩ := hcut
                    cases kq with
                    | zero => exact absurd HA.out (by simp [jotterlaw04_DocUndo.j3])
                    | succ kj32 =>
                      have H := HA.out
                      clear HA
                      simp only [jotterlaw04_DocUndo.j3] at H
                      by_cases c38 : x108_32 = true
                      · subst c38
                        have H1 : (some false) = some r := by rw [if_pos rfl] at H; exact H
                        clear H
                        have H := H1
                        clear H1
                        as_aux_lemma =>
                          obtain rfl := Option.some.inj H
                          go_wp2
                          go_ret
                          exact ⟨by first | rfl | (simp [errW_none, errW_some] <;> rfl) | (simp [*, errW_none, errW_some] <;> rfl), by repeat (first | (with_reducible first | exact HB.out | apply below_alloc | apply pw_below_drewN | apply below_drew1) | exact HB.out)⟩
                      · replace c38 := Bool.eq_false_iff.mpr c38
                        subst c38
                        have H1 : (if t247 = (x0_3.length : Int) then (some true) else (if 0 ≤ t247 then (if t247 < (x0_3.length : Int) then ((doc_Apply.f kj32 x0_3 2 t247 0 9 2).bind fun bt267 => (if bt267.2 = 0 then (jotterlaw04_DocUndo.j4 kj32 x0_3 t247 bt267.1 ((bt267.1.length : Int) != (wrap64 ((x0_3.length : Int) - 1))) ((rd_T24 x0_3 t247).f0) ((rd_T24 x0_3 t247).f1) ((rd_T24 x0_3 t247).f2)) else (jotterlaw04_DocUndo.j4 kj32 x0_3 t247 bt267.1 true ((rd_T24 x0_3 t247).f0) ((rd_T24 x0_3 t247).f1) ((rd_T24 x0_3 t247).f2)))) else (none)) else (none))) = some r := by rw [if_neg (show ¬ (false = true) by decide)] at H; exact H
                        clear H
                        have H := H1
                        clear H1
                        by_cases c39 : t247 = (x0_3.length : Int)
                        · rw [if_pos c39] at H
                          have c39b0 : (t247 == (x0_3.length : Int)) = true := beq_iff_eq.mpr c39
                          have c39b1 : (t247 != (x0_3.length : Int)) = false := bne_eq_false_iff_eq.mpr c39
                          clear c39
                          as_aux_lemma =>
                            obtain rfl := Option.some.inj H
                            go_wp2
                            go_ret
                            exact ⟨by first | rfl | (simp [errW_none, errW_some] <;> rfl) | (simp [*, errW_none, errW_some] <;> rfl), by repeat (first | (with_reducible first | exact HB.out | apply below_alloc | apply pw_below_drewN | apply below_drew1) | exact HB.out)⟩
                        · rw [if_neg c39] at H
                          have c39b0 : (t247 == (x0_3.length : Int)) = false := beq_eq_false_iff_ne.mpr c39
                          have c39b1 : (t247 != (x0_3.length : Int)) = true := bne_iff_ne.mpr c39
                          by_cases c40 : 0 ≤ t247
                          · rw [if_pos c40] at H
                            have c40b0 : decide (0 ≤ t247) = true := decide_eq_true c40
                            clear c40
                            by_cases c41 : t247 < (x0_3.length : Int)
                            · rw [if_pos c41] at H
                              have c41b0 : decide (t247 < (x0_3.length : Int)) = true := decide_eq_true c41
                              clear c41
                              replace H := Option.bind_eq_some_iff.mp H
                              obtain ⟨⟨t267, t270⟩, A420, H⟩ := H
                              replace H : (if t270 = 0 then (jotterlaw04_DocUndo.j4 kj32 x0_3 t247 t267 ((t267.length : Int) != (wrap64 ((x0_3.length : Int) - 1))) ((rd_T24 x0_3 t247).f0) ((rd_T24 x0_3 t247).f1) ((rd_T24 x0_3 t247).f2)) else (jotterlaw04_DocUndo.j4 kj32 x0_3 t247 t267 true ((rd_T24 x0_3 t247).f0) ((rd_T24 x0_3 t247).f1) ((rd_T24 x0_3 t247).f2))) = some r := H
                              have A42 := Aside0.mk A420
                              clear A420
                              have HC43 := Aside0.mk H
                              clear H
                              have p265 : 0 ≤ (t247 : Int) := of_decide_eq_true (by first | (with_reducible assumption) | assumption)
                              have q265 : t247 < (x0_3.length : Int) := of_decide_eq_true (by first | (with_reducible assumption) | assumption)
                              obtain ⟨ad265, e265, hx265_0, hx265_1, hx265_2⟩ := at_T24 (Kd.V_reads' HO_0.out).2.2 t247 p265 q265
                              cases e265
                              replace p265 := eq_true p265
                              replace q265 := eq_true q265
                              go_upto_region 18 with (first | ((with_reducible refine gate_dst (N := 15) rfl ?_); (try (refine gate_guard (by rfl) ?_; dsimp only)); refine box_event ?hg (N := 15) ?hd (cs := #[.int .u8 0, .int .i64 0, .int .i64 0]) (t := 24) ?hr ?_; (case hd => rfl); (case hg => rfl); (case hr => first | (go_simp; done) | (go_simp; rfl)); intro gb266 hg w44 hbox hb; have n0_ := Aside0.mk (Kd.V_below (Kd.V_elderB (by (with_reducible repeat (first | apply Kd.V_alloc | apply Kd.V_drewN | apply Kd.V_drew)); exact HO_0.out) gb266 (Nat.le_of_eq hg.symm)) hb); have n1_ := Aside0.mk (below_step (by repeat (first | (with_reducible first | exact HB.out | apply below_alloc | apply pw_below_drewN | apply below_drew1) | exact HB.out)) hb); have n2_ := Aside0.mk (hbox); have n3_ := Aside0.mk ((by rw [hg]; exact (below_size (by repeat (first | (with_reducible first | exact HB.out | apply below_alloc | apply pw_below_drewN | apply below_drew1) | exact HB.out))) : w.heap.size ≤ gb266)); have n4_ := Aside0.mk ((by rw [hg]; exact (below_size (by repeat (first | (with_reducible first | exact HB.out | apply below_alloc | apply pw_below_drewN | apply below_drew1) | exact HB.out))) : w.heap.size ≤ gb266)); clear HO_0; clear HB; have HO_0 := n0_; have HB := n1_; have BK266 := n2_; have GW266 := n3_; have GE266 := n4_; clear n0_ n1_ n2_ n3_ n4_; clear hb hbox hg; have hcz45_0 : w44.cell? ⟨gb266, 0, none⟩ = some (.int .u8 0) := (blk_cell BK266.out 0).trans rfl; have hcz45_1 : w44.cell? ⟨gb266, 1, none⟩ = some (.int .i64 0) := (blk_cell BK266.out 1).trans rfl; have hcz45_2 : w44.cell? ⟨gb266, 2, none⟩ = some (.int .i64 0) := (blk_cell BK266.out 2).trans rfl; have hfz45_0 := blk_frozen BK266.out 0; have hfz45_1 := blk_frozen BK266.out 1; have hfz45_2 := blk_frozen BK266.out 2) | ((with_reducible refine gate_callee (f := 25) rfl ?_); refine goesL_ (some 121) rfl rfl Try.func25 (by kernel_rfl) rfl #[.slice (some ad265) x0_3.length co11, .agg #[.int .i64 2, .int .i64 t247, .int .u8 0, .int .i64 9, .int .i64 2]] rfl (by (try simp only [List.map_toArray, List.map_cons, List.map_nil]); first | done | rfl | (simp only [List.length_drop, List.length_take]; rfl)) ?_; (with_reducible refine (doc_Apply.calls kj32 _ _ x0_3 2 t247 0 9 2 t267 t270 _ ?side1 ?side2 A42.out).mono ?_); (case side1 => refine (Kd.V_reads' (e := 24) (base := w.heap.size) (ok := fun k_ => ((P0_ k_ ∨ w.heap.size ≤ k_) ∧ k_ ≠ gb266)) (n := x0_3.length) (c := co11) ?_).2.2; exact (by (with_reducible repeat (first | apply Kd.V_alloc | apply Kd.V_drewN | apply Kd.V_drew)); exact (Kd.V_mono (Kd.V_far (p := ⟨gb266, 2, none⟩) (Kd.V_far (p := ⟨gb266, 1, none⟩) (Kd.V_far (p := ⟨gb266, 0, none⟩) (Kd.V_mono HO_0.out (fun k_ hk => (⟨hk, hk.2⟩ : _ ∧ k_ ≠ gb266))) (fun _ hk => hk.2) (.int .u8 ((rd_T24 x0_3 t247).f0))) (fun _ hk => hk.2) (.int .i64 ((rd_T24 x0_3 t247).f1))) (fun _ hk => hk.2) (.int .i64 ((rd_T24 x0_3 t247).f2))) (fun _ h_ => h_.1)))); (case side2 => exact (Kd.V_reads' HO_0.out).2.1); rintro e w46 ⟨v268, rfl, ho0, hb⟩; refine ⟨_, rfl, ?_⟩; have n0_ := Aside0.mk (Kd.V_elder' (by (with_reducible repeat (first | apply Kd.V_alloc | apply Kd.V_drewN | apply Kd.V_drew)); exact (Kd.V_mono (Kd.V_far (p := ⟨gb266, 2, none⟩) (Kd.V_far (p := ⟨gb266, 1, none⟩) (Kd.V_far (p := ⟨gb266, 0, none⟩) (Kd.V_mono HO_0.out (fun k_ hk => (⟨hk, hk.2⟩ : _ ∧ k_ ≠ gb266))) (fun _ hk => hk.2) (.int .u8 ((rd_T24 x0_3 t247).f0))) (fun _ hk => hk.2) (.int .i64 ((rd_T24 x0_3 t247).f1))) (fun _ hk => hk.2) (.int .i64 ((rd_T24 x0_3 t247).f2))) (fun _ h_ => h_.1))) (Kd.R_base ho0) hb); have n1_ := Aside0.mk (Kd.R_lower (Kd.R_newB (Kd.R_newM (M := fun k_ => (w.heap.size ≤ k_)) ho0 (below_size (by repeat (first | (with_reducible first | exact HB.out | apply below_alloc | apply pw_below_drewN | apply below_drew1 | refine below_set ?_ GE266.out) | exact HB.out))) (fun k_ h_ => h_)) (g := gb266) (o := .cells #[.int .u8 ((rd_T24 x0_3 t247).f0), .int .i64 ((rd_T24 x0_3 t247).f1), .int .i64 ((rd_T24 x0_3 t247).f2)] 24 (0, 0)) (by (with_reducible repeat (first | refine blk_drewN ?_ _ | refine blk_drew ?_ | refine blk_alloc ?_ _)); refine blk_put (cs := #[.int .u8 ((rd_T24 x0_3 t247).f0), .int .i64 ((rd_T24 x0_3 t247).f1), .int .i64 0]) ?_ 2 _ rfl; (with_reducible repeat (first | refine blk_drewN ?_ _ | refine blk_drew ?_ | refine blk_alloc ?_ _)); refine blk_put (cs := #[.int .u8 ((rd_T24 x0_3 t247).f0), .int .i64 0, .int .i64 0]) ?_ 1 _ rfl; (with_reducible repeat (first | refine blk_drewN ?_ _ | refine blk_drew ?_ | refine blk_alloc ?_ _)); refine blk_put (cs := #[.int .u8 0, .int .i64 0, .int .i64 0]) ?_ 0 _ rfl; (with_reducible repeat (first | refine blk_drewN ?_ _ | refine blk_drew ?_ | refine blk_alloc ?_ _)); exact BK266.out)) (below_size (by repeat (first | (with_reducible first | exact HB.out | apply below_alloc | apply pw_below_drewN | apply below_drew1 | refine below_set ?_ GE266.out) | exact HB.out)))); have n2_ := Aside0.mk (blk_below (g := gb266) (o := .cells #[.int .u8 ((rd_T24 x0_3 t247).f0), .int .i64 ((rd_T24 x0_3 t247).f1), .int .i64 ((rd_T24 x0_3 t247).f2)] 24 (0, 0)) (by (with_reducible repeat (first | refine blk_drewN ?_ _ | refine blk_drew ?_ | refine blk_alloc ?_ _)); refine blk_put (cs := #[.int .u8 ((rd_T24 x0_3 t247).f0), .int .i64 ((rd_T24 x0_3 t247).f1), .int .i64 0]) ?_ 2 _ rfl; (with_reducible repeat (first | refine blk_drewN ?_ _ | refine blk_drew ?_ | refine blk_alloc ?_ _)); refine blk_put (cs := #[.int .u8 ((rd_T24 x0_3 t247).f0), .int .i64 0, .int .i64 0]) ?_ 1 _ rfl; (with_reducible repeat (first | refine blk_drewN ?_ _ | refine blk_drew ?_ | refine blk_alloc ?_ _)); refine blk_put (cs := #[.int .u8 0, .int .i64 0, .int .i64 0]) ?_ 0 _ rfl; (with_reducible repeat (first | refine blk_drewN ?_ _ | refine blk_drew ?_ | refine blk_alloc ?_ _)); exact BK266.out) hb); have n3_ := Aside0.mk (below_step (by repeat (first | (with_reducible first | exact HB.out | apply below_alloc | apply pw_below_drewN | apply below_drew1 | refine below_set ?_ GE266.out) | exact HB.out)) hb); clear HO_0; clear BK266; clear HB; have HO_0 := n0_; have HO269 := n1_; have BK266 := n2_; have HB := n3_; clear n0_ n1_ n2_ n3_; (try clear hb); (try clear hb2); (try clear hk); (try clear hi); (try clear ho0)))
                              (try simp only [Act.put, List.setIfInBounds_toArray, List.set_cons_zero, List.set_cons_succ])
                              go_cut [133] (fun v133 wc => ∃ (kq : Nat) (x133_42 : Bool), v133 = .bool x133_42 ∧ Aside0 (jotterlaw04_DocUndo.j4 kq x0_3 t247 t267 x133_42 ((rd_T24 x0_3 t247).f0) ((rd_T24 x0_3 t247).f1) ((rd_T24 x0_3 t247).f2) = some r) ∧ Aside0 (kq ≤ kj32) ∧ Aside0 (Kd.V k24 24 wc w.heap.size (fun k_ => (P0_ k_ ∨ w.heap.size ≤ k_) ∧ some k_ ≠ (v268 : Value).ownBlock ∧ k_ ≠ gb266) (.slice (some ad265) x0_3.length co11) x0_3) ∧ Aside0 (Kd.R k24 24 wc w.heap.size (fun k_ => (w.heap.size ≤ k_) ∧ k_ ≠ gb266) v268 t267) ∧ Aside0 (wc.heap[gb266]? = some (.cells #[.int .u8 ((rd_T24 x0_3 t247).f0), .int .i64 ((rd_T24 x0_3 t247).f1), .int .i64 ((rd_T24 x0_3 t247).f2)] 24 (0, 0))) ∧ Aside0 (Below w.heap.size w wc))
                              case first =>
                                have H := HC43.out
                                clear HC43
                                by_cases c47 : t270 = 0
                                · rw [if_pos c47] at H
                                  have c47b0 : (t270 == 0) = true := beq_iff_eq.mpr c47
                                  have c47b1 : (t270 != 0) = false := bne_eq_false_iff_eq.mpr c47
                                  clear c47
                                  (first | rw [c47b0] | (simp only [i64_w, i32_w]; rw [c47b0]) | skip)
                                  as_aux_lemma =>
                                    have H' := Aside0.mk H
                                    clear H
                                    obtain ⟨Ao48, co48, eo48⟩ := Kd.R_slice HO269.out
                                    subst eo48
                                    go_wp2
                                    go_meet
                                    case rel => exact ⟨_, (((t267.length : Int) != (wrap64 ((x0_3.length : Int) - 1)))), (by first | rfl | (simp; done) | (simp [*]; done)), H', ⟨by have := HJ3.out; have := HJ9.out; have := HJ25.out; have := HJ32.out; first | omega | exact Nat.le_refl _⟩, ⟨by (with_reducible repeat (first | apply Kd.V_alloc | apply Kd.V_drewN | apply Kd.V_drew)); exact Kd.V_mono HO_0.out (fun _ hk => ⟨hk.1.1, ⟨hk.2, hk.1.2⟩⟩)⟩, ⟨by (with_reducible repeat (first | apply Kd.R_alloc | apply Kd.R_drewN | apply Kd.R_drew)); exact Kd.R_mono HO269.out (fun _ hk => ⟨hk.1.1, hk.2⟩)⟩, ⟨by (with_reducible repeat (first | refine blk_drewN ?_ _ | refine blk_drew ?_ | refine blk_alloc ?_ _)); exact BK266.out⟩, ⟨by repeat (first | (with_reducible first | exact HB.out | apply below_alloc | apply pw_below_drewN | apply below_drew1 | refine below_set ?_ GE266.out) | exact HB.out)⟩⟩
                                · rw [if_neg c47] at H
                                  have c47b0 : (t270 == 0) = false := beq_eq_false_iff_ne.mpr c47
                                  have c47b1 : (t270 != 0) = true := bne_iff_ne.mpr c47
                                  (first | rw [c47b0] | (simp only [i64_w, i32_w]; rw [c47b0]) | skip)
                                  as_aux_lemma =>
                                    have H' := Aside0.mk H
                                    clear H
                                    go_wp2
                                    go_meet
                                    case rel => exact ⟨_, (true), (by first | rfl | (simp; done) | (simp [*]; done)), H', ⟨by have := HJ3.out; have := HJ9.out; have := HJ25.out; have := HJ32.out; first | omega | exact Nat.le_refl _⟩, ⟨by (with_reducible repeat (first | apply Kd.V_alloc | apply Kd.V_drewN | apply Kd.V_drew)); exact Kd.V_mono HO_0.out (fun _ hk => ⟨hk.1.1, ⟨hk.2, hk.1.2⟩⟩)⟩, ⟨by (with_reducible repeat (first | apply Kd.R_alloc | apply Kd.R_drewN | apply Kd.R_drew)); exact Kd.R_mono HO269.out (fun _ hk => ⟨hk.1.1, hk.2⟩)⟩, ⟨by (with_reducible repeat (first | refine blk_drewN ?_ _ | refine blk_drew ?_ | refine blk_alloc ?_ _)); exact BK266.out⟩, ⟨by repeat (first | (with_reducible first | exact HB.out | apply below_alloc | apply pw_below_drewN | apply below_drew1 | refine below_set ?_ GE266.out) | exact HB.out)⟩⟩
                              case rest =>
                                clear HC43
                                try clear c1
                                try clear c2
                                try clear p2
                                try clear q2
                                try clear hx2
                                try clear c3
                                try clear c4
                                try clear c5
                                try clear c5b0
                                try clear c5b1
                                try clear c6
                                try clear c6b0
                                try clear c6b1
                                try clear p6
                                try clear q7
                                try clear c13
                                try clear c13b0
                                try clear c13b1
                                try clear c14
                                try clear c14b0
                                try clear c14b1
                                try clear c15
                                try clear c15b0
                                try clear c16
                                try clear c16b0
                                try clear c17
                                try clear c17b0
                                try clear c17b1
                                try clear c18
                                try clear c18b0
                                try clear c18b1
                                try clear c23
                                try clear c25
                                try clear p25
                                try clear q25
                                try clear hx25
                                try clear c26
                                try clear p26
                                try clear q26
                                try clear hx26
                                try clear c27
                                try clear c30
                                try clear c30b0
                                try clear c30b1
                                try clear c31
                                try clear c35
                                try clear c35b0
                                try clear c35b1
                                try clear c38
                                try clear c39
                                try clear c39b0
                                try clear c39b1
                                try clear c40
                                try clear c40b0
                                try clear c41
                                try clear c41b0
                                try clear c47
                                try clear c47b0
                                try clear c47b1
                                try clear hcz45_0
                                try clear hcz45_1
                                try clear hcz45_2
                                try clear hfz45_0
                                try clear hfz45_1
                                try clear hfz45_2
                                try clear hx252_0
                                try clear hx252_1
                                try clear hx252_2
                                try clear hx253_0
                                try clear hx253_1
                                try clear hx253_2
                                try clear hx254_0
                                try clear hx254_1
                                try clear hx254_2
                                try clear hx265_0
                                try clear hx265_1
                                try clear hx265_2
                                try clear p2
                                try clear p25
                                try clear p252
                                try clear p253
                                try clear p254
                                try clear p265
                                try clear p6
                                try clear q2
                                try clear q25
                                try clear q252
                                try clear q253
                                try clear q254
                                try clear q265
                                try clear q7
                                obtain ⟨kq, x133_42, rfl, HA, HJ42, HO_0, HO_16, BK266, HB⟩ := hcut
                                cases kq with
                                | zero => exact absurd HA.out (by simp [jotterlaw04_DocUndo.j4])
                                | succ kj42 =>
                                  have H := HA.out
                                  clear HA
                                  simp only [jotterlaw04_DocUndo.j4] at H
                                  by_cases c49 : x133_42 = true
                                  · subst c49
                                    have H1 : (some false) = some r := by rw [if_pos rfl] at H; exact H
                                    clear H
                                    have H := H1
                                    clear H1
                                    as_aux_lemma =>
                                      obtain rfl := Option.some.inj H
                                      go_wp2
                                      go_ret
                                      exact ⟨by first | rfl | (simp [errW_none, errW_some] <;> rfl) | (simp [*, errW_none, errW_some] <;> rfl), by repeat (first | (with_reducible first | exact HB.out | apply below_alloc | apply pw_below_drewN | apply below_drew1 | refine below_set ?_ GE266.out) | exact HB.out)⟩
                                  · replace c49 := Bool.eq_false_iff.mpr c49
                                    subst c49
                                    have H1 : (if ((rd_T24 x0_3 t247).f0) ≥ 32 then (if ((rd_T24 x0_3 t247).f0) ≤ 126 then (if ((rd_T24 x0_3 t247).f1) ≥ 1 then (if ((rd_T24 x0_3 t247).f1) ≤ 64 then (if ((rd_T24 x0_3 t247).f2) ≥ 1 then (jotterlaw04_DocUndo.j5 kj42 x0_3 t267 (decide (((rd_T24 x0_3 t247).f2) ≤ 64)) 1 t247 ((rd_T24 x0_3 t247).f0) ((rd_T24 x0_3 t247).f1) ((rd_T24 x0_3 t247).f2)) else (jotterlaw04_DocUndo.j5 kj42 x0_3 t267 false 1 t247 ((rd_T24 x0_3 t247).f0) ((rd_T24 x0_3 t247).f1) ((rd_T24 x0_3 t247).f2))) else (jotterlaw04_DocUndo.j5 kj42 x0_3 t267 false 1 t247 ((rd_T24 x0_3 t247).f0) ((rd_T24 x0_3 t247).f1) ((rd_T24 x0_3 t247).f2))) else (jotterlaw04_DocUndo.j5 kj42 x0_3 t267 false 1 t247 ((rd_T24 x0_3 t247).f0) ((rd_T24 x0_3 t247).f1) ((rd_T24 x0_3 t247).f2))) else (jotterlaw04_DocUndo.j5 kj42 x0_3 t267 false 1 t247 ((rd_T24 x0_3 t247).f0) ((rd_T24 x0_3 t247).f1) ((rd_T24 x0_3 t247).f2))) else (jotterlaw04_DocUndo.j5 kj42 x0_3 t267 false 1 t247 ((rd_T24 x0_3 t247).f0) ((rd_T24 x0_3 t247).f1) ((rd_T24 x0_3 t247).f2))) = some r := by rw [if_neg (show ¬ (false = true) by decide)] at H; exact H
                                    clear H
                                    have H := H1
                                    clear H1
                                    have HC50 := Aside0.mk H
                                    clear H
                                    have hcz51_0 : wc.cell? ⟨gb266, 0, none⟩ = some (.int .u8 ((rd_T24 x0_3 t247).f0)) := (blk_cell BK266.out 0).trans rfl
                                    have hcz51_1 : wc.cell? ⟨gb266, 1, none⟩ = some (.int .i64 ((rd_T24 x0_3 t247).f1)) := (blk_cell BK266.out 1).trans rfl
                                    have hcz51_2 : wc.cell? ⟨gb266, 2, none⟩ = some (.int .i64 ((rd_T24 x0_3 t247).f2)) := (blk_cell BK266.out 2).trans rfl
                                    have hfz51_0 := blk_frozen BK266.out 0
                                    have hfz51_1 := blk_frozen BK266.out 1
                                    have hfz51_2 := blk_frozen BK266.out 2
                                    go_upto_region 21 with (first | ((with_reducible refine gate_dst (N := 18) rfl ?_); (try (refine gate_guard (by rfl) ?_; dsimp only)); refine box_event ?hg (N := 18) ?hd (cs := #[.int .i64 0, .int .i64 0, .int .u8 0, .int .i64 0, .int .i64 0]) (t := 30) ?hr ?_; (case hd => rfl); (case hg => rfl); (case hr => first | (go_simp; done) | (go_simp; rfl)); intro gb271 hg w52 hbox hb; have n0_ := Aside0.mk (Kd.V_below (Kd.V_elderB (by (with_reducible repeat (first | apply Kd.V_alloc | apply Kd.V_drewN | apply Kd.V_drew)); exact HO_0.out) gb271 (Nat.le_of_eq hg.symm)) hb); have n1_ := Aside0.mk (Kd.R_below (by (with_reducible repeat (first | apply Kd.R_alloc | apply Kd.R_drewN | apply Kd.R_drew)); exact HO_16.out) hb); have n2_ := Aside0.mk (blk_below (g := gb266) (o := .cells #[.int .u8 ((rd_T24 x0_3 t247).f0), .int .i64 ((rd_T24 x0_3 t247).f1), .int .i64 ((rd_T24 x0_3 t247).f2)] 24 (0, 0)) (by (with_reducible repeat (first | refine blk_drewN ?_ _ | refine blk_drew ?_ | refine blk_alloc ?_ _)); exact BK266.out) hb); have n3_ := Aside0.mk (below_step (by repeat (first | (with_reducible first | exact HB.out | apply below_alloc | apply pw_below_drewN | apply below_drew1 | refine below_set ?_ GE266.out) | exact HB.out)) hb); have n4_ := Aside0.mk (hbox); have n5_ := Aside0.mk ((by rw [hg]; exact (below_size (by repeat (first | (with_reducible first | exact HB.out | apply below_alloc | apply pw_below_drewN | apply below_drew1 | refine below_set ?_ GE266.out) | exact HB.out))) : w.heap.size ≤ gb271)); have n6_ := Aside0.mk ((by rw [hg]; exact (below_size (by repeat (first | (with_reducible first | exact HB.out | apply below_alloc | apply pw_below_drewN | apply below_drew1 | refine below_set ?_ GE266.out) | exact HB.out))) : w.heap.size ≤ gb271)); have n7_ := Aside0.mk ((by rw [hg]; exact Nat.ne_of_lt (blk_lt (g := gb266) (o := .cells #[.int .u8 ((rd_T24 x0_3 t247).f0), .int .i64 ((rd_T24 x0_3 t247).f1), .int .i64 ((rd_T24 x0_3 t247).f2)] 24 (0, 0)) (by (with_reducible repeat (first | refine blk_drewN ?_ _ | refine blk_drew ?_ | refine blk_alloc ?_ _)); exact BK266.out)) : gb266 ≠ gb271)); have n8_ := Aside0.mk ((by rw [hg]; exact Nat.ne_of_gt (blk_lt (g := gb266) (o := .cells #[.int .u8 ((rd_T24 x0_3 t247).f0), .int .i64 ((rd_T24 x0_3 t247).f1), .int .i64 ((rd_T24 x0_3 t247).f2)] 24 (0, 0)) (by (with_reducible repeat (first | refine blk_drewN ?_ _ | refine blk_drew ?_ | refine blk_alloc ?_ _)); exact BK266.out)) : gb271 ≠ gb266)); clear HO_0; clear HO_16; clear BK266; clear HB; have HO_0 := n0_; have HO_16 := n1_; have BK266 := n2_; have HB := n3_; have BK271 := n4_; have GW271 := n5_; have GE271 := n6_; have NB266_271 := n7_; have NB271_266 := n8_; clear n0_ n1_ n2_ n3_ n4_ n5_ n6_ n7_ n8_; clear hb hbox hg; have hnb53 := NB271_266.out; have hnc53 := NB266_271.out; have hcz54_0 : w52.cell? ⟨gb271, 0, none⟩ = some (.int .i64 0) := (blk_cell BK271.out 0).trans rfl; have hcz54_1 : w52.cell? ⟨gb271, 1, none⟩ = some (.int .i64 0) := (blk_cell BK271.out 1).trans rfl; have hcz54_2 : w52.cell? ⟨gb271, 2, none⟩ = some (.int .u8 0) := (blk_cell BK271.out 2).trans rfl; have hcz54_3 : w52.cell? ⟨gb271, 3, none⟩ = some (.int .i64 0) := (blk_cell BK271.out 3).trans rfl; have hcz54_4 : w52.cell? ⟨gb271, 4, none⟩ = some (.int .i64 0) := (blk_cell BK271.out 4).trans rfl; have hfz54_0 := blk_frozen BK271.out 0; have hfz54_1 := blk_frozen BK271.out 1; have hfz54_2 := blk_frozen BK271.out 2; have hfz54_3 := blk_frozen BK271.out 3; have hfz54_4 := blk_frozen BK271.out 4))
                                    (try simp only [Act.put, List.setIfInBounds_toArray, List.set_cons_zero, List.set_cons_succ])
                                    go_cut [19] (fun v19 wc => ∃ (kq : Nat) (x19_49 : Bool), v19 = .bool x19_49 ∧ Aside0 (jotterlaw04_DocUndo.j5 kq x0_3 t267 x19_49 1 t247 ((rd_T24 x0_3 t247).f0) ((rd_T24 x0_3 t247).f1) ((rd_T24 x0_3 t247).f2) = some r) ∧ Aside0 (kq ≤ kj42) ∧ Aside0 (Kd.V k24 24 wc w.heap.size (fun k_ => (P0_ k_ ∨ w.heap.size ≤ k_) ∧ some k_ ≠ (v268 : Value).ownBlock ∧ k_ ≠ gb266 ∧ k_ ≠ gb271) (.slice (some ad265) x0_3.length co11) x0_3) ∧ Aside0 (Kd.R k24 24 wc w.heap.size (fun k_ => (w.heap.size ≤ k_) ∧ k_ ≠ gb266) v268 t267) ∧ Aside0 (wc.heap[gb266]? = some (.cells #[.int .u8 ((rd_T24 x0_3 t247).f0), .int .i64 ((rd_T24 x0_3 t247).f1), .int .i64 ((rd_T24 x0_3 t247).f2)] 24 (0, 0))) ∧ Aside0 (wc.heap[gb271]? = some (.cells #[.int .i64 1, .int .i64 t247, .int .u8 ((rd_T24 x0_3 t247).f0), .int .i64 ((rd_T24 x0_3 t247).f1), .int .i64 ((rd_T24 x0_3 t247).f2)] 30 (0, 0))) ∧ Aside0 (Below w.heap.size w wc))
                                    case first =>
                                      have H := HC50.out
                                      clear HC50
                                      by_cases c55 : ((rd_T24 x0_3 t247).f0) ≥ 32
                                      · rw [if_pos c55] at H
                                        have c55b0 : decide (32 ≤ ((rd_T24 x0_3 t247).f0)) = true := decide_eq_true c55
                                        clear c55
                                        (first | rw [c55b0] | (simp only [i64_w, i32_w]; rw [c55b0]) | skip)
                                        by_cases c56 : ((rd_T24 x0_3 t247).f0) ≤ 126
                                        · rw [if_pos c56] at H
                                          have c56b0 : decide (((rd_T24 x0_3 t247).f0) ≤ 126) = true := decide_eq_true c56
                                          clear c56
                                          by_cases c57 : ((rd_T24 x0_3 t247).f1) ≥ 1
                                          · rw [if_pos c57] at H
                                            have c57b0 : decide (1 ≤ ((rd_T24 x0_3 t247).f1)) = true := decide_eq_true c57
                                            clear c57
                                            by_cases c58 : ((rd_T24 x0_3 t247).f1) ≤ 64
                                            · rw [if_pos c58] at H
                                              have c58b0 : decide (((rd_T24 x0_3 t247).f1) ≤ 64) = true := decide_eq_true c58
                                              clear c58
                                              by_cases c59 : ((rd_T24 x0_3 t247).f2) ≥ 1
                                              · rw [if_pos c59] at H
                                                have c59b0 : decide (1 ≤ ((rd_T24 x0_3 t247).f2)) = true := decide_eq_true c59
                                                clear c59
                                                as_aux_lemma =>
                                                  have H' := Aside0.mk H
                                                  clear H
                                                  have hnb60 := NB266_271.out
                                                  have hnc60 := NB271_266.out
                                                  have hcz61_0 : w52.cell? ⟨gb266, 0, none⟩ = some (.int .u8 ((rd_T24 x0_3 t247).f0)) := (blk_cell BK266.out 0).trans rfl
                                                  have hcz61_1 : w52.cell? ⟨gb266, 1, none⟩ = some (.int .i64 ((rd_T24 x0_3 t247).f1)) := (blk_cell BK266.out 1).trans rfl
                                                  have hcz61_2 : w52.cell? ⟨gb266, 2, none⟩ = some (.int .i64 ((rd_T24 x0_3 t247).f2)) := (blk_cell BK266.out 2).trans rfl
                                                  have hfz61_0 := blk_frozen BK266.out 0
                                                  have hfz61_1 := blk_frozen BK266.out 1
                                                  have hfz61_2 := blk_frozen BK266.out 2
                                                  go_wp2
                                                  go_meet
                                                  case rel => exact ⟨_, (decide (((rd_T24 x0_3 t247).f2) ≤ 64)), (by first | rfl | (simp; done) | (simp [*]; done)), H', ⟨by have := HJ3.out; have := HJ9.out; have := HJ25.out; have := HJ32.out; have := HJ42.out; first | omega | exact Nat.le_refl _⟩, ⟨by (with_reducible repeat (first | apply Kd.V_alloc | apply Kd.V_drewN | apply Kd.V_drew)); exact Kd.V_mono (Kd.V_far (p := ⟨gb271, 4, none⟩) (Kd.V_far (p := ⟨gb271, 3, none⟩) (Kd.V_far (p := ⟨gb271, 2, none⟩) (Kd.V_far (p := ⟨gb271, 1, none⟩) (Kd.V_far (p := ⟨gb271, 0, none⟩) (Kd.V_mono HO_0.out (fun k_ hk => (⟨hk, hk.2⟩ : _ ∧ k_ ≠ gb271))) (fun _ hk => hk.2) (.int .i64 1)) (fun _ hk => hk.2) (.int .i64 t247)) (fun _ hk => hk.2) (.int .u8 ((rd_T24 x0_3 t247).f0))) (fun _ hk => hk.2) (.int .i64 ((rd_T24 x0_3 t247).f1))) (fun _ hk => hk.2) (.int .i64 ((rd_T24 x0_3 t247).f2))) (fun _ hk => ⟨hk.1.1.1, ⟨hk.1.1.2.1, ⟨hk.1.1.2.2, hk.1.2⟩⟩⟩)⟩, ⟨by (with_reducible repeat (first | apply Kd.R_alloc | apply Kd.R_drewN | apply Kd.R_drew)); exact Kd.R_mono (Kd.R_far (p := ⟨gb271, 4, none⟩) (Kd.R_far (p := ⟨gb271, 3, none⟩) (Kd.R_far (p := ⟨gb271, 2, none⟩) (Kd.R_far (p := ⟨gb271, 1, none⟩) (Kd.R_far (p := ⟨gb271, 0, none⟩) (Kd.R_types HO_16.out BK271.out (by decide)) (fun _ hk => hk.2) (.int .i64 1)) (fun _ hk => hk.2) (.int .i64 t247)) (fun _ hk => hk.2) (.int .u8 ((rd_T24 x0_3 t247).f0))) (fun _ hk => hk.2) (.int .i64 ((rd_T24 x0_3 t247).f1))) (fun _ hk => hk.2) (.int .i64 ((rd_T24 x0_3 t247).f2))) (fun _ hk => ⟨hk.1.1, hk.1.2⟩)⟩, ⟨by (with_reducible repeat (first | refine blk_drewN ?_ _ | refine blk_drew ?_ | refine blk_alloc ?_ _)); refine blk_far ?_ NB266_271.out _; (with_reducible repeat (first | refine blk_drewN ?_ _ | refine blk_drew ?_ | refine blk_alloc ?_ _)); refine blk_far ?_ NB266_271.out _; (with_reducible repeat (first | refine blk_drewN ?_ _ | refine blk_drew ?_ | refine blk_alloc ?_ _)); refine blk_far ?_ NB266_271.out _; (with_reducible repeat (first | refine blk_drewN ?_ _ | refine blk_drew ?_ | refine blk_alloc ?_ _)); refine blk_far ?_ NB266_271.out _; (with_reducible repeat (first | refine blk_drewN ?_ _ | refine blk_drew ?_ | refine blk_alloc ?_ _)); refine blk_far ?_ NB266_271.out _; (with_reducible repeat (first | refine blk_drewN ?_ _ | refine blk_drew ?_ | refine blk_alloc ?_ _)); exact BK266.out⟩, ⟨by (with_reducible repeat (first | refine blk_drewN ?_ _ | refine blk_drew ?_ | refine blk_alloc ?_ _)); refine blk_put (cs := #[.int .i64 1, .int .i64 t247, .int .u8 ((rd_T24 x0_3 t247).f0), .int .i64 ((rd_T24 x0_3 t247).f1), .int .i64 0]) ?_ 4 _ rfl; (with_reducible repeat (first | refine blk_drewN ?_ _ | refine blk_drew ?_ | refine blk_alloc ?_ _)); refine blk_put (cs := #[.int .i64 1, .int .i64 t247, .int .u8 ((rd_T24 x0_3 t247).f0), .int .i64 0, .int .i64 0]) ?_ 3 _ rfl; (with_reducible repeat (first | refine blk_drewN ?_ _ | refine blk_drew ?_ | refine blk_alloc ?_ _)); refine blk_put (cs := #[.int .i64 1, .int .i64 t247, .int .u8 0, .int .i64 0, .int .i64 0]) ?_ 2 _ rfl; (with_reducible repeat (first | refine blk_drewN ?_ _ | refine blk_drew ?_ | refine blk_alloc ?_ _)); refine blk_put (cs := #[.int .i64 1, .int .i64 0, .int .u8 0, .int .i64 0, .int .i64 0]) ?_ 1 _ rfl; (with_reducible repeat (first | refine blk_drewN ?_ _ | refine blk_drew ?_ | refine blk_alloc ?_ _)); refine blk_put (cs := #[.int .i64 0, .int .i64 0, .int .u8 0, .int .i64 0, .int .i64 0]) ?_ 0 _ rfl; (with_reducible repeat (first | refine blk_drewN ?_ _ | refine blk_drew ?_ | refine blk_alloc ?_ _)); exact BK271.out⟩, ⟨by repeat (first | (with_reducible first | exact HB.out | apply below_alloc | apply pw_below_drewN | apply below_drew1 | refine below_set ?_ GE266.out | refine below_set ?_ GE271.out) | exact HB.out)⟩⟩
                                              · rw [if_neg c59] at H
                                                have c59b0 : decide (1 ≤ ((rd_T24 x0_3 t247).f2)) = false := decide_eq_false c59
                                                clear c59
                                                as_aux_lemma =>
                                                  have H' := Aside0.mk H
                                                  clear H
                                                  have hnb62 := NB266_271.out
                                                  have hnc62 := NB271_266.out
                                                  have hcz63_0 : w52.cell? ⟨gb266, 0, none⟩ = some (.int .u8 ((rd_T24 x0_3 t247).f0)) := (blk_cell BK266.out 0).trans rfl
                                                  have hcz63_1 : w52.cell? ⟨gb266, 1, none⟩ = some (.int .i64 ((rd_T24 x0_3 t247).f1)) := (blk_cell BK266.out 1).trans rfl
                                                  have hcz63_2 : w52.cell? ⟨gb266, 2, none⟩ = some (.int .i64 ((rd_T24 x0_3 t247).f2)) := (blk_cell BK266.out 2).trans rfl
                                                  have hfz63_0 := blk_frozen BK266.out 0
                                                  have hfz63_1 := blk_frozen BK266.out 1
                                                  have hfz63_2 := blk_frozen BK266.out 2
                                                  go_wp2
                                                  go_meet
                                                  case rel => exact ⟨_, (false), (by first | rfl | (simp; done) | (simp [*]; done)), H', ⟨by have := HJ3.out; have := HJ9.out; have := HJ25.out; have := HJ32.out; have := HJ42.out; first | omega | exact Nat.le_refl _⟩, ⟨by (with_reducible repeat (first | apply Kd.V_alloc | apply Kd.V_drewN | apply Kd.V_drew)); exact Kd.V_mono (Kd.V_far (p := ⟨gb271, 4, none⟩) (Kd.V_far (p := ⟨gb271, 3, none⟩) (Kd.V_far (p := ⟨gb271, 2, none⟩) (Kd.V_far (p := ⟨gb271, 1, none⟩) (Kd.V_far (p := ⟨gb271, 0, none⟩) (Kd.V_mono HO_0.out (fun k_ hk => (⟨hk, hk.2⟩ : _ ∧ k_ ≠ gb271))) (fun _ hk => hk.2) (.int .i64 1)) (fun _ hk => hk.2) (.int .i64 t247)) (fun _ hk => hk.2) (.int .u8 ((rd_T24 x0_3 t247).f0))) (fun _ hk => hk.2) (.int .i64 ((rd_T24 x0_3 t247).f1))) (fun _ hk => hk.2) (.int .i64 ((rd_T24 x0_3 t247).f2))) (fun _ hk => ⟨hk.1.1.1, ⟨hk.1.1.2.1, ⟨hk.1.1.2.2, hk.1.2⟩⟩⟩)⟩, ⟨by (with_reducible repeat (first | apply Kd.R_alloc | apply Kd.R_drewN | apply Kd.R_drew)); exact Kd.R_mono (Kd.R_far (p := ⟨gb271, 4, none⟩) (Kd.R_far (p := ⟨gb271, 3, none⟩) (Kd.R_far (p := ⟨gb271, 2, none⟩) (Kd.R_far (p := ⟨gb271, 1, none⟩) (Kd.R_far (p := ⟨gb271, 0, none⟩) (Kd.R_types HO_16.out BK271.out (by decide)) (fun _ hk => hk.2) (.int .i64 1)) (fun _ hk => hk.2) (.int .i64 t247)) (fun _ hk => hk.2) (.int .u8 ((rd_T24 x0_3 t247).f0))) (fun _ hk => hk.2) (.int .i64 ((rd_T24 x0_3 t247).f1))) (fun _ hk => hk.2) (.int .i64 ((rd_T24 x0_3 t247).f2))) (fun _ hk => ⟨hk.1.1, hk.1.2⟩)⟩, ⟨by (with_reducible repeat (first | refine blk_drewN ?_ _ | refine blk_drew ?_ | refine blk_alloc ?_ _)); refine blk_far ?_ NB266_271.out _; (with_reducible repeat (first | refine blk_drewN ?_ _ | refine blk_drew ?_ | refine blk_alloc ?_ _)); refine blk_far ?_ NB266_271.out _; (with_reducible repeat (first | refine blk_drewN ?_ _ | refine blk_drew ?_ | refine blk_alloc ?_ _)); refine blk_far ?_ NB266_271.out _; (with_reducible repeat (first | refine blk_drewN ?_ _ | refine blk_drew ?_ | refine blk_alloc ?_ _)); refine blk_far ?_ NB266_271.out _; (with_reducible repeat (first | refine blk_drewN ?_ _ | refine blk_drew ?_ | refine blk_alloc ?_ _)); refine blk_far ?_ NB266_271.out _; (with_reducible repeat (first | refine blk_drewN ?_ _ | refine blk_drew ?_ | refine blk_alloc ?_ _)); exact BK266.out⟩, ⟨by (with_reducible repeat (first | refine blk_drewN ?_ _ | refine blk_drew ?_ | refine blk_alloc ?_ _)); refine blk_put (cs := #[.int .i64 1, .int .i64 t247, .int .u8 ((rd_T24 x0_3 t247).f0), .int .i64 ((rd_T24 x0_3 t247).f1), .int .i64 0]) ?_ 4 _ rfl; (with_reducible repeat (first | refine blk_drewN ?_ _ | refine blk_drew ?_ | refine blk_alloc ?_ _)); refine blk_put (cs := #[.int .i64 1, .int .i64 t247, .int .u8 ((rd_T24 x0_3 t247).f0), .int .i64 0, .int .i64 0]) ?_ 3 _ rfl; (with_reducible repeat (first | refine blk_drewN ?_ _ | refine blk_drew ?_ | refine blk_alloc ?_ _)); refine blk_put (cs := #[.int .i64 1, .int .i64 t247, .int .u8 0, .int .i64 0, .int .i64 0]) ?_ 2 _ rfl; (with_reducible repeat (first | refine blk_drewN ?_ _ | refine blk_drew ?_ | refine blk_alloc ?_ _)); refine blk_put (cs := #[.int .i64 1, .int .i64 0, .int .u8 0, .int .i64 0, .int .i64 0]) ?_ 1 _ rfl; (with_reducible repeat (first | refine blk_drewN ?_ _ | refine blk_drew ?_ | refine blk_alloc ?_ _)); refine blk_put (cs := #[.int .i64 0, .int .i64 0, .int .u8 0, .int .i64 0, .int .i64 0]) ?_ 0 _ rfl; (with_reducible repeat (first | refine blk_drewN ?_ _ | refine blk_drew ?_ | refine blk_alloc ?_ _)); exact BK271.out⟩, ⟨by repeat (first | (with_reducible first | exact HB.out | apply below_alloc | apply pw_below_drewN | apply below_drew1 | refine below_set ?_ GE266.out | refine below_set ?_ GE271.out) | exact HB.out)⟩⟩
                                            · rw [if_neg c58] at H
                                              have c58b0 : decide (((rd_T24 x0_3 t247).f1) ≤ 64) = false := decide_eq_false c58
                                              clear c58
                                              as_aux_lemma =>
                                                have H' := Aside0.mk H
                                                clear H
                                                have hnb64 := NB266_271.out
                                                have hnc64 := NB271_266.out
                                                have hcz65_0 : w52.cell? ⟨gb266, 0, none⟩ = some (.int .u8 ((rd_T24 x0_3 t247).f0)) := (blk_cell BK266.out 0).trans rfl
                                                have hcz65_1 : w52.cell? ⟨gb266, 1, none⟩ = some (.int .i64 ((rd_T24 x0_3 t247).f1)) := (blk_cell BK266.out 1).trans rfl
                                                have hcz65_2 : w52.cell? ⟨gb266, 2, none⟩ = some (.int .i64 ((rd_T24 x0_3 t247).f2)) := (blk_cell BK266.out 2).trans rfl
                                                have hfz65_0 := blk_frozen BK266.out 0
                                                have hfz65_1 := blk_frozen BK266.out 1
                                                have hfz65_2 := blk_frozen BK266.out 2
                                                go_wp2
                                                go_meet
                                                case rel => exact ⟨_, (false), (by first | rfl | (simp; done) | (simp [*]; done)), H', ⟨by have := HJ3.out; have := HJ9.out; have := HJ25.out; have := HJ32.out; have := HJ42.out; first | omega | exact Nat.le_refl _⟩, ⟨by (with_reducible repeat (first | apply Kd.V_alloc | apply Kd.V_drewN | apply Kd.V_drew)); exact Kd.V_mono (Kd.V_far (p := ⟨gb271, 4, none⟩) (Kd.V_far (p := ⟨gb271, 3, none⟩) (Kd.V_far (p := ⟨gb271, 2, none⟩) (Kd.V_far (p := ⟨gb271, 1, none⟩) (Kd.V_far (p := ⟨gb271, 0, none⟩) (Kd.V_mono HO_0.out (fun k_ hk => (⟨hk, hk.2⟩ : _ ∧ k_ ≠ gb271))) (fun _ hk => hk.2) (.int .i64 1)) (fun _ hk => hk.2) (.int .i64 t247)) (fun _ hk => hk.2) (.int .u8 ((rd_T24 x0_3 t247).f0))) (fun _ hk => hk.2) (.int .i64 ((rd_T24 x0_3 t247).f1))) (fun _ hk => hk.2) (.int .i64 ((rd_T24 x0_3 t247).f2))) (fun _ hk => ⟨hk.1.1.1, ⟨hk.1.1.2.1, ⟨hk.1.1.2.2, hk.1.2⟩⟩⟩)⟩, ⟨by (with_reducible repeat (first | apply Kd.R_alloc | apply Kd.R_drewN | apply Kd.R_drew)); exact Kd.R_mono (Kd.R_far (p := ⟨gb271, 4, none⟩) (Kd.R_far (p := ⟨gb271, 3, none⟩) (Kd.R_far (p := ⟨gb271, 2, none⟩) (Kd.R_far (p := ⟨gb271, 1, none⟩) (Kd.R_far (p := ⟨gb271, 0, none⟩) (Kd.R_types HO_16.out BK271.out (by decide)) (fun _ hk => hk.2) (.int .i64 1)) (fun _ hk => hk.2) (.int .i64 t247)) (fun _ hk => hk.2) (.int .u8 ((rd_T24 x0_3 t247).f0))) (fun _ hk => hk.2) (.int .i64 ((rd_T24 x0_3 t247).f1))) (fun _ hk => hk.2) (.int .i64 ((rd_T24 x0_3 t247).f2))) (fun _ hk => ⟨hk.1.1, hk.1.2⟩)⟩, ⟨by (with_reducible repeat (first | refine blk_drewN ?_ _ | refine blk_drew ?_ | refine blk_alloc ?_ _)); refine blk_far ?_ NB266_271.out _; (with_reducible repeat (first | refine blk_drewN ?_ _ | refine blk_drew ?_ | refine blk_alloc ?_ _)); refine blk_far ?_ NB266_271.out _; (with_reducible repeat (first | refine blk_drewN ?_ _ | refine blk_drew ?_ | refine blk_alloc ?_ _)); refine blk_far ?_ NB266_271.out _; (with_reducible repeat (first | refine blk_drewN ?_ _ | refine blk_drew ?_ | refine blk_alloc ?_ _)); refine blk_far ?_ NB266_271.out _; (with_reducible repeat (first | refine blk_drewN ?_ _ | refine blk_drew ?_ | refine blk_alloc ?_ _)); refine blk_far ?_ NB266_271.out _; (with_reducible repeat (first | refine blk_drewN ?_ _ | refine blk_drew ?_ | refine blk_alloc ?_ _)); exact BK266.out⟩, ⟨by (with_reducible repeat (first | refine blk_drewN ?_ _ | refine blk_drew ?_ | refine blk_alloc ?_ _)); refine blk_put (cs := #[.int .i64 1, .int .i64 t247, .int .u8 ((rd_T24 x0_3 t247).f0), .int .i64 ((rd_T24 x0_3 t247).f1), .int .i64 0]) ?_ 4 _ rfl; (with_reducible repeat (first | refine blk_drewN ?_ _ | refine blk_drew ?_ | refine blk_alloc ?_ _)); refine blk_put (cs := #[.int .i64 1, .int .i64 t247, .int .u8 ((rd_T24 x0_3 t247).f0), .int .i64 0, .int .i64 0]) ?_ 3 _ rfl; (with_reducible repeat (first | refine blk_drewN ?_ _ | refine blk_drew ?_ | refine blk_alloc ?_ _)); refine blk_put (cs := #[.int .i64 1, .int .i64 t247, .int .u8 0, .int .i64 0, .int .i64 0]) ?_ 2 _ rfl; (with_reducible repeat (first | refine blk_drewN ?_ _ | refine blk_drew ?_ | refine blk_alloc ?_ _)); refine blk_put (cs := #[.int .i64 1, .int .i64 0, .int .u8 0, .int .i64 0, .int .i64 0]) ?_ 1 _ rfl; (with_reducible repeat (first | refine blk_drewN ?_ _ | refine blk_drew ?_ | refine blk_alloc ?_ _)); refine blk_put (cs := #[.int .i64 0, .int .i64 0, .int .u8 0, .int .i64 0, .int .i64 0]) ?_ 0 _ rfl; (with_reducible repeat (first | refine blk_drewN ?_ _ | refine blk_drew ?_ | refine blk_alloc ?_ _)); exact BK271.out⟩, ⟨by repeat (first | (with_reducible first | exact HB.out | apply below_alloc | apply pw_below_drewN | apply below_drew1 | refine below_set ?_ GE266.out | refine below_set ?_ GE271.out) | exact HB.out)⟩⟩
                                          · rw [if_neg c57] at H
                                            have c57b0 : decide (1 ≤ ((rd_T24 x0_3 t247).f1)) = false := decide_eq_false c57
                                            clear c57
                                            as_aux_lemma =>
                                              have H' := Aside0.mk H
                                              clear H
                                              have hnb66 := NB266_271.out
                                              have hnc66 := NB271_266.out
                                              have hcz67_0 : w52.cell? ⟨gb266, 0, none⟩ = some (.int .u8 ((rd_T24 x0_3 t247).f0)) := (blk_cell BK266.out 0).trans rfl
                                              have hcz67_1 : w52.cell? ⟨gb266, 1, none⟩ = some (.int .i64 ((rd_T24 x0_3 t247).f1)) := (blk_cell BK266.out 1).trans rfl
                                              have hcz67_2 : w52.cell? ⟨gb266, 2, none⟩ = some (.int .i64 ((rd_T24 x0_3 t247).f2)) := (blk_cell BK266.out 2).trans rfl
                                              have hfz67_0 := blk_frozen BK266.out 0
                                              have hfz67_1 := blk_frozen BK266.out 1
                                              have hfz67_2 := blk_frozen BK266.out 2
                                              go_wp2
                                              go_meet
                                              case rel => exact ⟨_, (false), (by first | rfl | (simp; done) | (simp [*]; done)), H', ⟨by have := HJ3.out; have := HJ9.out; have := HJ25.out; have := HJ32.out; have := HJ42.out; first | omega | exact Nat.le_refl _⟩, ⟨by (with_reducible repeat (first | apply Kd.V_alloc | apply Kd.V_drewN | apply Kd.V_drew)); exact Kd.V_mono (Kd.V_far (p := ⟨gb271, 4, none⟩) (Kd.V_far (p := ⟨gb271, 3, none⟩) (Kd.V_far (p := ⟨gb271, 2, none⟩) (Kd.V_far (p := ⟨gb271, 1, none⟩) (Kd.V_far (p := ⟨gb271, 0, none⟩) (Kd.V_mono HO_0.out (fun k_ hk => (⟨hk, hk.2⟩ : _ ∧ k_ ≠ gb271))) (fun _ hk => hk.2) (.int .i64 1)) (fun _ hk => hk.2) (.int .i64 t247)) (fun _ hk => hk.2) (.int .u8 ((rd_T24 x0_3 t247).f0))) (fun _ hk => hk.2) (.int .i64 ((rd_T24 x0_3 t247).f1))) (fun _ hk => hk.2) (.int .i64 ((rd_T24 x0_3 t247).f2))) (fun _ hk => ⟨hk.1.1.1, ⟨hk.1.1.2.1, ⟨hk.1.1.2.2, hk.1.2⟩⟩⟩)⟩, ⟨by (with_reducible repeat (first | apply Kd.R_alloc | apply Kd.R_drewN | apply Kd.R_drew)); exact Kd.R_mono (Kd.R_far (p := ⟨gb271, 4, none⟩) (Kd.R_far (p := ⟨gb271, 3, none⟩) (Kd.R_far (p := ⟨gb271, 2, none⟩) (Kd.R_far (p := ⟨gb271, 1, none⟩) (Kd.R_far (p := ⟨gb271, 0, none⟩) (Kd.R_types HO_16.out BK271.out (by decide)) (fun _ hk => hk.2) (.int .i64 1)) (fun _ hk => hk.2) (.int .i64 t247)) (fun _ hk => hk.2) (.int .u8 ((rd_T24 x0_3 t247).f0))) (fun _ hk => hk.2) (.int .i64 ((rd_T24 x0_3 t247).f1))) (fun _ hk => hk.2) (.int .i64 ((rd_T24 x0_3 t247).f2))) (fun _ hk => ⟨hk.1.1, hk.1.2⟩)⟩, ⟨by (with_reducible repeat (first | refine blk_drewN ?_ _ | refine blk_drew ?_ | refine blk_alloc ?_ _)); refine blk_far ?_ NB266_271.out _; (with_reducible repeat (first | refine blk_drewN ?_ _ | refine blk_drew ?_ | refine blk_alloc ?_ _)); refine blk_far ?_ NB266_271.out _; (with_reducible repeat (first | refine blk_drewN ?_ _ | refine blk_drew ?_ | refine blk_alloc ?_ _)); refine blk_far ?_ NB266_271.out _; (with_reducible repeat (first | refine blk_drewN ?_ _ | refine blk_drew ?_ | refine blk_alloc ?_ _)); refine blk_far ?_ NB266_271.out _; (with_reducible repeat (first | refine blk_drewN ?_ _ | refine blk_drew ?_ | refine blk_alloc ?_ _)); refine blk_far ?_ NB266_271.out _; (with_reducible repeat (first | refine blk_drewN ?_ _ | refine blk_drew ?_ | refine blk_alloc ?_ _)); exact BK266.out⟩, ⟨by (with_reducible repeat (first | refine blk_drewN ?_ _ | refine blk_drew ?_ | refine blk_alloc ?_ _)); refine blk_put (cs := #[.int .i64 1, .int .i64 t247, .int .u8 ((rd_T24 x0_3 t247).f0), .int .i64 ((rd_T24 x0_3 t247).f1), .int .i64 0]) ?_ 4 _ rfl; (with_reducible repeat (first | refine blk_drewN ?_ _ | refine blk_drew ?_ | refine blk_alloc ?_ _)); refine blk_put (cs := #[.int .i64 1, .int .i64 t247, .int .u8 ((rd_T24 x0_3 t247).f0), .int .i64 0, .int .i64 0]) ?_ 3 _ rfl; (with_reducible repeat (first | refine blk_drewN ?_ _ | refine blk_drew ?_ | refine blk_alloc ?_ _)); refine blk_put (cs := #[.int .i64 1, .int .i64 t247, .int .u8 0, .int .i64 0, .int .i64 0]) ?_ 2 _ rfl; (with_reducible repeat (first | refine blk_drewN ?_ _ | refine blk_drew ?_ | refine blk_alloc ?_ _)); refine blk_put (cs := #[.int .i64 1, .int .i64 0, .int .u8 0, .int .i64 0, .int .i64 0]) ?_ 1 _ rfl; (with_reducible repeat (first | refine blk_drewN ?_ _ | refine blk_drew ?_ | refine blk_alloc ?_ _)); refine blk_put (cs := #[.int .i64 0, .int .i64 0, .int .u8 0, .int .i64 0, .int .i64 0]) ?_ 0 _ rfl; (with_reducible repeat (first | refine blk_drewN ?_ _ | refine blk_drew ?_ | refine blk_alloc ?_ _)); exact BK271.out⟩, ⟨by repeat (first | (with_reducible first | exact HB.out | apply below_alloc | apply pw_below_drewN | apply below_drew1 | refine below_set ?_ GE266.out | refine below_set ?_ GE271.out) | exact HB.out)⟩⟩
                                        · rw [if_neg c56] at H
                                          have c56b0 : decide (((rd_T24 x0_3 t247).f0) ≤ 126) = false := decide_eq_false c56
                                          clear c56
                                          as_aux_lemma =>
                                            have H' := Aside0.mk H
                                            clear H
                                            have hnb68 := NB266_271.out
                                            have hnc68 := NB271_266.out
                                            have hcz69_0 : w52.cell? ⟨gb266, 0, none⟩ = some (.int .u8 ((rd_T24 x0_3 t247).f0)) := (blk_cell BK266.out 0).trans rfl
                                            have hcz69_1 : w52.cell? ⟨gb266, 1, none⟩ = some (.int .i64 ((rd_T24 x0_3 t247).f1)) := (blk_cell BK266.out 1).trans rfl
                                            have hcz69_2 : w52.cell? ⟨gb266, 2, none⟩ = some (.int .i64 ((rd_T24 x0_3 t247).f2)) := (blk_cell BK266.out 2).trans rfl
                                            have hfz69_0 := blk_frozen BK266.out 0
                                            have hfz69_1 := blk_frozen BK266.out 1
                                            have hfz69_2 := blk_frozen BK266.out 2
                                            go_wp2
                                            go_meet
                                            case rel => exact ⟨_, (false), (by first | rfl | (simp; done) | (simp [*]; done)), H', ⟨by have := HJ3.out; have := HJ9.out; have := HJ25.out; have := HJ32.out; have := HJ42.out; first | omega | exact Nat.le_refl _⟩, ⟨by (with_reducible repeat (first | apply Kd.V_alloc | apply Kd.V_drewN | apply Kd.V_drew)); exact Kd.V_mono (Kd.V_far (p := ⟨gb271, 4, none⟩) (Kd.V_far (p := ⟨gb271, 3, none⟩) (Kd.V_far (p := ⟨gb271, 2, none⟩) (Kd.V_far (p := ⟨gb271, 1, none⟩) (Kd.V_far (p := ⟨gb271, 0, none⟩) (Kd.V_mono HO_0.out (fun k_ hk => (⟨hk, hk.2⟩ : _ ∧ k_ ≠ gb271))) (fun _ hk => hk.2) (.int .i64 1)) (fun _ hk => hk.2) (.int .i64 t247)) (fun _ hk => hk.2) (.int .u8 ((rd_T24 x0_3 t247).f0))) (fun _ hk => hk.2) (.int .i64 ((rd_T24 x0_3 t247).f1))) (fun _ hk => hk.2) (.int .i64 ((rd_T24 x0_3 t247).f2))) (fun _ hk => ⟨hk.1.1.1, ⟨hk.1.1.2.1, ⟨hk.1.1.2.2, hk.1.2⟩⟩⟩)⟩, ⟨by (with_reducible repeat (first | apply Kd.R_alloc | apply Kd.R_drewN | apply Kd.R_drew)); exact Kd.R_mono (Kd.R_far (p := ⟨gb271, 4, none⟩) (Kd.R_far (p := ⟨gb271, 3, none⟩) (Kd.R_far (p := ⟨gb271, 2, none⟩) (Kd.R_far (p := ⟨gb271, 1, none⟩) (Kd.R_far (p := ⟨gb271, 0, none⟩) (Kd.R_types HO_16.out BK271.out (by decide)) (fun _ hk => hk.2) (.int .i64 1)) (fun _ hk => hk.2) (.int .i64 t247)) (fun _ hk => hk.2) (.int .u8 ((rd_T24 x0_3 t247).f0))) (fun _ hk => hk.2) (.int .i64 ((rd_T24 x0_3 t247).f1))) (fun _ hk => hk.2) (.int .i64 ((rd_T24 x0_3 t247).f2))) (fun _ hk => ⟨hk.1.1, hk.1.2⟩)⟩, ⟨by (with_reducible repeat (first | refine blk_drewN ?_ _ | refine blk_drew ?_ | refine blk_alloc ?_ _)); refine blk_far ?_ NB266_271.out _; (with_reducible repeat (first | refine blk_drewN ?_ _ | refine blk_drew ?_ | refine blk_alloc ?_ _)); refine blk_far ?_ NB266_271.out _; (with_reducible repeat (first | refine blk_drewN ?_ _ | refine blk_drew ?_ | refine blk_alloc ?_ _)); refine blk_far ?_ NB266_271.out _; (with_reducible repeat (first | refine blk_drewN ?_ _ | refine blk_drew ?_ | refine blk_alloc ?_ _)); refine blk_far ?_ NB266_271.out _; (with_reducible repeat (first | refine blk_drewN ?_ _ | refine blk_drew ?_ | refine blk_alloc ?_ _)); refine blk_far ?_ NB266_271.out _; (with_reducible repeat (first | refine blk_drewN ?_ _ | refine blk_drew ?_ | refine blk_alloc ?_ _)); exact BK266.out⟩, ⟨by (with_reducible repeat (first | refine blk_drewN ?_ _ | refine blk_drew ?_ | refine blk_alloc ?_ _)); refine blk_put (cs := #[.int .i64 1, .int .i64 t247, .int .u8 ((rd_T24 x0_3 t247).f0), .int .i64 ((rd_T24 x0_3 t247).f1), .int .i64 0]) ?_ 4 _ rfl; (with_reducible repeat (first | refine blk_drewN ?_ _ | refine blk_drew ?_ | refine blk_alloc ?_ _)); refine blk_put (cs := #[.int .i64 1, .int .i64 t247, .int .u8 ((rd_T24 x0_3 t247).f0), .int .i64 0, .int .i64 0]) ?_ 3 _ rfl; (with_reducible repeat (first | refine blk_drewN ?_ _ | refine blk_drew ?_ | refine blk_alloc ?_ _)); refine blk_put (cs := #[.int .i64 1, .int .i64 t247, .int .u8 0, .int .i64 0, .int .i64 0]) ?_ 2 _ rfl; (with_reducible repeat (first | refine blk_drewN ?_ _ | refine blk_drew ?_ | refine blk_alloc ?_ _)); refine blk_put (cs := #[.int .i64 1, .int .i64 0, .int .u8 0, .int .i64 0, .int .i64 0]) ?_ 1 _ rfl; (with_reducible repeat (first | refine blk_drewN ?_ _ | refine blk_drew ?_ | refine blk_alloc ?_ _)); refine blk_put (cs := #[.int .i64 0, .int .i64 0, .int .u8 0, .int .i64 0, .int .i64 0]) ?_ 0 _ rfl; (with_reducible repeat (first | refine blk_drewN ?_ _ | refine blk_drew ?_ | refine blk_alloc ?_ _)); exact BK271.out⟩, ⟨by repeat (first | (with_reducible first | exact HB.out | apply below_alloc | apply pw_below_drewN | apply below_drew1 | refine below_set ?_ GE266.out | refine below_set ?_ GE271.out) | exact HB.out)⟩⟩
                                      · rw [if_neg c55] at H
                                        have c55b0 : decide (32 ≤ ((rd_T24 x0_3 t247).f0)) = false := decide_eq_false c55
                                        clear c55
                                        (first | rw [c55b0] | (simp only [i64_w, i32_w]; rw [c55b0]) | skip)
                                        as_aux_lemma =>
                                          have H' := Aside0.mk H
                                          clear H
                                          have hnb70 := NB266_271.out
                                          have hnc70 := NB271_266.out
                                          have hcz71_0 : w52.cell? ⟨gb266, 0, none⟩ = some (.int .u8 ((rd_T24 x0_3 t247).f0)) := (blk_cell BK266.out 0).trans rfl
                                          have hcz71_1 : w52.cell? ⟨gb266, 1, none⟩ = some (.int .i64 ((rd_T24 x0_3 t247).f1)) := (blk_cell BK266.out 1).trans rfl
                                          have hcz71_2 : w52.cell? ⟨gb266, 2, none⟩ = some (.int .i64 ((rd_T24 x0_3 t247).f2)) := (blk_cell BK266.out 2).trans rfl
                                          have hfz71_0 := blk_frozen BK266.out 0
                                          have hfz71_1 := blk_frozen BK266.out 1
                                          have hfz71_2 := blk_frozen BK266.out 2
                                          go_wp2
                                          go_meet
                                          case rel => exact ⟨_, (false), (by first | rfl | (simp; done) | (simp [*]; done)), H', ⟨by have := HJ3.out; have := HJ9.out; have := HJ25.out; have := HJ32.out; have := HJ42.out; first | omega | exact Nat.le_refl _⟩, ⟨by (with_reducible repeat (first | apply Kd.V_alloc | apply Kd.V_drewN | apply Kd.V_drew)); exact Kd.V_mono (Kd.V_far (p := ⟨gb271, 4, none⟩) (Kd.V_far (p := ⟨gb271, 3, none⟩) (Kd.V_far (p := ⟨gb271, 2, none⟩) (Kd.V_far (p := ⟨gb271, 1, none⟩) (Kd.V_far (p := ⟨gb271, 0, none⟩) (Kd.V_mono HO_0.out (fun k_ hk => (⟨hk, hk.2⟩ : _ ∧ k_ ≠ gb271))) (fun _ hk => hk.2) (.int .i64 1)) (fun _ hk => hk.2) (.int .i64 t247)) (fun _ hk => hk.2) (.int .u8 ((rd_T24 x0_3 t247).f0))) (fun _ hk => hk.2) (.int .i64 ((rd_T24 x0_3 t247).f1))) (fun _ hk => hk.2) (.int .i64 ((rd_T24 x0_3 t247).f2))) (fun _ hk => ⟨hk.1.1.1, ⟨hk.1.1.2.1, ⟨hk.1.1.2.2, hk.1.2⟩⟩⟩)⟩, ⟨by (with_reducible repeat (first | apply Kd.R_alloc | apply Kd.R_drewN | apply Kd.R_drew)); exact Kd.R_mono (Kd.R_far (p := ⟨gb271, 4, none⟩) (Kd.R_far (p := ⟨gb271, 3, none⟩) (Kd.R_far (p := ⟨gb271, 2, none⟩) (Kd.R_far (p := ⟨gb271, 1, none⟩) (Kd.R_far (p := ⟨gb271, 0, none⟩) (Kd.R_types HO_16.out BK271.out (by decide)) (fun _ hk => hk.2) (.int .i64 1)) (fun _ hk => hk.2) (.int .i64 t247)) (fun _ hk => hk.2) (.int .u8 ((rd_T24 x0_3 t247).f0))) (fun _ hk => hk.2) (.int .i64 ((rd_T24 x0_3 t247).f1))) (fun _ hk => hk.2) (.int .i64 ((rd_T24 x0_3 t247).f2))) (fun _ hk => ⟨hk.1.1, hk.1.2⟩)⟩, ⟨by (with_reducible repeat (first | refine blk_drewN ?_ _ | refine blk_drew ?_ | refine blk_alloc ?_ _)); refine blk_far ?_ NB266_271.out _; (with_reducible repeat (first | refine blk_drewN ?_ _ | refine blk_drew ?_ | refine blk_alloc ?_ _)); refine blk_far ?_ NB266_271.out _; (with_reducible repeat (first | refine blk_drewN ?_ _ | refine blk_drew ?_ | refine blk_alloc ?_ _)); refine blk_far ?_ NB266_271.out _; (with_reducible repeat (first | refine blk_drewN ?_ _ | refine blk_drew ?_ | refine blk_alloc ?_ _)); refine blk_far ?_ NB266_271.out _; (with_reducible repeat (first | refine blk_drewN ?_ _ | refine blk_drew ?_ | refine blk_alloc ?_ _)); refine blk_far ?_ NB266_271.out _; (with_reducible repeat (first | refine blk_drewN ?_ _ | refine blk_drew ?_ | refine blk_alloc ?_ _)); exact BK266.out⟩, ⟨by (with_reducible repeat (first | refine blk_drewN ?_ _ | refine blk_drew ?_ | refine blk_alloc ?_ _)); refine blk_put (cs := #[.int .i64 1, .int .i64 t247, .int .u8 ((rd_T24 x0_3 t247).f0), .int .i64 ((rd_T24 x0_3 t247).f1), .int .i64 0]) ?_ 4 _ rfl; (with_reducible repeat (first | refine blk_drewN ?_ _ | refine blk_drew ?_ | refine blk_alloc ?_ _)); refine blk_put (cs := #[.int .i64 1, .int .i64 t247, .int .u8 ((rd_T24 x0_3 t247).f0), .int .i64 0, .int .i64 0]) ?_ 3 _ rfl; (with_reducible repeat (first | refine blk_drewN ?_ _ | refine blk_drew ?_ | refine blk_alloc ?_ _)); refine blk_put (cs := #[.int .i64 1, .int .i64 t247, .int .u8 0, .int .i64 0, .int .i64 0]) ?_ 2 _ rfl; (with_reducible repeat (first | refine blk_drewN ?_ _ | refine blk_drew ?_ | refine blk_alloc ?_ _)); refine blk_put (cs := #[.int .i64 1, .int .i64 0, .int .u8 0, .int .i64 0, .int .i64 0]) ?_ 1 _ rfl; (with_reducible repeat (first | refine blk_drewN ?_ _ | refine blk_drew ?_ | refine blk_alloc ?_ _)); refine blk_put (cs := #[.int .i64 0, .int .i64 0, .int .u8 0, .int .i64 0, .int .i64 0]) ?_ 0 _ rfl; (with_reducible repeat (first | refine blk_drewN ?_ _ | refine blk_drew ?_ | refine blk_alloc ?_ _)); exact BK271.out⟩, ⟨by repeat (first | (with_reducible first | exact HB.out | apply below_alloc | apply pw_below_drewN | apply below_drew1 | refine below_set ?_ GE266.out | refine below_set ?_ GE271.out) | exact HB.out)⟩⟩
                                    case rest =>
                                      clear HC50
                                      try clear c1
                                      try clear c2
                                      try clear p2
                                      try clear q2
                                      try clear hx2
                                      try clear c3
                                      try clear c4
                                      try clear c5
                                      try clear c5b0
                                      try clear c5b1
                                      try clear c6
                                      try clear c6b0
                                      try clear c6b1
                                      try clear p6
                                      try clear c7
                                      try clear q7
                                      try clear c13
                                      try clear c13b0
                                      try clear c13b1
                                      try clear c14
                                      try clear c14b0
                                      try clear c14b1
                                      try clear c15
                                      try clear c15b0
                                      try clear c16
                                      try clear c16b0
                                      try clear c17
                                      try clear c17b0
                                      try clear c17b1
                                      try clear c18
                                      try clear c18b0
                                      try clear c18b1
                                      try clear c23
                                      try clear c25
                                      try clear p25
                                      try clear q25
                                      try clear hx25
                                      try clear c26
                                      try clear p26
                                      try clear q26
                                      try clear hx26
                                      try clear c27
                                      try clear c30
                                      try clear c30b0
                                      try clear c30b1
                                      try clear c31
                                      try clear c35
                                      try clear c35b0
                                      try clear c35b1
                                      try clear c38
                                      try clear c39
                                      try clear c39b0
                                      try clear c39b1
                                      try clear c40
                                      try clear c40b0
                                      try clear c41
                                      try clear c41b0
                                      try clear c47
                                      try clear c47b0
                                      try clear c47b1
                                      try clear c49
                                      try clear c53
                                      try clear c55
                                      try clear c55b0
                                      try clear c56
                                      try clear c56b0
                                      try clear c57
                                      try clear c57b0
                                      try clear c58
                                      try clear c58b0
                                      try clear c59
                                      try clear c59b0
                                      try clear c60
                                      try clear c62
                                      try clear c64
                                      try clear p64
                                      try clear c66
                                      try clear c68
                                      try clear c70
                                      try clear hcz45_0
                                      try clear hcz45_1
                                      try clear hcz45_2
                                      try clear hcz51_0
                                      try clear hcz51_1
                                      try clear hcz51_2
                                      try clear hcz54_0
                                      try clear hcz54_1
                                      try clear hcz54_2
                                      try clear hcz54_3
                                      try clear hcz54_4
                                      try clear hcz61_0
                                      try clear hcz61_1
                                      try clear hcz61_2
                                      try clear hcz63_0
                                      try clear hcz63_1
                                      try clear hcz63_2
                                      try clear hcz65_0
                                      try clear hcz65_1
                                      try clear hcz65_2
                                      try clear hcz67_0
                                      try clear hcz67_1
                                      try clear hcz67_2
                                      try clear hcz69_0
                                      try clear hcz69_1
                                      try clear hcz69_2
                                      try clear hcz71_0
                                      try clear hcz71_1
                                      try clear hcz71_2
                                      try clear hfz45_0
                                      try clear hfz45_1
                                      try clear hfz45_2
                                      try clear hfz51_0
                                      try clear hfz51_1
                                      try clear hfz51_2
                                      try clear hfz54_0
                                      try clear hfz54_1
                                      try clear hfz54_2
                                      try clear hfz54_3
                                      try clear hfz54_4
                                      try clear hfz61_0
                                      try clear hfz61_1
                                      try clear hfz61_2
                                      try clear hfz63_0
                                      try clear hfz63_1
                                      try clear hfz63_2
                                      try clear hfz65_0
                                      try clear hfz65_1
                                      try clear hfz65_2
                                      try clear hfz67_0
                                      try clear hfz67_1
                                      try clear hfz67_2
                                      try clear hfz69_0
                                      try clear hfz69_1
                                      try clear hfz69_2
                                      try clear hfz71_0
                                      try clear hfz71_1
                                      try clear hfz71_2
                                      try clear hx252_0
                                      try clear hx252_1
                                      try clear hx252_2
                                      try clear hx253_0
                                      try clear hx253_1
                                      try clear hx253_2
                                      try clear hx254_0
                                      try clear hx254_1
                                      try clear hx254_2
                                      try clear hx265_0
                                      try clear hx265_1
                                      try clear hx265_2
                                      try clear p2
                                      try clear p25
                                      try clear p252
                                      try clear p253
                                      try clear p254
                                      try clear p26
                                      try clear p265
                                      try clear p6
                                      try clear q2
                                      try clear q25
                                      try clear q252
                                      try clear q253
                                      try clear q254
                                      try clear q26
                                      try clear q265
                                      try clear q7
                                      obtain ⟨kq, x19_49, rfl, HA, HJ49, HO_0, HO_16, BK266, BK271, HB⟩ := hcut
                                      cases kq with
                                      | zero => exact absurd HA.out (by simp [jotterlaw04_DocUndo.j5])
                                      | succ kj49 =>
                                        have H := HA.out
                                        clear HA
                                        simp only [jotterlaw04_DocUndo.j5] at H
                                        replace H := Option.bind_eq_some_iff.mp H
                                        obtain ⟨⟨t272, t275⟩, A720, H⟩ := H
                                        replace H : (if x19_49 = true then (if t275 = 0 then ((jotterlaw04_same.f kj49 t272 x0_3).bind fun t276 => (some t276)) else (some false)) else (if t275 = 0 then (some false) else (some ((t272.length : Int) == 0)))) = some r := H
                                        have A72 := Aside0.mk A720
                                        clear A720
                                        by_cases c73 : x19_49 = true
                                        · subst c73
                                          have H1 : (if t275 = 0 then ((jotterlaw04_same.f kj49 t272 x0_3).bind fun t276 => (some t276)) else (some false)) = some r := by rw [if_pos rfl] at H; exact H
                                          clear H
                                          have H := H1
                                          clear H1
                                          by_cases c74 : t275 = 0
                                          · rw [if_pos c74] at H
                                            have c74b0 : (t275 == 0) = true := beq_iff_eq.mpr c74
                                            have c74b1 : (t275 != 0) = false := bne_eq_false_iff_eq.mpr c74
                                            clear c74
                                            replace H := Option.bind_eq_some_iff.mp H
                                            obtain ⟨t276, A750, H⟩ := H
                                            replace H : (some t276) = some r := H
                                            have A75 := Aside0.mk A750
                                            clear A750
                                            as_aux_lemma =>
                                              obtain rfl := Option.some.inj H
                                              have hnb76 := NB271_266.out
                                              have hnc76 := NB266_271.out
                                              have hcz77_0 : wc.cell? ⟨gb271, 0, none⟩ = some (.int .i64 1) := (blk_cell BK271.out 0).trans rfl
                                              have hcz77_1 : wc.cell? ⟨gb271, 1, none⟩ = some (.int .i64 t247) := (blk_cell BK271.out 1).trans rfl
                                              have hcz77_2 : wc.cell? ⟨gb271, 2, none⟩ = some (.int .u8 ((rd_T24 x0_3 t247).f0)) := (blk_cell BK271.out 2).trans rfl
                                              have hcz77_3 : wc.cell? ⟨gb271, 3, none⟩ = some (.int .i64 ((rd_T24 x0_3 t247).f1)) := (blk_cell BK271.out 3).trans rfl
                                              have hcz77_4 : wc.cell? ⟨gb271, 4, none⟩ = some (.int .i64 ((rd_T24 x0_3 t247).f2)) := (blk_cell BK271.out 4).trans rfl
                                              have hfz77_0 := blk_frozen BK271.out 0
                                              have hfz77_1 := blk_frozen BK271.out 1
                                              have hfz77_2 := blk_frozen BK271.out 2
                                              have hfz77_3 := blk_frozen BK271.out 3
                                              have hfz77_4 := blk_frozen BK271.out 4
                                              obtain ⟨Ao78, co78, eo78⟩ := Kd.R_slice HO_16.out
                                              subst eo78
                                              go_wp2_with (first | ((with_reducible refine gate_callee (f := 25) rfl ?_); refine goesL_ (some 173) rfl rfl Try.func25 (by kernel_rfl) rfl #[.slice Ao78 t267.length co78, .agg #[.int .i64 1, .int .i64 t247, .int .u8 ((rd_T24 x0_3 t247).f0), .int .i64 ((rd_T24 x0_3 t247).f1), .int .i64 ((rd_T24 x0_3 t247).f2)]] rfl (by (try simp only [List.map_toArray, List.map_cons, List.map_nil]); first | done | rfl | (simp only [List.length_drop, List.length_take]; rfl)) ?_; (with_reducible refine (doc_Apply.calls kj49 _ _ t267 1 t247 ((rd_T24 x0_3 t247).f0) ((rd_T24 x0_3 t247).f1) ((rd_T24 x0_3 t247).f2) t272 t275 _ ?side1 ?side2 A72.out).mono ?_); (case side1 => repeat (first | exact (Kd.R_reads' HO_16.out).2.2 | (with_reducible refine Kd.C_alloc ?_ _) | (with_reducible refine Kd.C_drewN ?_ _) | (with_reducible refine Kd.C_drew ?_))); (case side2 => exact (Kd.R_reads' HO_16.out).2.1); rintro e w79 ⟨v273, rfl, ho0, hb⟩; refine ⟨_, rfl, ?_⟩; have n0_ := Aside0.mk (Kd.V_elder' (by (with_reducible repeat (first | apply Kd.V_alloc | apply Kd.V_drewN | apply Kd.V_drew)); exact HO_0.out) (Kd.R_base ho0) hb); have n1_ := Aside0.mk (Kd.R_elder' (by (with_reducible repeat (first | apply Kd.R_alloc | apply Kd.R_drewN | apply Kd.R_drew)); exact HO_16.out) (Kd.R_base ho0) hb); have n2_ := Aside0.mk (Kd.R_lower (Kd.R_newB (Kd.R_new' (Kd.R_newM (M := fun k_ => (w.heap.size ≤ k_)) ho0 (below_size (by repeat (first | (with_reducible first | exact HB.out | apply below_alloc | apply pw_below_drewN | apply below_drew1 | refine below_set ?_ GE266.out | refine below_set ?_ GE271.out) | exact HB.out))) (fun k_ h_ => h_)) (Kd.R_lt (by (with_reducible repeat (first | apply Kd.R_alloc | apply Kd.R_drewN | apply Kd.R_drew)); exact HO_16.out))) (g := gb266) (o := .cells #[.int .u8 ((rd_T24 x0_3 t247).f0), .int .i64 ((rd_T24 x0_3 t247).f1), .int .i64 ((rd_T24 x0_3 t247).f2)] 24 (0, 0)) (by (with_reducible repeat (first | refine blk_drewN ?_ _ | refine blk_drew ?_ | refine blk_alloc ?_ _)); exact BK266.out)) (below_size (by repeat (first | (with_reducible first | exact HB.out | apply below_alloc | apply pw_below_drewN | apply below_drew1 | refine below_set ?_ GE266.out | refine below_set ?_ GE271.out) | exact HB.out)))); have n3_ := Aside0.mk (blk_below (g := gb266) (o := .cells #[.int .u8 ((rd_T24 x0_3 t247).f0), .int .i64 ((rd_T24 x0_3 t247).f1), .int .i64 ((rd_T24 x0_3 t247).f2)] 24 (0, 0)) (by (with_reducible repeat (first | refine blk_drewN ?_ _ | refine blk_drew ?_ | refine blk_alloc ?_ _)); exact BK266.out) hb); have n4_ := Aside0.mk (blk_below (g := gb271) (o := .cells #[.int .i64 1, .int .i64 t247, .int .u8 ((rd_T24 x0_3 t247).f0), .int .i64 ((rd_T24 x0_3 t247).f1), .int .i64 ((rd_T24 x0_3 t247).f2)] 30 (0, 0)) (by (with_reducible repeat (first | refine blk_drewN ?_ _ | refine blk_drew ?_ | refine blk_alloc ?_ _)); exact BK271.out) hb); have n5_ := Aside0.mk (below_step (by repeat (first | (with_reducible first | exact HB.out | apply below_alloc | apply pw_below_drewN | apply below_drew1 | refine below_set ?_ GE266.out | refine below_set ?_ GE271.out) | exact HB.out)) hb); clear HO_0; clear HO_16; clear BK266; clear BK271; clear HB; have HO_0 := n0_; have HO_16 := n1_; have HO274 := n2_; have BK266 := n3_; have BK271 := n4_; have HB := n5_; clear n0_ n1_ n2_ n3_ n4_ n5_; (try clear hb); (try clear hb2); (try clear hk); (try clear hi); (try clear ho0); obtain ⟨Ao80, co80, eo80⟩ := Kd.R_slice HO274.out; subst eo80) | (go_at_call 26; (with_reducible refine (jotterlaw04_same.calls kj49 _ _ t272 _ _ x0_3 t276 _ ?side1 ?side2 ?side3 ?side4 A75.out).mono ?_); (case side1 => repeat (first | exact (Kd.R_reads' HO274.out).2.2 | (with_reducible refine Kd.C_alloc ?_ _) | (with_reducible refine Kd.C_drewN ?_ _) | (with_reducible refine Kd.C_drew ?_))); (case side2 => exact (Kd.R_reads' HO274.out).2.1); (case side3 => repeat (first | exact (Kd.V_reads' HO_0.out).2.2 | (with_reducible refine Kd.C_alloc ?_ _) | (with_reducible refine Kd.C_drewN ?_ _) | (with_reducible refine Kd.C_drew ?_))); (case side4 => exact (Kd.V_reads' HO_0.out).2.1); rintro e w' ⟨rfl, ⟨nd, rfl⟩⟩))
                                              go_ret
                                              exact ⟨by first | rfl | (simp [errW_none, errW_some] <;> rfl) | (simp [*, errW_none, errW_some] <;> rfl), by repeat (first | (with_reducible first | exact HB.out | apply below_alloc | apply pw_below_drewN | apply below_drew1 | refine below_set ?_ GE266.out | refine below_set ?_ GE271.out) | exact HB.out)⟩
                                          · rw [if_neg c74] at H
                                            have c74b0 : (t275 == 0) = false := beq_eq_false_iff_ne.mpr c74
                                            have c74b1 : (t275 != 0) = true := bne_iff_ne.mpr c74
                                            as_aux_lemma =>
                                              obtain rfl := Option.some.inj H
                                              have hnb81 := NB271_266.out
                                              have hnc81 := NB266_271.out
                                              have hcz82_0 : wc.cell? ⟨gb271, 0, none⟩ = some (.int .i64 1) := (blk_cell BK271.out 0).trans rfl
                                              have hcz82_1 : wc.cell? ⟨gb271, 1, none⟩ = some (.int .i64 t247) := (blk_cell BK271.out 1).trans rfl
                                              have hcz82_2 : wc.cell? ⟨gb271, 2, none⟩ = some (.int .u8 ((rd_T24 x0_3 t247).f0)) := (blk_cell BK271.out 2).trans rfl
                                              have hcz82_3 : wc.cell? ⟨gb271, 3, none⟩ = some (.int .i64 ((rd_T24 x0_3 t247).f1)) := (blk_cell BK271.out 3).trans rfl
                                              have hcz82_4 : wc.cell? ⟨gb271, 4, none⟩ = some (.int .i64 ((rd_T24 x0_3 t247).f2)) := (blk_cell BK271.out 4).trans rfl
                                              have hfz82_0 := blk_frozen BK271.out 0
                                              have hfz82_1 := blk_frozen BK271.out 1
                                              have hfz82_2 := blk_frozen BK271.out 2
                                              have hfz82_3 := blk_frozen BK271.out 3
                                              have hfz82_4 := blk_frozen BK271.out 4
                                              obtain ⟨Ao83, co83, eo83⟩ := Kd.R_slice HO_16.out
                                              subst eo83
                                              go_wp2_with (first | ((with_reducible refine gate_callee (f := 25) rfl ?_); refine goesL_ (some 173) rfl rfl Try.func25 (by kernel_rfl) rfl #[.slice Ao83 t267.length co83, .agg #[.int .i64 1, .int .i64 t247, .int .u8 ((rd_T24 x0_3 t247).f0), .int .i64 ((rd_T24 x0_3 t247).f1), .int .i64 ((rd_T24 x0_3 t247).f2)]] rfl (by (try simp only [List.map_toArray, List.map_cons, List.map_nil]); first | done | rfl | (simp only [List.length_drop, List.length_take]; rfl)) ?_; (with_reducible refine (doc_Apply.calls kj49 _ _ t267 1 t247 ((rd_T24 x0_3 t247).f0) ((rd_T24 x0_3 t247).f1) ((rd_T24 x0_3 t247).f2) t272 t275 _ ?side1 ?side2 A72.out).mono ?_); (case side1 => repeat (first | exact (Kd.R_reads' HO_16.out).2.2 | (with_reducible refine Kd.C_alloc ?_ _) | (with_reducible refine Kd.C_drewN ?_ _) | (with_reducible refine Kd.C_drew ?_))); (case side2 => exact (Kd.R_reads' HO_16.out).2.1); rintro e w84 ⟨v273, rfl, ho0, hb⟩; refine ⟨_, rfl, ?_⟩; have n0_ := Aside0.mk (Kd.V_elder' (by (with_reducible repeat (first | apply Kd.V_alloc | apply Kd.V_drewN | apply Kd.V_drew)); exact HO_0.out) (Kd.R_base ho0) hb); have n1_ := Aside0.mk (Kd.R_elder' (by (with_reducible repeat (first | apply Kd.R_alloc | apply Kd.R_drewN | apply Kd.R_drew)); exact HO_16.out) (Kd.R_base ho0) hb); have n2_ := Aside0.mk (Kd.R_lower (Kd.R_newB (Kd.R_new' (Kd.R_newM (M := fun k_ => (w.heap.size ≤ k_)) ho0 (below_size (by repeat (first | (with_reducible first | exact HB.out | apply below_alloc | apply pw_below_drewN | apply below_drew1 | refine below_set ?_ GE266.out | refine below_set ?_ GE271.out) | exact HB.out))) (fun k_ h_ => h_)) (Kd.R_lt (by (with_reducible repeat (first | apply Kd.R_alloc | apply Kd.R_drewN | apply Kd.R_drew)); exact HO_16.out))) (g := gb266) (o := .cells #[.int .u8 ((rd_T24 x0_3 t247).f0), .int .i64 ((rd_T24 x0_3 t247).f1), .int .i64 ((rd_T24 x0_3 t247).f2)] 24 (0, 0)) (by (with_reducible repeat (first | refine blk_drewN ?_ _ | refine blk_drew ?_ | refine blk_alloc ?_ _)); exact BK266.out)) (below_size (by repeat (first | (with_reducible first | exact HB.out | apply below_alloc | apply pw_below_drewN | apply below_drew1 | refine below_set ?_ GE266.out | refine below_set ?_ GE271.out) | exact HB.out)))); have n3_ := Aside0.mk (blk_below (g := gb266) (o := .cells #[.int .u8 ((rd_T24 x0_3 t247).f0), .int .i64 ((rd_T24 x0_3 t247).f1), .int .i64 ((rd_T24 x0_3 t247).f2)] 24 (0, 0)) (by (with_reducible repeat (first | refine blk_drewN ?_ _ | refine blk_drew ?_ | refine blk_alloc ?_ _)); exact BK266.out) hb); have n4_ := Aside0.mk (blk_below (g := gb271) (o := .cells #[.int .i64 1, .int .i64 t247, .int .u8 ((rd_T24 x0_3 t247).f0), .int .i64 ((rd_T24 x0_3 t247).f1), .int .i64 ((rd_T24 x0_3 t247).f2)] 30 (0, 0)) (by (with_reducible repeat (first | refine blk_drewN ?_ _ | refine blk_drew ?_ | refine blk_alloc ?_ _)); exact BK271.out) hb); have n5_ := Aside0.mk (below_step (by repeat (first | (with_reducible first | exact HB.out | apply below_alloc | apply pw_below_drewN | apply below_drew1 | refine below_set ?_ GE266.out | refine below_set ?_ GE271.out) | exact HB.out)) hb); clear HO_0; clear HO_16; clear BK266; clear BK271; clear HB; have HO_0 := n0_; have HO_16 := n1_; have HO274 := n2_; have BK266 := n3_; have BK271 := n4_; have HB := n5_; clear n0_ n1_ n2_ n3_ n4_ n5_; (try clear hb); (try clear hb2); (try clear hk); (try clear hi); (try clear ho0)))
                                              go_ret
                                              exact ⟨by first | rfl | (simp [errW_none, errW_some] <;> rfl) | (simp [*, errW_none, errW_some] <;> rfl), by repeat (first | (with_reducible first | exact HB.out | apply below_alloc | apply pw_below_drewN | apply below_drew1 | refine below_set ?_ GE266.out | refine below_set ?_ GE271.out) | exact HB.out)⟩
                                        · replace c73 := Bool.eq_false_iff.mpr c73
                                          subst c73
                                          have H1 : (if t275 = 0 then (some false) else (some ((t272.length : Int) == 0))) = some r := by rw [if_neg (show ¬ (false = true) by decide)] at H; exact H
                                          clear H
                                          have H := H1
                                          clear H1
                                          by_cases c85 : t275 = 0
                                          · rw [if_pos c85] at H
                                            have c85b0 : (t275 == 0) = true := beq_iff_eq.mpr c85
                                            have c85b1 : (t275 != 0) = false := bne_eq_false_iff_eq.mpr c85
                                            clear c85
                                            as_aux_lemma =>
                                              obtain rfl := Option.some.inj H
                                              have hnb86 := NB271_266.out
                                              have hnc86 := NB266_271.out
                                              have hcz87_0 : wc.cell? ⟨gb271, 0, none⟩ = some (.int .i64 1) := (blk_cell BK271.out 0).trans rfl
                                              have hcz87_1 : wc.cell? ⟨gb271, 1, none⟩ = some (.int .i64 t247) := (blk_cell BK271.out 1).trans rfl
                                              have hcz87_2 : wc.cell? ⟨gb271, 2, none⟩ = some (.int .u8 ((rd_T24 x0_3 t247).f0)) := (blk_cell BK271.out 2).trans rfl
                                              have hcz87_3 : wc.cell? ⟨gb271, 3, none⟩ = some (.int .i64 ((rd_T24 x0_3 t247).f1)) := (blk_cell BK271.out 3).trans rfl
                                              have hcz87_4 : wc.cell? ⟨gb271, 4, none⟩ = some (.int .i64 ((rd_T24 x0_3 t247).f2)) := (blk_cell BK271.out 4).trans rfl
                                              have hfz87_0 := blk_frozen BK271.out 0
                                              have hfz87_1 := blk_frozen BK271.out 1
                                              have hfz87_2 := blk_frozen BK271.out 2
                                              have hfz87_3 := blk_frozen BK271.out 3
                                              have hfz87_4 := blk_frozen BK271.out 4
                                              obtain ⟨Ao88, co88, eo88⟩ := Kd.R_slice HO_16.out
                                              subst eo88
                                              go_wp2_with (first | ((with_reducible refine gate_callee (f := 25) rfl ?_); refine goesL_ (some 173) rfl rfl Try.func25 (by kernel_rfl) rfl #[.slice Ao88 t267.length co88, .agg #[.int .i64 1, .int .i64 t247, .int .u8 ((rd_T24 x0_3 t247).f0), .int .i64 ((rd_T24 x0_3 t247).f1), .int .i64 ((rd_T24 x0_3 t247).f2)]] rfl (by (try simp only [List.map_toArray, List.map_cons, List.map_nil]); first | done | rfl | (simp only [List.length_drop, List.length_take]; rfl)) ?_; (with_reducible refine (doc_Apply.calls kj49 _ _ t267 1 t247 ((rd_T24 x0_3 t247).f0) ((rd_T24 x0_3 t247).f1) ((rd_T24 x0_3 t247).f2) t272 t275 _ ?side1 ?side2 A72.out).mono ?_); (case side1 => repeat (first | exact (Kd.R_reads' HO_16.out).2.2 | (with_reducible refine Kd.C_alloc ?_ _) | (with_reducible refine Kd.C_drewN ?_ _) | (with_reducible refine Kd.C_drew ?_))); (case side2 => exact (Kd.R_reads' HO_16.out).2.1); rintro e w89 ⟨v273, rfl, ho0, hb⟩; refine ⟨_, rfl, ?_⟩; have n0_ := Aside0.mk (Kd.V_elder' (by (with_reducible repeat (first | apply Kd.V_alloc | apply Kd.V_drewN | apply Kd.V_drew)); exact HO_0.out) (Kd.R_base ho0) hb); have n1_ := Aside0.mk (Kd.R_elder' (by (with_reducible repeat (first | apply Kd.R_alloc | apply Kd.R_drewN | apply Kd.R_drew)); exact HO_16.out) (Kd.R_base ho0) hb); have n2_ := Aside0.mk (Kd.R_lower (Kd.R_newB (Kd.R_new' (Kd.R_newM (M := fun k_ => (w.heap.size ≤ k_)) ho0 (below_size (by repeat (first | (with_reducible first | exact HB.out | apply below_alloc | apply pw_below_drewN | apply below_drew1 | refine below_set ?_ GE266.out | refine below_set ?_ GE271.out) | exact HB.out))) (fun k_ h_ => h_)) (Kd.R_lt (by (with_reducible repeat (first | apply Kd.R_alloc | apply Kd.R_drewN | apply Kd.R_drew)); exact HO_16.out))) (g := gb266) (o := .cells #[.int .u8 ((rd_T24 x0_3 t247).f0), .int .i64 ((rd_T24 x0_3 t247).f1), .int .i64 ((rd_T24 x0_3 t247).f2)] 24 (0, 0)) (by (with_reducible repeat (first | refine blk_drewN ?_ _ | refine blk_drew ?_ | refine blk_alloc ?_ _)); exact BK266.out)) (below_size (by repeat (first | (with_reducible first | exact HB.out | apply below_alloc | apply pw_below_drewN | apply below_drew1 | refine below_set ?_ GE266.out | refine below_set ?_ GE271.out) | exact HB.out)))); have n3_ := Aside0.mk (blk_below (g := gb266) (o := .cells #[.int .u8 ((rd_T24 x0_3 t247).f0), .int .i64 ((rd_T24 x0_3 t247).f1), .int .i64 ((rd_T24 x0_3 t247).f2)] 24 (0, 0)) (by (with_reducible repeat (first | refine blk_drewN ?_ _ | refine blk_drew ?_ | refine blk_alloc ?_ _)); exact BK266.out) hb); have n4_ := Aside0.mk (blk_below (g := gb271) (o := .cells #[.int .i64 1, .int .i64 t247, .int .u8 ((rd_T24 x0_3 t247).f0), .int .i64 ((rd_T24 x0_3 t247).f1), .int .i64 ((rd_T24 x0_3 t247).f2)] 30 (0, 0)) (by (with_reducible repeat (first | refine blk_drewN ?_ _ | refine blk_drew ?_ | refine blk_alloc ?_ _)); exact BK271.out) hb); have n5_ := Aside0.mk (below_step (by repeat (first | (with_reducible first | exact HB.out | apply below_alloc | apply pw_below_drewN | apply below_drew1 | refine below_set ?_ GE266.out | refine below_set ?_ GE271.out) | exact HB.out)) hb); clear HO_0; clear HO_16; clear BK266; clear BK271; clear HB; have HO_0 := n0_; have HO_16 := n1_; have HO274 := n2_; have BK266 := n3_; have BK271 := n4_; have HB := n5_; clear n0_ n1_ n2_ n3_ n4_ n5_; (try clear hb); (try clear hb2); (try clear hk); (try clear hi); (try clear ho0)))
                                              go_ret
                                              exact ⟨by first | rfl | (simp [errW_none, errW_some] <;> rfl) | (simp [*, errW_none, errW_some] <;> rfl), by repeat (first | (with_reducible first | exact HB.out | apply below_alloc | apply pw_below_drewN | apply below_drew1 | refine below_set ?_ GE266.out | refine below_set ?_ GE271.out) | exact HB.out)⟩
                                          · rw [if_neg c85] at H
                                            have c85b0 : (t275 == 0) = false := beq_eq_false_iff_ne.mpr c85
                                            have c85b1 : (t275 != 0) = true := bne_iff_ne.mpr c85
                                            as_aux_lemma =>
                                              obtain rfl := Option.some.inj H
                                              have hnb90 := NB271_266.out
                                              have hnc90 := NB266_271.out
                                              have hcz91_0 : wc.cell? ⟨gb271, 0, none⟩ = some (.int .i64 1) := (blk_cell BK271.out 0).trans rfl
                                              have hcz91_1 : wc.cell? ⟨gb271, 1, none⟩ = some (.int .i64 t247) := (blk_cell BK271.out 1).trans rfl
                                              have hcz91_2 : wc.cell? ⟨gb271, 2, none⟩ = some (.int .u8 ((rd_T24 x0_3 t247).f0)) := (blk_cell BK271.out 2).trans rfl
                                              have hcz91_3 : wc.cell? ⟨gb271, 3, none⟩ = some (.int .i64 ((rd_T24 x0_3 t247).f1)) := (blk_cell BK271.out 3).trans rfl
                                              have hcz91_4 : wc.cell? ⟨gb271, 4, none⟩ = some (.int .i64 ((rd_T24 x0_3 t247).f2)) := (blk_cell BK271.out 4).trans rfl
                                              have hfz91_0 := blk_frozen BK271.out 0
                                              have hfz91_1 := blk_frozen BK271.out 1
                                              have hfz91_2 := blk_frozen BK271.out 2
                                              have hfz91_3 := blk_frozen BK271.out 3
                                              have hfz91_4 := blk_frozen BK271.out 4
                                              obtain ⟨Ao92, co92, eo92⟩ := Kd.R_slice HO_16.out
                                              subst eo92
                                              go_wp2_with (first | ((with_reducible refine gate_callee (f := 25) rfl ?_); refine goesL_ (some 173) rfl rfl Try.func25 (by kernel_rfl) rfl #[.slice Ao92 t267.length co92, .agg #[.int .i64 1, .int .i64 t247, .int .u8 ((rd_T24 x0_3 t247).f0), .int .i64 ((rd_T24 x0_3 t247).f1), .int .i64 ((rd_T24 x0_3 t247).f2)]] rfl (by (try simp only [List.map_toArray, List.map_cons, List.map_nil]); first | done | rfl | (simp only [List.length_drop, List.length_take]; rfl)) ?_; (with_reducible refine (doc_Apply.calls kj49 _ _ t267 1 t247 ((rd_T24 x0_3 t247).f0) ((rd_T24 x0_3 t247).f1) ((rd_T24 x0_3 t247).f2) t272 t275 _ ?side1 ?side2 A72.out).mono ?_); (case side1 => repeat (first | exact (Kd.R_reads' HO_16.out).2.2 | (with_reducible refine Kd.C_alloc ?_ _) | (with_reducible refine Kd.C_drewN ?_ _) | (with_reducible refine Kd.C_drew ?_))); (case side2 => exact (Kd.R_reads' HO_16.out).2.1); rintro e w93 ⟨v273, rfl, ho0, hb⟩; refine ⟨_, rfl, ?_⟩; have n0_ := Aside0.mk (Kd.V_elder' (by (with_reducible repeat (first | apply Kd.V_alloc | apply Kd.V_drewN | apply Kd.V_drew)); exact HO_0.out) (Kd.R_base ho0) hb); have n1_ := Aside0.mk (Kd.R_elder' (by (with_reducible repeat (first | apply Kd.R_alloc | apply Kd.R_drewN | apply Kd.R_drew)); exact HO_16.out) (Kd.R_base ho0) hb); have n2_ := Aside0.mk (Kd.R_lower (Kd.R_newB (Kd.R_new' (Kd.R_newM (M := fun k_ => (w.heap.size ≤ k_)) ho0 (below_size (by repeat (first | (with_reducible first | exact HB.out | apply below_alloc | apply pw_below_drewN | apply below_drew1 | refine below_set ?_ GE266.out | refine below_set ?_ GE271.out) | exact HB.out))) (fun k_ h_ => h_)) (Kd.R_lt (by (with_reducible repeat (first | apply Kd.R_alloc | apply Kd.R_drewN | apply Kd.R_drew)); exact HO_16.out))) (g := gb266) (o := .cells #[.int .u8 ((rd_T24 x0_3 t247).f0), .int .i64 ((rd_T24 x0_3 t247).f1), .int .i64 ((rd_T24 x0_3 t247).f2)] 24 (0, 0)) (by (with_reducible repeat (first | refine blk_drewN ?_ _ | refine blk_drew ?_ | refine blk_alloc ?_ _)); exact BK266.out)) (below_size (by repeat (first | (with_reducible first | exact HB.out | apply below_alloc | apply pw_below_drewN | apply below_drew1 | refine below_set ?_ GE266.out | refine below_set ?_ GE271.out) | exact HB.out)))); have n3_ := Aside0.mk (blk_below (g := gb266) (o := .cells #[.int .u8 ((rd_T24 x0_3 t247).f0), .int .i64 ((rd_T24 x0_3 t247).f1), .int .i64 ((rd_T24 x0_3 t247).f2)] 24 (0, 0)) (by (with_reducible repeat (first | refine blk_drewN ?_ _ | refine blk_drew ?_ | refine blk_alloc ?_ _)); exact BK266.out) hb); have n4_ := Aside0.mk (blk_below (g := gb271) (o := .cells #[.int .i64 1, .int .i64 t247, .int .u8 ((rd_T24 x0_3 t247).f0), .int .i64 ((rd_T24 x0_3 t247).f1), .int .i64 ((rd_T24 x0_3 t247).f2)] 30 (0, 0)) (by (with_reducible repeat (first | refine blk_drewN ?_ _ | refine blk_drew ?_ | refine blk_alloc ?_ _)); exact BK271.out) hb); have n5_ := Aside0.mk (below_step (by repeat (first | (with_reducible first | exact HB.out | apply below_alloc | apply pw_below_drewN | apply below_drew1 | refine below_set ?_ GE266.out | refine below_set ?_ GE271.out) | exact HB.out)) hb); clear HO_0; clear HO_16; clear BK266; clear BK271; clear HB; have HO_0 := n0_; have HO_16 := n1_; have HO274 := n2_; have BK266 := n3_; have BK271 := n4_; have HB := n5_; clear n0_ n1_ n2_ n3_ n4_ n5_; (try clear hb); (try clear hb2); (try clear hk); (try clear hi); (try clear ho0); obtain ⟨Ao94, co94, eo94⟩ := Kd.R_slice HO274.out; subst eo94))
                                              go_ret
                                              exact ⟨by first | rfl | (simp [errW_none, errW_some] <;> rfl) | (simp [*, errW_none, errW_some] <;> rfl), by repeat (first | (with_reducible first | exact HB.out | apply below_alloc | apply pw_below_drewN | apply below_drew1 | refine below_set ?_ GE266.out | refine below_set ?_ GE271.out) | exact HB.out)⟩
                            · rw [if_neg c41] at H
                              exact absurd H (by simp)
                          · rw [if_neg c40] at H
                            exact absurd H (by simp)

end Go.Proofs.Ytjdhoipaanlipaa.Q
