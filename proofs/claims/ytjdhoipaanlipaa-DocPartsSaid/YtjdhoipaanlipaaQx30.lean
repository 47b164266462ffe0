/- Go functions of the seat, each as a Lean function that tells its answer, and the proof that the call gives it. Condition: the arguments are read as lists. Laid by a program of this session. -/
import Derived.Test.YtjdhoipaanlipaaQx0
import Derived.Test.YtjdhoipaanlipaaQx15
import Derived.Test.YtjdhoipaanlipaaQx20
import Derived.Test.YtjdhoipaanlipaaQx21
import Derived.Test.YtjdhoipaanlipaaQx27
import Derived.Test.YtjdhoipaanlipaaQx29
namespace Go.Proofs.Ytjdhoipaanlipaa.Q
open Go.RowKit Go.Proofs.YtjdhoipaanlipaaW.PrintWords Go.Proofs.YtjdhoipaanlipaaW.PrintLast Go.Proofs.YtjdhoipaanlipaaW.PrintMore
attribute [local go_sem] max2_int min2_int max_two min_two max_three min_three max_four min_four   -- for this text's walks alone
set_option linter.unusedVariables false
set_option linter.unusedSimpArgs false

/-! ### jotterlaw04_DocParts: function 9 -/
mutual
def jotterlaw04_DocParts.j0 : Nat → List (S56) → List (S30) → Option (Bool)
  | 0, _, _ => none
  | k + 1, x0, x1 => jotterlaw04_DocParts.l0 k x0 x1 ([] : List (S30)) 0 0
def jotterlaw04_DocParts.l0 : Nat → List (S56) → List (S30) → List (S30) → Int → Int → Option (Bool)
  | 0, _, _, _, _, _ => none
  | k + 1, x0, x1, x5, x6, x7 => if x7 < (x0.length : Int) then (if 0 ≤ x7 then ((jotterlaw04_made.f k ((rd_T56 x0 x7).f0) ((rd_T56 x0 x7).f1) ((rd_T56 x0 x7).f2) x7 x6).bind fun bt343 => (if x5.length < 3518437208883 then ((some (x5 ++ [(⟨bt343.1, bt343.2.1, bt343.2.2.1, bt343.2.2.2.1, bt343.2.2.2.2⟩ : S30)] : List (S30))).bind fun y349 => (if bt343.1 = 2 then (jotterlaw04_DocParts.l0 k x0 x1 y349 (wrap64 (x6 - 1)) (wrap64 (x7 + 1))) else (jotterlaw04_DocParts.l0 k x0 x1 y349 (wrap64 (x6 + 1)) (wrap64 (x7 + 1))))) else (none))) else (none)) else ((doc_Replay.f k x5).bind fun bt352 => (if bt352.2.2 = 0 then (if bt352.2.1 = (x5.length : Int) then (jotterlaw04_DocParts.j2 k x1 x5 bt352.1 ((bt352.1.length : Int) != x6)) else (jotterlaw04_DocParts.j2 k x1 x5 bt352.1 true)) else (jotterlaw04_DocParts.j2 k x1 x5 bt352.1 true)))
def jotterlaw04_DocParts.j2 : Nat → List (S30) → List (S30) → List (S24) → Bool → Option (Bool)
  | 0, _, _, _, _ => none
  | k + 1, x1, x5, x9, x70 => if x70 = true then (some false) else (jotterlaw04_DocParts.l1 k x1 x5 x9 x5 0)
def jotterlaw04_DocParts.l1 : Nat → List (S30) → List (S30) → List (S24) → List (S30) → Int → Option (Bool)
  | 0, _, _, _, _, _ => none
  | k + 1, x1, x5, x9, x12, x13 => if x13 < (x1.length : Int) then (if 0 ≤ x13 then (if x12.length < 3518437208883 then (jotterlaw04_DocParts.l1 k x1 x5 x9 (x12 ++ [(⟨(rd_T30 x1 x13).f0, (rd_T30 x1 x13).f1, (rd_T30 x1 x13).f2, (rd_T30 x1 x13).f3, (rd_T30 x1 x13).f4⟩ : S30)]) (wrap64 (x13 + 1))) else (none)) else (none)) else ((doc_Replay.f k x12).bind fun bt361 => (jotterlaw04_DocParts.l2 k x1 x5 x9 x12 bt361.1 bt361.2.1 bt361.2.2 0))
def jotterlaw04_DocParts.l2 : Nat → List (S30) → List (S30) → List (S24) → List (S30) → List (S24) → Int → Int → Int → Option (Bool)
  | 0, _, _, _, _, _, _, _, _ => none
  | k + 1, x1, x5, x9, x12, x14, x15, x16, x17 => if x17 < (x1.length : Int) then (if 0 ≤ x17 then ((doc_Apply.f k x9 ((rd_T30 x1 x17).f0) ((rd_T30 x1 x17).f1) ((rd_T30 x1 x17).f2) ((rd_T30 x1 x17).f3) ((rd_T30 x1 x17).f4)).bind fun bt368 => (if bt368.2 = 0 then (jotterlaw04_DocParts.l2 k x1 x5 bt368.1 x12 x14 x15 x16 (wrap64 (x17 + 1))) else (if x16 = bt368.2 then (if x15 = (wrap64 ((x5.length : Int) + x17)) then ((jotterlaw04_same.f k x14 x9).bind fun t372 => (some t372)) else (some false)) else (some false)))) else (none)) else (if x16 = 0 then (if x15 = (x12.length : Int) then ((jotterlaw04_same.f k x14 x9).bind fun t366 => (some t366)) else (some false)) else (some false))
end
def jotterlaw04_DocParts.f (k : Nat) (l0 : List (S56)) (l1 : List (S30)) : Option (Bool) := (jotterlaw04_short.f l1).bind fun t334 => (if (l0.length : Int) > 60 then (if 60 ≤ (l0.length : Int) then (jotterlaw04_DocParts.j0 k (l0.take 60) t334) else (none)) else (jotterlaw04_DocParts.j0 k l0 t334))
theorem jotterlaw04_DocParts.mono_l : ∀ k, (∀ y0 y1, LeO (jotterlaw04_DocParts.j0 k y0 y1) (jotterlaw04_DocParts.j0 (k + 1) y0 y1)) ∧ (∀ y0 y1 y2 y3 y4, LeO (jotterlaw04_DocParts.l0 k y0 y1 y2 y3 y4) (jotterlaw04_DocParts.l0 (k + 1) y0 y1 y2 y3 y4)) ∧ (∀ y0 y1 y2 y3, LeO (jotterlaw04_DocParts.j2 k y0 y1 y2 y3) (jotterlaw04_DocParts.j2 (k + 1) y0 y1 y2 y3)) ∧ (∀ y0 y1 y2 y3 y4, LeO (jotterlaw04_DocParts.l1 k y0 y1 y2 y3 y4) (jotterlaw04_DocParts.l1 (k + 1) y0 y1 y2 y3 y4)) ∧ (∀ y0 y1 y2 y3 y4 y5 y6 y7, LeO (jotterlaw04_DocParts.l2 k y0 y1 y2 y3 y4 y5 y6 y7) (jotterlaw04_DocParts.l2 (k + 1) y0 y1 y2 y3 y4 y5 y6 y7))
  | 0 => ⟨fun _ _ r h => by simp [jotterlaw04_DocParts.j0] at h, fun _ _ _ _ _ r h => by simp [jotterlaw04_DocParts.l0] at h, fun _ _ _ _ r h => by simp [jotterlaw04_DocParts.j2] at h, fun _ _ _ _ _ r h => by simp [jotterlaw04_DocParts.l1] at h, fun _ _ _ _ _ _ _ _ r h => by simp [jotterlaw04_DocParts.l2] at h⟩
  | k + 1 => by
    obtain ⟨ih0, ih1, ih2, ih3, ih4⟩ := jotterlaw04_DocParts.mono_l k
    refine ⟨?_, ?_, ?_, ?_, ?_⟩
    · intro y0 y1
      unfold jotterlaw04_DocParts.j0
      repeat' first
      | (with_reducible exact ih0 _ _)
      | (with_reducible exact ih1 _ _ _ _ _)
      | (with_reducible exact ih2 _ _ _ _)
      | (with_reducible exact ih3 _ _ _ _ _)
      | (with_reducible exact ih4 _ _ _ _ _ _ _ _)
      | (with_reducible exact doc_Apply.mono _ _ _ _ _ _ _)
      | (with_reducible exact doc_Replay.mono _ _)
      | (with_reducible exact jotterlaw04_made.mono _ _ _ _ _ _)
      | (with_reducible exact jotterlaw04_same.mono _ _ _)
      | (with_reducible exact LeO.refl _)
      | (with_reducible exact LeO.none _)
      | (with_reducible refine LeO.ite ?_ ?_)
      | (with_reducible refine LeO.bind ?_ (fun _ => ?_))
      | exact ih0 _ _
      | exact ih1 _ _ _ _ _
      | exact ih2 _ _ _ _
      | exact ih3 _ _ _ _ _
      | exact ih4 _ _ _ _ _ _ _ _
      | exact doc_Apply.mono _ _ _ _ _ _ _
      | exact doc_Replay.mono _ _
      | exact jotterlaw04_made.mono _ _ _ _ _ _
      | exact jotterlaw04_same.mono _ _ _
      | exact LeO.none _
      | refine LeO.ite ?_ ?_
      | refine LeO.bind ?_ (fun _ => ?_)
    · intro y0 y1 y2 y3 y4
      unfold jotterlaw04_DocParts.l0
      repeat' first
      | (with_reducible exact ih0 _ _)
      | (with_reducible exact ih1 _ _ _ _ _)
      | (with_reducible exact ih2 _ _ _ _)
      | (with_reducible exact ih3 _ _ _ _ _)
      | (with_reducible exact ih4 _ _ _ _ _ _ _ _)
      | (with_reducible exact doc_Apply.mono _ _ _ _ _ _ _)
      | (with_reducible exact doc_Replay.mono _ _)
      | (with_reducible exact jotterlaw04_made.mono _ _ _ _ _ _)
      | (with_reducible exact jotterlaw04_same.mono _ _ _)
      | (with_reducible exact LeO.refl _)
      | (with_reducible exact LeO.none _)
      | (with_reducible refine LeO.ite ?_ ?_)
      | (with_reducible refine LeO.bind ?_ (fun _ => ?_))
      | exact ih0 _ _
      | exact ih1 _ _ _ _ _
      | exact ih2 _ _ _ _
      | exact ih3 _ _ _ _ _
      | exact ih4 _ _ _ _ _ _ _ _
      | exact doc_Apply.mono _ _ _ _ _ _ _
      | exact doc_Replay.mono _ _
      | exact jotterlaw04_made.mono _ _ _ _ _ _
      | exact jotterlaw04_same.mono _ _ _
      | exact LeO.none _
      | refine LeO.ite ?_ ?_
      | refine LeO.bind ?_ (fun _ => ?_)
    · intro y0 y1 y2 y3
      unfold jotterlaw04_DocParts.j2
      repeat' first
      | (with_reducible exact ih0 _ _)
      | (with_reducible exact ih1 _ _ _ _ _)
      | (with_reducible exact ih2 _ _ _ _)
      | (with_reducible exact ih3 _ _ _ _ _)
      | (with_reducible exact ih4 _ _ _ _ _ _ _ _)
      | (with_reducible exact doc_Apply.mono _ _ _ _ _ _ _)
      | (with_reducible exact doc_Replay.mono _ _)
      | (with_reducible exact jotterlaw04_made.mono _ _ _ _ _ _)
      | (with_reducible exact jotterlaw04_same.mono _ _ _)
      | (with_reducible exact LeO.refl _)
      | (with_reducible exact LeO.none _)
      | (with_reducible refine LeO.ite ?_ ?_)
      | (with_reducible refine LeO.bind ?_ (fun _ => ?_))
      | exact ih0 _ _
      | exact ih1 _ _ _ _ _
      | exact ih2 _ _ _ _
      | exact ih3 _ _ _ _ _
      | exact ih4 _ _ _ _ _ _ _ _
      | exact doc_Apply.mono _ _ _ _ _ _ _
      | exact doc_Replay.mono _ _
      | exact jotterlaw04_made.mono _ _ _ _ _ _
      | exact jotterlaw04_same.mono _ _ _
      | exact LeO.none _
      | refine LeO.ite ?_ ?_
      | refine LeO.bind ?_ (fun _ => ?_)
    · intro y0 y1 y2 y3 y4
      unfold jotterlaw04_DocParts.l1
      repeat' first
      | (with_reducible exact ih0 _ _)
      | (with_reducible exact ih1 _ _ _ _ _)
      | (with_reducible exact ih2 _ _ _ _)
      | (with_reducible exact ih3 _ _ _ _ _)
      | (with_reducible exact ih4 _ _ _ _ _ _ _ _)
      | (with_reducible exact doc_Apply.mono _ _ _ _ _ _ _)
      | (with_reducible exact doc_Replay.mono _ _)
      | (with_reducible exact jotterlaw04_made.mono _ _ _ _ _ _)
      | (with_reducible exact jotterlaw04_same.mono _ _ _)
      | (with_reducible exact LeO.refl _)
      | (with_reducible exact LeO.none _)
      | (with_reducible refine LeO.ite ?_ ?_)
      | (with_reducible refine LeO.bind ?_ (fun _ => ?_))
      | exact ih0 _ _
      | exact ih1 _ _ _ _ _
      | exact ih2 _ _ _ _
      | exact ih3 _ _ _ _ _
      | exact ih4 _ _ _ _ _ _ _ _
      | exact doc_Apply.mono _ _ _ _ _ _ _
      | exact doc_Replay.mono _ _
      | exact jotterlaw04_made.mono _ _ _ _ _ _
      | exact jotterlaw04_same.mono _ _ _
      | exact LeO.none _
      | refine LeO.ite ?_ ?_
      | refine LeO.bind ?_ (fun _ => ?_)
    · intro y0 y1 y2 y3 y4 y5 y6 y7
      unfold jotterlaw04_DocParts.l2
      repeat' first
      | (with_reducible exact ih0 _ _)
      | (with_reducible exact ih1 _ _ _ _ _)
      | (with_reducible exact ih2 _ _ _ _)
      | (with_reducible exact ih3 _ _ _ _ _)
      | (with_reducible exact ih4 _ _ _ _ _ _ _ _)
      | (with_reducible exact doc_Apply.mono _ _ _ _ _ _ _)
      | (with_reducible exact doc_Replay.mono _ _)
      | (with_reducible exact jotterlaw04_made.mono _ _ _ _ _ _)
      | (with_reducible exact jotterlaw04_same.mono _ _ _)
      | (with_reducible exact LeO.refl _)
      | (with_reducible exact LeO.none _)
      | (with_reducible refine LeO.ite ?_ ?_)
      | (with_reducible refine LeO.bind ?_ (fun _ => ?_))
      | exact ih0 _ _
      | exact ih1 _ _ _ _ _
      | exact ih2 _ _ _ _
      | exact ih3 _ _ _ _ _
      | exact ih4 _ _ _ _ _ _ _ _
      | exact doc_Apply.mono _ _ _ _ _ _ _
      | exact doc_Replay.mono _ _
      | exact jotterlaw04_made.mono _ _ _ _ _ _
      | exact jotterlaw04_same.mono _ _ _
      | exact LeO.none _
      | refine LeO.ite ?_ ?_
      | refine LeO.bind ?_ (fun _ => ?_)
theorem jotterlaw04_DocParts.mono : ∀ a0 a1 k, LeO (jotterlaw04_DocParts.f k a0 a1) (jotterlaw04_DocParts.f (k + 1) a0 a1) := by
  intro a0 a1 k
  obtain ⟨ih0, ih1, ih2, ih3, ih4⟩ := jotterlaw04_DocParts.mono_l k
  unfold jotterlaw04_DocParts.f
  repeat' first
      | (with_reducible exact ih0 _ _)
      | (with_reducible exact ih1 _ _ _ _ _)
      | (with_reducible exact ih2 _ _ _ _)
      | (with_reducible exact ih3 _ _ _ _ _)
      | (with_reducible exact ih4 _ _ _ _ _ _ _ _)
      | (with_reducible exact doc_Apply.mono _ _ _ _ _ _ _)
      | (with_reducible exact doc_Replay.mono _ _)
      | (with_reducible exact jotterlaw04_made.mono _ _ _ _ _ _)
      | (with_reducible exact jotterlaw04_same.mono _ _ _)
      | (with_reducible exact LeO.refl _)
      | (with_reducible exact LeO.none _)
      | (with_reducible refine LeO.ite ?_ ?_)
      | (with_reducible refine LeO.bind ?_ (fun _ => ?_))
      | exact ih0 _ _
      | exact ih1 _ _ _ _ _
      | exact ih2 _ _ _ _
      | exact ih3 _ _ _ _ _
      | exact ih4 _ _ _ _ _ _ _ _
      | exact doc_Apply.mono _ _ _ _ _ _ _
      | exact doc_Replay.mono _ _
      | exact jotterlaw04_made.mono _ _ _ _ _ _
      | exact jotterlaw04_same.mono _ _ _
      | exact LeO.none _
      | refine LeO.ite ?_ ?_
      | refine LeO.bind ?_ (fun _ => ?_)
set_option maxHeartbeats 8000000 in
set_option maxRecDepth 100000 in
theorem jotterlaw04_DocParts.calls (k : Nat) (P0_ : Nat → Prop) (A0 : Option Addr) (c0 : Nat) (l0 : List (S56)) (P1_ : Nat → Prop) (A1 : Option Addr) (c1 : Nat) (l1 : List (S30)) (r : Bool) (w : World) (hs0 : Kd.V k56 56 w w.heap.size (fun k_ => P0_ k_) (.slice A0 l0.length c0) l0) (hs1 : Kd.V k30 30 w w.heap.size (fun k_ => P1_ k_) (.slice A1 l1.length c1) l1) (h : jotterlaw04_DocParts.f k l0 l1 = some r) :
    Calls Try.prog 9 #[.slice A0 l0.length c0, .slice A1 l1.length c1] w fun e w' => e = .returned (.bool r) ∧ Below w.heap.size w w' := by
  have hu56 := Try.underlying56
  have hu30 := Try.underlying30
  have HO0 := Aside0.mk (show Kd.V k56 56 w w.heap.size (fun k_ => ((P0_ k_ ∨ P1_ k_) ∨ w.heap.size ≤ k_)) (.slice A0 l0.length c0) l0 from Kd.V_mono hs0 (fun k_ hk => .inl (.inl hk)))
  have HO1 := Aside0.mk (show Kd.V k30 30 w w.heap.size (fun k_ => ((P0_ k_ ∨ P1_ k_) ∨ w.heap.size ≤ k_)) (.slice A1 l1.length c1) l1 from Kd.V_mono hs1 (fun k_ hk => .inl (.inr hk)))
  have HB := Aside0.mk (Below.refl w.heap.size w)
  have H : ((jotterlaw04_short.f l1).bind fun t334 => (if (l0.length : Int) > 60 then (if 60 ≤ (l0.length : Int) then (jotterlaw04_DocParts.j0 k (l0.take 60) t334) else (none)) else (jotterlaw04_DocParts.j0 k l0 t334))) = some r := h
  clear h
  replace H := Option.bind_eq_some_iff.mp H
  obtain ⟨t334, A30, H⟩ := H
  replace H : (if (l0.length : Int) > 60 then (if 60 ≤ (l0.length : Int) then (jotterlaw04_DocParts.j0 k (l0.take 60) t334) else (none)) else (jotterlaw04_DocParts.j0 k l0 t334)) = some r := H
  have A3 := Aside0.mk A30
  clear A30
  have HC4 := Aside0.mk H
  clear H
  go_enter Try.func9, Try.ntmps9
  go_upto_if 24 with (first | ((with_reducible refine gate_callee (f := 22) rfl ?_); refine goesL_ (some 21) rfl rfl Try.func22 (by kernel_rfl) rfl #[.slice A1 l1.length c1] rfl (by (try simp only [List.map_toArray, List.map_cons, List.map_nil]); first | done | rfl | (simp only [List.length_drop, List.length_take]; rfl)) ?_; (with_reducible refine (jotterlaw04_short.calls (fun k_ => ((P0_ k_ ∨ P1_ k_) ∨ w.heap.size ≤ k_)) _ _ l1 t334 _ ?side1 A3.out).mono ?_); (case side1 => exact HO1.out); rintro e w5 ⟨v335, rfl, ho0, hb⟩; refine ⟨_, rfl, ?_⟩; have n0_ := Aside0.mk (Kd.V_below (by (with_reducible repeat (first | apply Kd.V_alloc | apply Kd.V_drewN | apply Kd.V_drew)); exact HO0.out) hb); have n1_ := Aside0.mk (Kd.V_below (by (with_reducible repeat (first | apply Kd.V_alloc | apply Kd.V_drewN | apply Kd.V_drew)); exact HO1.out) hb); have n2_ := Aside0.mk (Kd.V_lower (Kd.V_mono (ok' := fun k_ => ((P0_ k_ ∨ P1_ k_) ∨ w.heap.size ≤ k_)) ho0 (fun k_ hk_ => Or.elim hk_ (fun hs_ => hs_) (fun hn_ => (.inr (Nat.le_trans (below_size (by repeat (first | (with_reducible first | exact HB.out | apply below_alloc | apply pw_below_drewN | apply below_drew1) | exact HB.out))) hn_))))) (below_size (by repeat (first | (with_reducible first | exact HB.out | apply below_alloc | apply pw_below_drewN | apply below_drew1) | exact HB.out)))); have n3_ := Aside0.mk (below_step (by repeat (first | (with_reducible first | exact HB.out | apply below_alloc | apply pw_below_drewN | apply below_drew1) | exact HB.out)) hb); clear HO0; clear HO1; clear HB; have HO0 := n0_; have HO1 := n1_; have HO336 := n2_; have HB := n3_; clear n0_ n1_ n2_ n3_; (try clear hb); (try clear hb2); (try clear hk); (try clear hi); (try clear ho0)))
  (try simp only [Act.put, List.setIfInBounds_toArray, List.set_cons_zero, List.set_cons_succ])
  go_cut [0] (fun v0 wc => ∃ (kq : Nat) (x0_3 : List (S56)), Aside0 (jotterlaw04_DocParts.j0 kq x0_3 t334 = some r) ∧ Aside0 (kq ≤ k) ∧ Aside0 (Kd.V k56 56 wc w.heap.size (fun k_ => ((P0_ k_ ∨ P1_ k_) ∨ w.heap.size ≤ k_)) v0 x0_3) ∧ Aside0 (Kd.V k30 30 wc w.heap.size (fun k_ => ((P0_ k_ ∨ P1_ k_) ∨ w.heap.size ≤ k_)) v335 t334) ∧ Aside0 (Below w.heap.size w wc))
  case first =>
    have H := HC4.out
    clear HC4
    by_cases c6 : (l0.length : Int) > 60
    · rw [if_pos c6] at H
      have c6b0 : decide (60 < (l0.length : Int)) = true := decide_eq_true c6
      have c6b1 : decide (60 < l0.length) = true := decide_eq_true (by omega)
      clear c6
      (first | rw [c6b0] | (simp only [i64_w, i32_w]; rw [c6b0]) | skip)
      by_cases c7 : 60 ≤ (l0.length : Int)
      · rw [if_pos c7] at H
        have c7b0 := eq_true c7
        have c7b1 : decide (60 ≤ (l0.length : Int)) = true := decide_eq_true c7
        clear c7
        obtain ⟨y337, hy337⟩ : ∃ y_ : List (S56), y_ = (l0.take 60) := ⟨_, rfl⟩
        replace H : (jotterlaw04_DocParts.j0 k y337 t334) = some r := by first | (rw [hy337]; with_reducible exact H) | (have H2_ := (Option.bind_some _ _).symm.trans H; rw [hy337]; with_reducible exact H2_) | (have H2_ := (Option.bind_some _ _).symm.trans H; with_reducible exact H2_) | with_reducible exact H | (rw [hy337]; exact H) | exact H
        have Ny337 := Aside0.mk hy337
        clear hy337
        have H' := Aside0.mk H
        clear H
        have q8 : (60 : Int) ≤ ((l0.length : Int) : Int) := of_decide_eq_true (by first | (with_reducible assumption) | assumption)
        obtain ⟨i08, hi08, _, hsz8, _⟩ := info_parts info56
        have hroom8 : l0.length ≤ c0 := (Kd.V_reads' HO0.out).2.1
        have hC8 : Kd.F k56 _ _ A0 l0.length l0 := (Kd.V_at (base := w.heap.size) HO0.out).2.2
        have hcut8 := cut_to (P := Try.prog) 53 56 .i64 Try.underlying53 hi08 A0 l0.length c0 60 (by omega) q8 hroom8
        have hr8 := Kd.F_take (m := 60) hC8 (by omega)
        have hy8 : y337.length = (60 : Int).toNat := (by rw [Ny337.out, List.length_take]; omega)
        rw [← Ny337.out] at hr8
        rw [← hy8] at hcut8
        have HO341 := Aside0.mk (show Kd.V k56 56 _ w.heap.size _ (.slice A0 y337.length c0) y337 from Kd.V_mk (by omega) hr8)
        have HC341 := Aside0.mk (show y337.length ≤ c0 from by omega)
        clear hr8 hC8 hroom8 hi08 hsz8
        have KY8 := Aside0.mk hy8
        clear hy8
        replace q8 := eq_true q8
        go_wp2
        go_meet
        case rel => exact ⟨_, (y337), H', ⟨by first | omega | exact Nat.le_refl _⟩, ⟨by (with_reducible repeat (first | apply Kd.V_alloc | apply Kd.V_drewN | apply Kd.V_drew)); exact HO341.out⟩, ⟨by (with_reducible repeat (first | apply Kd.V_alloc | apply Kd.V_drewN | apply Kd.V_drew)); exact HO336.out⟩, ⟨by repeat (first | (with_reducible first | exact HB.out | apply below_alloc | apply pw_below_drewN | apply below_drew1) | exact HB.out)⟩⟩
      · rw [if_neg c7] at H
        exact absurd H (by simp)
    · rw [if_neg c6] at H
      have c6b0 : decide (60 < (l0.length : Int)) = false := decide_eq_false c6
      have c6b1 : decide (60 < l0.length) = false := decide_eq_false (by omega)
      clear c6
      (first | rw [c6b0] | (simp only [i64_w, i32_w]; rw [c6b0]) | skip)
      have H' := Aside0.mk H
      clear H
      go_wp2
      go_meet
      case rel => exact ⟨_, (l0), H', ⟨by first | omega | exact Nat.le_refl _⟩, ⟨by (with_reducible repeat (first | apply Kd.V_alloc | apply Kd.V_drewN | apply Kd.V_drew)); exact HO0.out⟩, ⟨by (with_reducible repeat (first | apply Kd.V_alloc | apply Kd.V_drewN | apply Kd.V_drew)); exact HO336.out⟩, ⟨by repeat (first | (with_reducible first | exact HB.out | apply below_alloc | apply pw_below_drewN | apply below_drew1) | exact HB.out)⟩⟩
  case rest =>
    clear HC4
    try clear c1
    try clear c2
    try clear p2
    try clear c6
    try clear c6b0
    try clear c6b1
    try clear c7
    try clear c7b0
    try clear c7b1
    try clear q8
    try clear q8
    obtain ⟨kq, x0_3, HA, HJ3, HO_0, HO_1, HB⟩ := hcut
    cases kq with
    | zero => exact absurd HA.out (by simp [jotterlaw04_DocParts.j0])
    | succ kj3 =>
      have H := HA.out
      clear HA
      simp only [jotterlaw04_DocParts.j0] at H
      have H' := Aside0.mk H
      clear H
      go_wp2
      go_loopg [5, 6, 7] kj3 (fun kq v5 v6 v7 w' => ∃ (x5_2 : List (S30)) (x6_2 : Int) (x7_2 : Int), v6 = .int .i64 x6_2 ∧ v7 = .int .i64 x7_2 ∧ Aside0 (jotterlaw04_DocParts.l0 kq x0_3 t334 x5_2 x6_2 x7_2 = some r) ∧ Aside0 (kq ≤ kj3) ∧ Aside0 (Kd.V k56 56 w' w.heap.size (fun k_ => ((P0_ k_ ∨ P1_ k_) ∨ w.heap.size ≤ k_) ∧ some k_ ≠ (v5 : Value).ownBlock) u0 x0_3) ∧ Aside0 (Kd.V k30 30 w' w.heap.size (fun k_ => ((P0_ k_ ∨ P1_ k_) ∨ w.heap.size ≤ k_) ∧ some k_ ≠ (v5 : Value).ownBlock) v335 t334) ∧ Aside0 (Kd.R k30 30 w' w.heap.size (fun k_ => (w.heap.size ≤ k_)) v5 x5_2) ∧ Aside0 (Below w.heap.size w w'))
      case atStart => exact ⟨(([] : List (S30))), (0), (0), (by first | rfl | (simp; done) | (simp [*]; done)), (by first | rfl | (simp; done) | (simp [*]; done)), H', ⟨Nat.le_refl _⟩, ⟨by (with_reducible repeat (first | apply Kd.V_alloc | apply Kd.V_drewN | apply Kd.V_drew)); exact Kd.V_mono HO_0.out (fun _ hk => ⟨hk, (by simp [Value.ownBlock])⟩)⟩, ⟨by (with_reducible repeat (first | apply Kd.V_alloc | apply Kd.V_drewN | apply Kd.V_drew)); exact Kd.V_mono HO_1.out (fun _ hk => ⟨hk, (by simp [Value.ownBlock])⟩)⟩, ⟨by first | exact Kd.R_nil _ _ _ _ _ | exact Kd.N_nil _ _ _ _ _ | exact Kd.V_nil _ _ _ _ _ | exact Kd.Q_nil _ _ _ _ _ | exact Kd.S_nil _ _ _ _ _⟩, ⟨by repeat (first | (with_reducible first | exact HB.out | apply below_alloc | apply pw_below_drewN | apply below_drew1) | exact HB.out)⟩⟩
      case round =>
        clear H'
        try clear c1
        try clear c2
        try clear p2
        try clear c6
        try clear c6b0
        try clear c6b1
        try clear c7
        try clear c7b0
        try clear c7b1
        try clear q8
        try clear p2
        try clear q8
        obtain ⟨x5_2, x6_2, x7_2, rfl, rfl, HA, HK2, HO_0, HO_1, HO_5, HB⟩ := hrel
        cases gk with
        | zero => exact absurd HA.out (by simp [jotterlaw04_DocParts.l0])
        | succ k2 =>
          have H := HA.out
          clear HA
          simp only [jotterlaw04_DocParts.l0] at H
          by_cases c9 : x7_2 < (x0_3.length : Int)
          · rw [if_pos c9] at H
            have c9b0 : decide (x7_2 < (x0_3.length : Int)) = true := decide_eq_true c9
            clear c9
            by_cases c10 : 0 ≤ x7_2
            · rw [if_pos c10] at H
              have c10b0 : decide (0 ≤ x7_2) = true := decide_eq_true c10
              clear c10
              replace H := Option.bind_eq_some_iff.mp H
              obtain ⟨⟨t343, t344, t345, t346, t347⟩, A110, H⟩ := H
              replace H : (if x5_2.length < 3518437208883 then ((some (x5_2 ++ [(⟨t343, t344, t345, t346, t347⟩ : S30)] : List (S30))).bind fun y349 => (if t343 = 2 then (jotterlaw04_DocParts.l0 k2 x0_3 t334 y349 (wrap64 (x6_2 - 1)) (wrap64 (x7_2 + 1))) else (jotterlaw04_DocParts.l0 k2 x0_3 t334 y349 (wrap64 (x6_2 + 1)) (wrap64 (x7_2 + 1))))) else (none)) = some r := H
              have A11 := Aside0.mk A110
              clear A110
              by_cases c12 : x5_2.length < 3518437208883
              · rw [if_pos c12] at H
                have LMc12 := Aside0.mk c12
                clear c12
                obtain ⟨y349, hy349⟩ : ∃ y_ : List (S30), y_ = (x5_2 ++ [(⟨t343, t344, t345, t346, t347⟩ : S30)]) := ⟨_, rfl⟩
                replace H : (if t343 = 2 then (jotterlaw04_DocParts.l0 k2 x0_3 t334 y349 (wrap64 (x6_2 - 1)) (wrap64 (x7_2 + 1))) else (jotterlaw04_DocParts.l0 k2 x0_3 t334 y349 (wrap64 (x6_2 + 1)) (wrap64 (x7_2 + 1)))) = some r := by first | (rw [hy349]; with_reducible exact H) | (have H2_ := (Option.bind_some _ _).symm.trans H; rw [hy349]; with_reducible exact H2_) | (have H2_ := (Option.bind_some _ _).symm.trans H; with_reducible exact H2_) | with_reducible exact H | (rw [hy349]; exact H) | exact H
                have Ny349 := Aside0.mk hy349
                clear hy349
                by_cases c13 : t343 = 2
                · rw [if_pos c13] at H
                  have c13b0 : (t343 == 2) = true := beq_iff_eq.mpr c13
                  have c13b1 : (t343 != 2) = false := bne_eq_false_iff_eq.mpr c13
                  clear c13
                  have H' := Aside0.mk H
                  clear H
                  obtain ⟨Ao14, co14, eo14⟩ := Kd.V_slice HO_0.out
                  subst eo14
                  have p342 : 0 ≤ (x7_2 : Int) := of_decide_eq_true (by first | (with_reducible assumption) | assumption)
                  have q342 : x7_2 < (x0_3.length : Int) := of_decide_eq_true (by first | (with_reducible assumption) | assumption)
                  obtain ⟨ad342, e342, hx342_0, hx342_1, hx342_2⟩ := at_T56 (Kd.V_reads' HO_0.out).2.2 x7_2 p342 q342
                  cases e342
                  replace p342 := eq_true p342
                  replace q342 := eq_true q342
                  go_wp2_with (first | ((with_reducible refine gate_callee (f := 30) rfl ?_); refine goesL_ (some 39) rfl rfl Try.func30 (by kernel_rfl) rfl #[.agg #[.bool ((rd_T56 x0_3 x7_2).f0), .int .i64 ((rd_T56 x0_3 x7_2).f1), .int .u8 ((rd_T56 x0_3 x7_2).f2)], .int .i64 x7_2, .int .i64 x6_2] rfl (by (try simp only [List.map_toArray, List.map_cons, List.map_nil]); first | done | rfl | (simp only [List.length_drop, List.length_take]; rfl)) ?_; (with_reducible refine (jotterlaw04_made.calls k2 ((rd_T56 x0_3 x7_2).f0) ((rd_T56 x0_3 x7_2).f1) ((rd_T56 x0_3 x7_2).f2) x7_2 x6_2 t343 t344 t345 t346 t347 _ A11.out).mono ?_); rintro e w15 ⟨rfl, hb⟩; refine ⟨_, rfl, ?_⟩; have n0_ := Aside0.mk (Kd.V_below (by (with_reducible repeat (first | apply Kd.V_alloc | apply Kd.V_drewN | apply Kd.V_drew)); exact HO_0.out) hb); have n1_ := Aside0.mk (Kd.V_below (by (with_reducible repeat (first | apply Kd.V_alloc | apply Kd.V_drewN | apply Kd.V_drew)); exact HO_1.out) hb); have n2_ := Aside0.mk (Kd.R_below (by (with_reducible repeat (first | apply Kd.R_alloc | apply Kd.R_drewN | apply Kd.R_drew)); exact HO_5.out) hb); have n3_ := Aside0.mk (below_step (by repeat (first | (with_reducible first | exact HB.out | apply below_alloc | apply pw_below_drewN | apply below_drew1) | exact HB.out)) hb); clear HO_0; clear HO_1; clear HO_5; clear HB; have HO_0 := n0_; have HO_1 := n1_; have HO_5 := n2_; have HB := n3_; clear n0_ n1_ n2_ n3_; (try clear hb); (try clear hb2); (try clear hk); (try clear hi)) | ((with_reducible refine gate_dst (N := 8) rfl ?_); (try (refine gate_guard (by rfl) ?_; dsimp only)); refine box_event ?hg (N := 8) ?hd (cs := #[.int .i64 0, .int .i64 0, .int .u8 0, .int .i64 0, .int .i64 0]) (t := 30) ?hr ?_; (case hd => rfl); (case hg => rfl); (case hr => first | (go_simp; done) | (go_simp; rfl)); intro gb348 hg w16 hbox hb; have n0_ := Aside0.mk (Kd.V_below (Kd.V_elderB (by (with_reducible repeat (first | apply Kd.V_alloc | apply Kd.V_drewN | apply Kd.V_drew)); exact HO_0.out) gb348 (Nat.le_of_eq hg.symm)) hb); have n1_ := Aside0.mk (Kd.V_below (Kd.V_elderB (by (with_reducible repeat (first | apply Kd.V_alloc | apply Kd.V_drewN | apply Kd.V_drew)); exact HO_1.out) gb348 (Nat.le_of_eq hg.symm)) hb); have n2_ := Aside0.mk (Kd.R_below (Kd.R_elderB (by (with_reducible repeat (first | apply Kd.R_alloc | apply Kd.R_drewN | apply Kd.R_drew)); exact HO_5.out) gb348 (Nat.le_of_eq hg.symm)) hb); have n3_ := Aside0.mk (below_step (by repeat (first | (with_reducible first | exact HB.out | apply below_alloc | apply pw_below_drewN | apply below_drew1) | exact HB.out)) hb); have n4_ := Aside0.mk (hbox); have n5_ := Aside0.mk ((by rw [hg]; exact (below_size (by repeat (first | (with_reducible first | exact HB.out | apply below_alloc | apply pw_below_drewN | apply below_drew1) | exact HB.out))) : w.heap.size ≤ gb348)); have n6_ := Aside0.mk ((by rw [hg]; exact (below_size (by repeat (first | (with_reducible first | exact HB.out | apply below_alloc | apply pw_below_drewN | apply below_drew1) | exact HB.out))) : w.heap.size ≤ gb348)); clear HO_0; clear HO_1; clear HO_5; clear HB; have HO_0 := n0_; have HO_1 := n1_; have HO_5 := n2_; have HB := n3_; have BK348 := n4_; have GW348 := n5_; have GE348 := n6_; clear n0_ n1_ n2_ n3_ n4_ n5_ n6_; clear hb hbox hg; have hcz17_0 : w16.cell? ⟨gb348, 0, none⟩ = some (.int .i64 0) := (blk_cell BK348.out 0).trans rfl; have hcz17_1 : w16.cell? ⟨gb348, 1, none⟩ = some (.int .i64 0) := (blk_cell BK348.out 1).trans rfl; have hcz17_2 : w16.cell? ⟨gb348, 2, none⟩ = some (.int .u8 0) := (blk_cell BK348.out 2).trans rfl; have hcz17_3 : w16.cell? ⟨gb348, 3, none⟩ = some (.int .i64 0) := (blk_cell BK348.out 3).trans rfl; have hcz17_4 : w16.cell? ⟨gb348, 4, none⟩ = some (.int .i64 0) := (blk_cell BK348.out 4).trans rfl; have hfz17_0 := blk_frozen BK348.out 0; have hfz17_1 := blk_frozen BK348.out 1; have hfz17_2 := blk_frozen BK348.out 2; have hfz17_3 := blk_frozen BK348.out 3; have hfz17_4 := blk_frozen BK348.out 4) | ((with_reducible refine gate_builtin (b := .append) (xs := #[.tmp 40, .tmp 42]) rfl ?_); (try (refine gate_guard (by rfl) ?_; dsimp only)); at_builtin; refine Kd.R_append k30 (w0 := w) w.heap.size rfl (.tmp 40) (.tmp 42) 37 30 (.agg #[(.int .i64 0), (.int .i64 0), (.int .u8 0), (.int .i64 0), (.int .i64 0)]) 40 rfl Try.underlying37 info30 rfl (by decide) (by omega) u5 x5_2 (⟨t343, t344, t345, t346, t347⟩ : S30) [.int .i64 t343, .int .i64 t344, .int .u8 t345, .int .i64 t346, .int .i64 t347] (fun k_ => (w.heap.size ≤ k_) ∧ k_ ≠ gb348) (fun _ => False) rfl (by first | (go_simp; done) | (go_simp; rfl)) ?aP (fun _ hk => hk.elim) ?aF ?aO ?aB ?aS ?aL ?_; (case aP => exact k30_mkM _ _ _ (⟨t343, t344, t345, t346, t347⟩ : S30)); (case aB => exact (by repeat (first | (with_reducible first | exact HB.out | apply below_alloc | apply pw_below_drewN | apply below_drew1 | refine below_set ?_ GE348.out) | exact HB.out))); (case aF => exact (fun k_ hk => ⟨(Nat.le_trans (below_size (by repeat (first | (with_reducible first | exact HB.out | apply below_alloc | apply pw_below_drewN | apply below_drew1 | refine below_set ?_ GE348.out) | exact HB.out))) hk), Kd.freshB (g := gb348) (o := .cells #[.int .i64 t343, .int .i64 t344, .int .u8 t345, .int .i64 t346, .int .i64 t347] 30 (0, 0)) (by (with_reducible repeat (first | refine blk_drewN ?_ _ | refine blk_drew ?_ | refine blk_alloc ?_ _)); refine blk_put (cs := #[.int .i64 t343, .int .i64 t344, .int .u8 t345, .int .i64 t346, .int .i64 0]) ?_ 4 _ rfl; (with_reducible repeat (first | refine blk_drewN ?_ _ | refine blk_drew ?_ | refine blk_alloc ?_ _)); refine blk_put (cs := #[.int .i64 t343, .int .i64 t344, .int .u8 t345, .int .i64 0, .int .i64 0]) ?_ 3 _ rfl; (with_reducible repeat (first | refine blk_drewN ?_ _ | refine blk_drew ?_ | refine blk_alloc ?_ _)); refine blk_put (cs := #[.int .i64 t343, .int .i64 t344, .int .u8 0, .int .i64 0, .int .i64 0]) ?_ 2 _ rfl; (with_reducible repeat (first | refine blk_drewN ?_ _ | refine blk_drew ?_ | refine blk_alloc ?_ _)); refine blk_put (cs := #[.int .i64 t343, .int .i64 0, .int .u8 0, .int .i64 0, .int .i64 0]) ?_ 1 _ rfl; (with_reducible repeat (first | refine blk_drewN ?_ _ | refine blk_drew ?_ | refine blk_alloc ?_ _)); refine blk_put (cs := #[.int .i64 0, .int .i64 0, .int .u8 0, .int .i64 0, .int .i64 0]) ?_ 0 _ rfl; (with_reducible repeat (first | refine blk_drewN ?_ _ | refine blk_drew ?_ | refine blk_alloc ?_ _)); exact BK348.out) k_ hk⟩)); (case aO => exact (by (with_reducible repeat (first | apply Kd.R_alloc | apply Kd.R_drewN | apply Kd.R_drew)); exact Kd.R_mono (Kd.R_far (p := ⟨gb348, 4, none⟩) (Kd.R_far (p := ⟨gb348, 3, none⟩) (Kd.R_far (p := ⟨gb348, 2, none⟩) (Kd.R_far (p := ⟨gb348, 1, none⟩) (Kd.R_far (p := ⟨gb348, 0, none⟩) (Kd.R_mono HO_5.out (fun k_ hk => (⟨hk, hk.2⟩ : _ ∧ k_ ≠ gb348))) (fun _ hk => hk.2) (.int .i64 t343)) (fun _ hk => hk.2) (.int .i64 t344)) (fun _ hk => hk.2) (.int .u8 t345)) (fun _ hk => hk.2) (.int .i64 t346)) (fun _ hk => hk.2) (.int .i64 t347)) (fun _ hk => ⟨hk.1.1, hk.1.2⟩))); (case aS => exact (below_size (by repeat (first | (with_reducible first | exact HB.out | apply below_alloc | apply pw_below_drewN | apply below_drew1 | refine below_set ?_ GE348.out) | exact HB.out)))); (case aL => have := LMc12.out; omega); intro v350 w18 ho hb hg hat; rw [← Ny349.out] at ho; have n0_ := Aside0.mk (Kd.V_afterv (ok := (fun k_ => ((P0_ k_ ∨ P1_ k_) ∨ w.heap.size ≤ k_) ∧ k_ ≠ gb348)) (by (with_reducible repeat (first | apply Kd.V_alloc | apply Kd.V_drewN | apply Kd.V_drew)); exact Kd.V_mono (Kd.V_far (p := ⟨gb348, 4, none⟩) (Kd.V_far (p := ⟨gb348, 3, none⟩) (Kd.V_far (p := ⟨gb348, 2, none⟩) (Kd.V_far (p := ⟨gb348, 1, none⟩) (Kd.V_far (p := ⟨gb348, 0, none⟩) (Kd.V_mono HO_0.out (fun k_ hk => (⟨hk, hk.2⟩ : _ ∧ k_ ≠ gb348))) (fun _ hk => hk.2) (.int .i64 t343)) (fun _ hk => hk.2) (.int .i64 t344)) (fun _ hk => hk.2) (.int .u8 t345)) (fun _ hk => hk.2) (.int .i64 t346)) (fun _ hk => hk.2) (.int .i64 t347)) (fun _ hk => ⟨⟨hk.1.1.1, hk.1.2⟩, hk.1.1.2⟩)) hg hat); have n1_ := Aside0.mk (Kd.V_afterv (ok := (fun k_ => ((P0_ k_ ∨ P1_ k_) ∨ w.heap.size ≤ k_) ∧ k_ ≠ gb348)) (by (with_reducible repeat (first | apply Kd.V_alloc | apply Kd.V_drewN | apply Kd.V_drew)); exact Kd.V_mono (Kd.V_far (p := ⟨gb348, 4, none⟩) (Kd.V_far (p := ⟨gb348, 3, none⟩) (Kd.V_far (p := ⟨gb348, 2, none⟩) (Kd.V_far (p := ⟨gb348, 1, none⟩) (Kd.V_far (p := ⟨gb348, 0, none⟩) (Kd.V_mono HO_1.out (fun k_ hk => (⟨hk, hk.2⟩ : _ ∧ k_ ≠ gb348))) (fun _ hk => hk.2) (.int .i64 t343)) (fun _ hk => hk.2) (.int .i64 t344)) (fun _ hk => hk.2) (.int .u8 t345)) (fun _ hk => hk.2) (.int .i64 t346)) (fun _ hk => hk.2) (.int .i64 t347)) (fun _ hk => ⟨⟨hk.1.1.1, hk.1.2⟩, hk.1.1.2⟩)) hg hat); have n2_ := Aside0.mk (blk_grown (g := gb348) (o := .cells #[.int .i64 t343, .int .i64 t344, .int .u8 t345, .int .i64 t346, .int .i64 t347] 30 (0, 0)) (by (with_reducible repeat (first | refine blk_drewN ?_ _ | refine blk_drew ?_ | refine blk_alloc ?_ _)); refine blk_put (cs := #[.int .i64 t343, .int .i64 t344, .int .u8 t345, .int .i64 t346, .int .i64 0]) ?_ 4 _ rfl; (with_reducible repeat (first | refine blk_drewN ?_ _ | refine blk_drew ?_ | refine blk_alloc ?_ _)); refine blk_put (cs := #[.int .i64 t343, .int .i64 t344, .int .u8 t345, .int .i64 0, .int .i64 0]) ?_ 3 _ rfl; (with_reducible repeat (first | refine blk_drewN ?_ _ | refine blk_drew ?_ | refine blk_alloc ?_ _)); refine blk_put (cs := #[.int .i64 t343, .int .i64 t344, .int .u8 0, .int .i64 0, .int .i64 0]) ?_ 2 _ rfl; (with_reducible repeat (first | refine blk_drewN ?_ _ | refine blk_drew ?_ | refine blk_alloc ?_ _)); refine blk_put (cs := #[.int .i64 t343, .int .i64 0, .int .u8 0, .int .i64 0, .int .i64 0]) ?_ 1 _ rfl; (with_reducible repeat (first | refine blk_drewN ?_ _ | refine blk_drew ?_ | refine blk_alloc ?_ _)); refine blk_put (cs := #[.int .i64 0, .int .i64 0, .int .u8 0, .int .i64 0, .int .i64 0]) ?_ 0 _ rfl; (with_reducible repeat (first | refine blk_drewN ?_ _ | refine blk_drew ?_ | refine blk_alloc ?_ _)); exact BK348.out) hg (Kd.R_away HO_5.out (fun _ hk => hk.2))); have n3_ := Aside0.mk (hb); have n4_ := Aside0.mk (ho); clear HO_0; clear HO_1; clear BK348; clear HB; clear HO_5; have HO_0 := n0_; have HO_1 := n1_; have BK348 := n2_; have HB := n3_; have HO351 := n4_; clear n0_ n1_ n2_ n3_ n4_; clear ho hb hg hat; have hcz19_0 : w18.cell? ⟨gb348, 0, none⟩ = some (.int .i64 t343) := (blk_cell BK348.out 0).trans rfl; have hcz19_1 : w18.cell? ⟨gb348, 1, none⟩ = some (.int .i64 t344) := (blk_cell BK348.out 1).trans rfl; have hcz19_2 : w18.cell? ⟨gb348, 2, none⟩ = some (.int .u8 t345) := (blk_cell BK348.out 2).trans rfl; have hcz19_3 : w18.cell? ⟨gb348, 3, none⟩ = some (.int .i64 t346) := (blk_cell BK348.out 3).trans rfl; have hcz19_4 : w18.cell? ⟨gb348, 4, none⟩ = some (.int .i64 t347) := (blk_cell BK348.out 4).trans rfl; have hfz19_0 := blk_frozen BK348.out 0; have hfz19_1 := blk_frozen BK348.out 1; have hfz19_2 := blk_frozen BK348.out 2; have hfz19_3 := blk_frozen BK348.out 3; have hfz19_4 := blk_frozen BK348.out 4))
                  go_roundg k2
                  case measure => have := HJ3.out; have := HK2.out; omega
                  case rel => exact ⟨(y349), (wrap64 (x6_2 - 1)), (wrap64 (x7_2 + 1)), (by first | rfl | (simp; done) | (simp [*]; done)), (by first | rfl | (simp; done) | (simp [*]; done)), H', ⟨by have := HJ3.out; have := HK2.out; omega⟩, ⟨by (with_reducible repeat (first | apply Kd.V_alloc | apply Kd.V_drewN | apply Kd.V_drew)); exact Kd.V_mono HO_0.out (fun _ hk => ⟨hk.1.1, hk.2⟩)⟩, ⟨by (with_reducible repeat (first | apply Kd.V_alloc | apply Kd.V_drewN | apply Kd.V_drew)); exact Kd.V_mono HO_1.out (fun _ hk => ⟨hk.1.1, hk.2⟩)⟩, ⟨by (with_reducible repeat (first | apply Kd.R_alloc | apply Kd.R_drewN | apply Kd.R_drew)); exact Kd.R_mono HO351.out (fun _ hk => hk.1)⟩, ⟨by repeat (first | (with_reducible first | exact HB.out | apply below_alloc | apply pw_below_drewN | apply below_drew1 | refine below_set ?_ GE348.out) | exact HB.out)⟩⟩
                · rw [if_neg c13] at H
                  have c13b0 : (t343 == 2) = false := beq_eq_false_iff_ne.mpr c13
                  have c13b1 : (t343 != 2) = true := bne_iff_ne.mpr c13
                  have H' := Aside0.mk H
                  clear H
                  obtain ⟨Ao20, co20, eo20⟩ := Kd.V_slice HO_0.out
                  subst eo20
                  have p342 : 0 ≤ (x7_2 : Int) := of_decide_eq_true (by first | (with_reducible assumption) | assumption)
                  have q342 : x7_2 < (x0_3.length : Int) := of_decide_eq_true (by first | (with_reducible assumption) | assumption)
                  obtain ⟨ad342, e342, hx342_0, hx342_1, hx342_2⟩ := at_T56 (Kd.V_reads' HO_0.out).2.2 x7_2 p342 q342
                  cases e342
                  replace p342 := eq_true p342
                  replace q342 := eq_true q342
                  go_wp2_with (first | ((with_reducible refine gate_callee (f := 30) rfl ?_); refine goesL_ (some 39) rfl rfl Try.func30 (by kernel_rfl) rfl #[.agg #[.bool ((rd_T56 x0_3 x7_2).f0), .int .i64 ((rd_T56 x0_3 x7_2).f1), .int .u8 ((rd_T56 x0_3 x7_2).f2)], .int .i64 x7_2, .int .i64 x6_2] rfl (by (try simp only [List.map_toArray, List.map_cons, List.map_nil]); first | done | rfl | (simp only [List.length_drop, List.length_take]; rfl)) ?_; (with_reducible refine (jotterlaw04_made.calls k2 ((rd_T56 x0_3 x7_2).f0) ((rd_T56 x0_3 x7_2).f1) ((rd_T56 x0_3 x7_2).f2) x7_2 x6_2 t343 t344 t345 t346 t347 _ A11.out).mono ?_); rintro e w21 ⟨rfl, hb⟩; refine ⟨_, rfl, ?_⟩; have n0_ := Aside0.mk (Kd.V_below (by (with_reducible repeat (first | apply Kd.V_alloc | apply Kd.V_drewN | apply Kd.V_drew)); exact HO_0.out) hb); have n1_ := Aside0.mk (Kd.V_below (by (with_reducible repeat (first | apply Kd.V_alloc | apply Kd.V_drewN | apply Kd.V_drew)); exact HO_1.out) hb); have n2_ := Aside0.mk (Kd.R_below (by (with_reducible repeat (first | apply Kd.R_alloc | apply Kd.R_drewN | apply Kd.R_drew)); exact HO_5.out) hb); have n3_ := Aside0.mk (below_step (by repeat (first | (with_reducible first | exact HB.out | apply below_alloc | apply pw_below_drewN | apply below_drew1) | exact HB.out)) hb); clear HO_0; clear HO_1; clear HO_5; clear HB; have HO_0 := n0_; have HO_1 := n1_; have HO_5 := n2_; have HB := n3_; clear n0_ n1_ n2_ n3_; (try clear hb); (try clear hb2); (try clear hk); (try clear hi)) | ((with_reducible refine gate_dst (N := 8) rfl ?_); (try (refine gate_guard (by rfl) ?_; dsimp only)); refine box_event ?hg (N := 8) ?hd (cs := #[.int .i64 0, .int .i64 0, .int .u8 0, .int .i64 0, .int .i64 0]) (t := 30) ?hr ?_; (case hd => rfl); (case hg => rfl); (case hr => first | (go_simp; done) | (go_simp; rfl)); intro gb348 hg w22 hbox hb; have n0_ := Aside0.mk (Kd.V_below (Kd.V_elderB (by (with_reducible repeat (first | apply Kd.V_alloc | apply Kd.V_drewN | apply Kd.V_drew)); exact HO_0.out) gb348 (Nat.le_of_eq hg.symm)) hb); have n1_ := Aside0.mk (Kd.V_below (Kd.V_elderB (by (with_reducible repeat (first | apply Kd.V_alloc | apply Kd.V_drewN | apply Kd.V_drew)); exact HO_1.out) gb348 (Nat.le_of_eq hg.symm)) hb); have n2_ := Aside0.mk (Kd.R_below (Kd.R_elderB (by (with_reducible repeat (first | apply Kd.R_alloc | apply Kd.R_drewN | apply Kd.R_drew)); exact HO_5.out) gb348 (Nat.le_of_eq hg.symm)) hb); have n3_ := Aside0.mk (below_step (by repeat (first | (with_reducible first | exact HB.out | apply below_alloc | apply pw_below_drewN | apply below_drew1) | exact HB.out)) hb); have n4_ := Aside0.mk (hbox); have n5_ := Aside0.mk ((by rw [hg]; exact (below_size (by repeat (first | (with_reducible first | exact HB.out | apply below_alloc | apply pw_below_drewN | apply below_drew1) | exact HB.out))) : w.heap.size ≤ gb348)); have n6_ := Aside0.mk ((by rw [hg]; exact (below_size (by repeat (first | (with_reducible first | exact HB.out | apply below_alloc | apply pw_below_drewN | apply below_drew1) | exact HB.out))) : w.heap.size ≤ gb348)); clear HO_0; clear HO_1; clear HO_5; clear HB; have HO_0 := n0_; have HO_1 := n1_; have HO_5 := n2_; have HB := n3_; have BK348 := n4_; have GW348 := n5_; have GE348 := n6_; clear n0_ n1_ n2_ n3_ n4_ n5_ n6_; clear hb hbox hg; have hcz23_0 : w22.cell? ⟨gb348, 0, none⟩ = some (.int .i64 0) := (blk_cell BK348.out 0).trans rfl; have hcz23_1 : w22.cell? ⟨gb348, 1, none⟩ = some (.int .i64 0) := (blk_cell BK348.out 1).trans rfl; have hcz23_2 : w22.cell? ⟨gb348, 2, none⟩ = some (.int .u8 0) := (blk_cell BK348.out 2).trans rfl; have hcz23_3 : w22.cell? ⟨gb348, 3, none⟩ = some (.int .i64 0) := (blk_cell BK348.out 3).trans rfl; have hcz23_4 : w22.cell? ⟨gb348, 4, none⟩ = some (.int .i64 0) := (blk_cell BK348.out 4).trans rfl; have hfz23_0 := blk_frozen BK348.out 0; have hfz23_1 := blk_frozen BK348.out 1; have hfz23_2 := blk_frozen BK348.out 2; have hfz23_3 := blk_frozen BK348.out 3; have hfz23_4 := blk_frozen BK348.out 4) | ((with_reducible refine gate_builtin (b := .append) (xs := #[.tmp 40, .tmp 42]) rfl ?_); (try (refine gate_guard (by rfl) ?_; dsimp only)); at_builtin; refine Kd.R_append k30 (w0 := w) w.heap.size rfl (.tmp 40) (.tmp 42) 37 30 (.agg #[(.int .i64 0), (.int .i64 0), (.int .u8 0), (.int .i64 0), (.int .i64 0)]) 40 rfl Try.underlying37 info30 rfl (by decide) (by omega) u5 x5_2 (⟨t343, t344, t345, t346, t347⟩ : S30) [.int .i64 t343, .int .i64 t344, .int .u8 t345, .int .i64 t346, .int .i64 t347] (fun k_ => (w.heap.size ≤ k_) ∧ k_ ≠ gb348) (fun _ => False) rfl (by first | (go_simp; done) | (go_simp; rfl)) ?aP (fun _ hk => hk.elim) ?aF ?aO ?aB ?aS ?aL ?_; (case aP => exact k30_mkM _ _ _ (⟨t343, t344, t345, t346, t347⟩ : S30)); (case aB => exact (by repeat (first | (with_reducible first | exact HB.out | apply below_alloc | apply pw_below_drewN | apply below_drew1 | refine below_set ?_ GE348.out) | exact HB.out))); (case aF => exact (fun k_ hk => ⟨(Nat.le_trans (below_size (by repeat (first | (with_reducible first | exact HB.out | apply below_alloc | apply pw_below_drewN | apply below_drew1 | refine below_set ?_ GE348.out) | exact HB.out))) hk), Kd.freshB (g := gb348) (o := .cells #[.int .i64 t343, .int .i64 t344, .int .u8 t345, .int .i64 t346, .int .i64 t347] 30 (0, 0)) (by (with_reducible repeat (first | refine blk_drewN ?_ _ | refine blk_drew ?_ | refine blk_alloc ?_ _)); refine blk_put (cs := #[.int .i64 t343, .int .i64 t344, .int .u8 t345, .int .i64 t346, .int .i64 0]) ?_ 4 _ rfl; (with_reducible repeat (first | refine blk_drewN ?_ _ | refine blk_drew ?_ | refine blk_alloc ?_ _)); refine blk_put (cs := #[.int .i64 t343, .int .i64 t344, .int .u8 t345, .int .i64 0, .int .i64 0]) ?_ 3 _ rfl; (with_reducible repeat (first | refine blk_drewN ?_ _ | refine blk_drew ?_ | refine blk_alloc ?_ _)); refine blk_put (cs := #[.int .i64 t343, .int .i64 t344, .int .u8 0, .int .i64 0, .int .i64 0]) ?_ 2 _ rfl; (with_reducible repeat (first | refine blk_drewN ?_ _ | refine blk_drew ?_ | refine blk_alloc ?_ _)); refine blk_put (cs := #[.int .i64 t343, .int .i64 0, .int .u8 0, .int .i64 0, .int .i64 0]) ?_ 1 _ rfl; (with_reducible repeat (first | refine blk_drewN ?_ _ | refine blk_drew ?_ | refine blk_alloc ?_ _)); refine blk_put (cs := #[.int .i64 0, .int .i64 0, .int .u8 0, .int .i64 0, .int .i64 0]) ?_ 0 _ rfl; (with_reducible repeat (first | refine blk_drewN ?_ _ | refine blk_drew ?_ | refine blk_alloc ?_ _)); exact BK348.out) k_ hk⟩)); (case aO => exact (by (with_reducible repeat (first | apply Kd.R_alloc | apply Kd.R_drewN | apply Kd.R_drew)); exact Kd.R_mono (Kd.R_far (p := ⟨gb348, 4, none⟩) (Kd.R_far (p := ⟨gb348, 3, none⟩) (Kd.R_far (p := ⟨gb348, 2, none⟩) (Kd.R_far (p := ⟨gb348, 1, none⟩) (Kd.R_far (p := ⟨gb348, 0, none⟩) (Kd.R_mono HO_5.out (fun k_ hk => (⟨hk, hk.2⟩ : _ ∧ k_ ≠ gb348))) (fun _ hk => hk.2) (.int .i64 t343)) (fun _ hk => hk.2) (.int .i64 t344)) (fun _ hk => hk.2) (.int .u8 t345)) (fun _ hk => hk.2) (.int .i64 t346)) (fun _ hk => hk.2) (.int .i64 t347)) (fun _ hk => ⟨hk.1.1, hk.1.2⟩))); (case aS => exact (below_size (by repeat (first | (with_reducible first | exact HB.out | apply below_alloc | apply pw_below_drewN | apply below_drew1 | refine below_set ?_ GE348.out) | exact HB.out)))); (case aL => have := LMc12.out; omega); intro v350 w24 ho hb hg hat; rw [← Ny349.out] at ho; have n0_ := Aside0.mk (Kd.V_afterv (ok := (fun k_ => ((P0_ k_ ∨ P1_ k_) ∨ w.heap.size ≤ k_) ∧ k_ ≠ gb348)) (by (with_reducible repeat (first | apply Kd.V_alloc | apply Kd.V_drewN | apply Kd.V_drew)); exact Kd.V_mono (Kd.V_far (p := ⟨gb348, 4, none⟩) (Kd.V_far (p := ⟨gb348, 3, none⟩) (Kd.V_far (p := ⟨gb348, 2, none⟩) (Kd.V_far (p := ⟨gb348, 1, none⟩) (Kd.V_far (p := ⟨gb348, 0, none⟩) (Kd.V_mono HO_0.out (fun k_ hk => (⟨hk, hk.2⟩ : _ ∧ k_ ≠ gb348))) (fun _ hk => hk.2) (.int .i64 t343)) (fun _ hk => hk.2) (.int .i64 t344)) (fun _ hk => hk.2) (.int .u8 t345)) (fun _ hk => hk.2) (.int .i64 t346)) (fun _ hk => hk.2) (.int .i64 t347)) (fun _ hk => ⟨⟨hk.1.1.1, hk.1.2⟩, hk.1.1.2⟩)) hg hat); have n1_ := Aside0.mk (Kd.V_afterv (ok := (fun k_ => ((P0_ k_ ∨ P1_ k_) ∨ w.heap.size ≤ k_) ∧ k_ ≠ gb348)) (by (with_reducible repeat (first | apply Kd.V_alloc | apply Kd.V_drewN | apply Kd.V_drew)); exact Kd.V_mono (Kd.V_far (p := ⟨gb348, 4, none⟩) (Kd.V_far (p := ⟨gb348, 3, none⟩) (Kd.V_far (p := ⟨gb348, 2, none⟩) (Kd.V_far (p := ⟨gb348, 1, none⟩) (Kd.V_far (p := ⟨gb348, 0, none⟩) (Kd.V_mono HO_1.out (fun k_ hk => (⟨hk, hk.2⟩ : _ ∧ k_ ≠ gb348))) (fun _ hk => hk.2) (.int .i64 t343)) (fun _ hk => hk.2) (.int .i64 t344)) (fun _ hk => hk.2) (.int .u8 t345)) (fun _ hk => hk.2) (.int .i64 t346)) (fun _ hk => hk.2) (.int .i64 t347)) (fun _ hk => ⟨⟨hk.1.1.1, hk.1.2⟩, hk.1.1.2⟩)) hg hat); have n2_ := Aside0.mk (blk_grown (g := gb348) (o := .cells #[.int .i64 t343, .int .i64 t344, .int .u8 t345, .int .i64 t346, .int .i64 t347] 30 (0, 0)) (by (with_reducible repeat (first | refine blk_drewN ?_ _ | refine blk_drew ?_ | refine blk_alloc ?_ _)); refine blk_put (cs := #[.int .i64 t343, .int .i64 t344, .int .u8 t345, .int .i64 t346, .int .i64 0]) ?_ 4 _ rfl; (with_reducible repeat (first | refine blk_drewN ?_ _ | refine blk_drew ?_ | refine blk_alloc ?_ _)); refine blk_put (cs := #[.int .i64 t343, .int .i64 t344, .int .u8 t345, .int .i64 0, .int .i64 0]) ?_ 3 _ rfl; (with_reducible repeat (first | refine blk_drewN ?_ _ | refine blk_drew ?_ | refine blk_alloc ?_ _)); refine blk_put (cs := #[.int .i64 t343, .int .i64 t344, .int .u8 0, .int .i64 0, .int .i64 0]) ?_ 2 _ rfl; (with_reducible repeat (first | refine blk_drewN ?_ _ | refine blk_drew ?_ | refine blk_alloc ?_ _)); refine blk_put (cs := #[.int .i64 t343, .int .i64 0, .int .u8 0, .int .i64 0, .int .i64 0]) ?_ 1 _ rfl; (with_reducible repeat (first | refine blk_drewN ?_ _ | refine blk_drew ?_ | refine blk_alloc ?_ _)); refine blk_put (cs := #[.int .i64 0, .int .i64 0, .int .u8 0, .int .i64 0, .int .i64 0]) ?_ 0 _ rfl; (with_reducible repeat (first | refine blk_drewN ?_ _ | refine blk_drew ?_ | refine blk_alloc ?_ _)); exact BK348.out) hg (Kd.R_away HO_5.out (fun _ hk => hk.2))); have n3_ := Aside0.mk (hb); have n4_ := Aside0.mk (ho); clear HO_0; clear HO_1; clear BK348; clear HB; clear HO_5; have HO_0 := n0_; have HO_1 := n1_; have BK348 := n2_; have HB := n3_; have HO351 := n4_; clear n0_ n1_ n2_ n3_ n4_; clear ho hb hg hat; have hcz25_0 : w24.cell? ⟨gb348, 0, none⟩ = some (.int .i64 t343) := (blk_cell BK348.out 0).trans rfl; have hcz25_1 : w24.cell? ⟨gb348, 1, none⟩ = some (.int .i64 t344) := (blk_cell BK348.out 1).trans rfl; have hcz25_2 : w24.cell? ⟨gb348, 2, none⟩ = some (.int .u8 t345) := (blk_cell BK348.out 2).trans rfl; have hcz25_3 : w24.cell? ⟨gb348, 3, none⟩ = some (.int .i64 t346) := (blk_cell BK348.out 3).trans rfl; have hcz25_4 : w24.cell? ⟨gb348, 4, none⟩ = some (.int .i64 t347) := (blk_cell BK348.out 4).trans rfl; have hfz25_0 := blk_frozen BK348.out 0; have hfz25_1 := blk_frozen BK348.out 1; have hfz25_2 := blk_frozen BK348.out 2; have hfz25_3 := blk_frozen BK348.out 3; have hfz25_4 := blk_frozen BK348.out 4))
                  go_roundg k2
                  case measure => have := HJ3.out; have := HK2.out; omega
                  case rel => exact ⟨(y349), (wrap64 (x6_2 + 1)), (wrap64 (x7_2 + 1)), (by first | rfl | (simp; done) | (simp [*]; done)), (by first | rfl | (simp; done) | (simp [*]; done)), H', ⟨by have := HJ3.out; have := HK2.out; omega⟩, ⟨by (with_reducible repeat (first | apply Kd.V_alloc | apply Kd.V_drewN | apply Kd.V_drew)); exact Kd.V_mono HO_0.out (fun _ hk => ⟨hk.1.1, hk.2⟩)⟩, ⟨by (with_reducible repeat (first | apply Kd.V_alloc | apply Kd.V_drewN | apply Kd.V_drew)); exact Kd.V_mono HO_1.out (fun _ hk => ⟨hk.1.1, hk.2⟩)⟩, ⟨by (with_reducible repeat (first | apply Kd.R_alloc | apply Kd.R_drewN | apply Kd.R_drew)); exact Kd.R_mono HO351.out (fun _ hk => hk.1)⟩, ⟨by repeat (first | (with_reducible first | exact HB.out | apply below_alloc | apply pw_below_drewN | apply below_drew1 | refine below_set ?_ GE348.out) | exact HB.out)⟩⟩
              · rw [if_neg c12] at H
                exact absurd H (by simp)
            · rw [if_neg c10] at H
              exact absurd H (by simp)
          · rw [if_neg c9] at H
            have c9b0 : decide (x7_2 < (x0_3.length : Int)) = false := decide_eq_false c9
            clear c9
            replace H := Option.bind_eq_some_iff.mp H
            obtain ⟨⟨t352, t353, t354⟩, A260, H⟩ := H
            replace H : (if t354 = 0 then (if t353 = (x5_2.length : Int) then (jotterlaw04_DocParts.j2 k2 t334 x5_2 t352 ((t352.length : Int) != x6_2)) else (jotterlaw04_DocParts.j2 k2 t334 x5_2 t352 true)) else (jotterlaw04_DocParts.j2 k2 t334 x5_2 t352 true)) = some r := H
            have A26 := Aside0.mk A260
            clear A260
            have HC27 := Aside0.mk H
            clear H
            obtain ⟨Ao28, co28, eo28⟩ := Kd.V_slice HO_0.out
            subst eo28
            obtain ⟨Ao29, co29, eo29⟩ := Kd.R_slice HO_5.out
            subst eo29
            go_upto_region 15 with (first | ((with_reducible refine gate_callee (f := 29) rfl ?_); refine goesL_ (some 53) rfl rfl Try.func29 (by kernel_rfl) rfl #[.slice Ao29 x5_2.length co29] rfl (by (try simp only [List.map_toArray, List.map_cons, List.map_nil]); first | done | rfl | (simp only [List.length_drop, List.length_take]; rfl)) ?_; (with_reducible refine (doc_Replay.calls k2 _ _ x5_2 t352 t353 t354 _ ?side1 ?side2 A26.out).mono ?_); (case side1 => repeat (first | exact (Kd.R_reads' HO_5.out).2.2 | (with_reducible refine Kd.C_alloc ?_ _) | (with_reducible refine Kd.C_drewN ?_ _) | (with_reducible refine Kd.C_drew ?_))); (case side2 => exact (Kd.R_reads' HO_5.out).2.1); rintro e w30 ⟨v355, rfl, ho0, hb⟩; refine ⟨_, rfl, ?_⟩; have n0_ := Aside0.mk (Kd.V_elder' (by (with_reducible repeat (first | apply Kd.V_alloc | apply Kd.V_drewN | apply Kd.V_drew)); exact HO_0.out) (Kd.R_base ho0) hb); have n1_ := Aside0.mk (Kd.V_elder' (by (with_reducible repeat (first | apply Kd.V_alloc | apply Kd.V_drewN | apply Kd.V_drew)); exact HO_1.out) (Kd.R_base ho0) hb); have n2_ := Aside0.mk (Kd.R_below (by (with_reducible repeat (first | apply Kd.R_alloc | apply Kd.R_drewN | apply Kd.R_drew)); exact HO_5.out) hb); have n3_ := Aside0.mk (Kd.R_lower (Kd.R_newM (M := fun k_ => (w.heap.size ≤ k_)) ho0 (below_size (by repeat (first | (with_reducible first | exact HB.out | apply below_alloc | apply pw_below_drewN | apply below_drew1) | exact HB.out))) (fun k_ h_ => h_)) (below_size (by repeat (first | (with_reducible first | exact HB.out | apply below_alloc | apply pw_below_drewN | apply below_drew1) | exact HB.out)))); have n4_ := Aside0.mk (below_step (by repeat (first | (with_reducible first | exact HB.out | apply below_alloc | apply pw_below_drewN | apply below_drew1) | exact HB.out)) hb); clear HO_0; clear HO_1; clear HO_5; clear HB; have HO_0 := n0_; have HO_1 := n1_; have HO_5 := n2_; have HO356 := n3_; have HB := n4_; clear n0_ n1_ n2_ n3_ n4_; (try clear hb); (try clear hb2); (try clear hk); (try clear hi); (try clear ho0)))
            (try simp only [Act.put, List.setIfInBounds_toArray, List.set_cons_zero, List.set_cons_succ])
            go_cut [70] (fun v70 wc => ∃ (kq : Nat) (x70_26 : Bool), v70 = .bool x70_26 ∧ Aside0 (jotterlaw04_DocParts.j2 kq t334 x5_2 t352 x70_26 = some r) ∧ Aside0 (kq ≤ k2) ∧ Aside0 (Kd.V k30 30 wc w.heap.size (fun k_ => ((P0_ k_ ∨ P1_ k_) ∨ w.heap.size ≤ k_) ∧ some k_ ≠ ((.slice Ao29 x5_2.length co29) : Value).ownBlock ∧ some k_ ≠ (v355 : Value).ownBlock) v335 t334) ∧ Aside0 (Kd.R k30 30 wc w.heap.size (fun k_ => (w.heap.size ≤ k_)) (.slice Ao29 x5_2.length co29) x5_2) ∧ Aside0 (Kd.R k24 24 wc w.heap.size (fun k_ => (w.heap.size ≤ k_)) v355 t352) ∧ Aside0 (Below w.heap.size w wc))
            case first =>
              have H := HC27.out
              clear HC27
              by_cases c31 : t354 = 0
              · rw [if_pos c31] at H
                have c31b0 : (t354 == 0) = true := beq_iff_eq.mpr c31
                have c31b1 : (t354 != 0) = false := bne_eq_false_iff_eq.mpr c31
                clear c31
                (first | rw [c31b0] | (simp only [i64_w, i32_w]; rw [c31b0]) | skip)
                by_cases c32 : t353 = (x5_2.length : Int)
                · rw [if_pos c32] at H
                  have c32b0 : (t353 == (x5_2.length : Int)) = true := beq_iff_eq.mpr c32
                  have c32b1 : (t353 != (x5_2.length : Int)) = false := bne_eq_false_iff_eq.mpr c32
                  clear c32
                  have H' := Aside0.mk H
                  clear H
                  obtain ⟨Ao33, co33, eo33⟩ := Kd.R_slice HO356.out
                  subst eo33
                  go_wp2
                  go_meet
                  case rel => exact ⟨_, (((t352.length : Int) != x6_2)), (by first | rfl | (simp; done) | (simp [*]; done)), H', ⟨by have := HJ3.out; have := HK2.out; first | omega | exact Nat.le_refl _⟩, ⟨by (with_reducible repeat (first | apply Kd.V_alloc | apply Kd.V_drewN | apply Kd.V_drew)); exact Kd.V_mono HO_1.out (fun _ hk => ⟨hk.1.1, ⟨hk.1.2, hk.2⟩⟩)⟩, ⟨by (with_reducible repeat (first | apply Kd.R_alloc | apply Kd.R_drewN | apply Kd.R_drew)); exact HO_5.out⟩, ⟨by (with_reducible repeat (first | apply Kd.R_alloc | apply Kd.R_drewN | apply Kd.R_drew)); exact Kd.R_mono HO356.out (fun _ hk => hk.1)⟩, ⟨by repeat (first | (with_reducible first | exact HB.out | apply below_alloc | apply pw_below_drewN | apply below_drew1) | exact HB.out)⟩⟩
                · rw [if_neg c32] at H
                  have c32b0 : (t353 == (x5_2.length : Int)) = false := beq_eq_false_iff_ne.mpr c32
                  have c32b1 : (t353 != (x5_2.length : Int)) = true := bne_iff_ne.mpr c32
                  have H' := Aside0.mk H
                  clear H
                  go_wp2
                  go_meet
                  case rel => exact ⟨_, (true), (by first | rfl | (simp; done) | (simp [*]; done)), H', ⟨by have := HJ3.out; have := HK2.out; first | omega | exact Nat.le_refl _⟩, ⟨by (with_reducible repeat (first | apply Kd.V_alloc | apply Kd.V_drewN | apply Kd.V_drew)); exact Kd.V_mono HO_1.out (fun _ hk => ⟨hk.1.1, ⟨hk.1.2, hk.2⟩⟩)⟩, ⟨by (with_reducible repeat (first | apply Kd.R_alloc | apply Kd.R_drewN | apply Kd.R_drew)); exact HO_5.out⟩, ⟨by (with_reducible repeat (first | apply Kd.R_alloc | apply Kd.R_drewN | apply Kd.R_drew)); exact Kd.R_mono HO356.out (fun _ hk => hk.1)⟩, ⟨by repeat (first | (with_reducible first | exact HB.out | apply below_alloc | apply pw_below_drewN | apply below_drew1) | exact HB.out)⟩⟩
              · rw [if_neg c31] at H
                have c31b0 : (t354 == 0) = false := beq_eq_false_iff_ne.mpr c31
                have c31b1 : (t354 != 0) = true := bne_iff_ne.mpr c31
                (first | rw [c31b0] | (simp only [i64_w, i32_w]; rw [c31b0]) | skip)
                have H' := Aside0.mk H
                clear H
                go_wp2
                go_meet
                case rel => exact ⟨_, (true), (by first | rfl | (simp; done) | (simp [*]; done)), H', ⟨by have := HJ3.out; have := HK2.out; first | omega | exact Nat.le_refl _⟩, ⟨by (with_reducible repeat (first | apply Kd.V_alloc | apply Kd.V_drewN | apply Kd.V_drew)); exact Kd.V_mono HO_1.out (fun _ hk => ⟨hk.1.1, ⟨hk.1.2, hk.2⟩⟩)⟩, ⟨by (with_reducible repeat (first | apply Kd.R_alloc | apply Kd.R_drewN | apply Kd.R_drew)); exact HO_5.out⟩, ⟨by (with_reducible repeat (first | apply Kd.R_alloc | apply Kd.R_drewN | apply Kd.R_drew)); exact Kd.R_mono HO356.out (fun _ hk => hk.1)⟩, ⟨by repeat (first | (with_reducible first | exact HB.out | apply below_alloc | apply pw_below_drewN | apply below_drew1) | exact HB.out)⟩⟩
            case rest =>
              clear HC27
              try clear c1
              try clear c2
              try clear p2
              try clear c3
              try clear p3
              try clear q3
              try clear hx3
              try clear c6
              try clear c6b0
              try clear c6b1
              try clear p6
              try clear c7
              try clear c7b0
              try clear c7b1
              try clear q8
              try clear c9
              try clear c9b0
              try clear c10
              try clear c10b0
              try clear c12
              try clear c13
              try clear c13b0
              try clear c13b1
              try clear c22
              try clear c29
              try clear c30
              try clear c31
              try clear c31b0
              try clear c31b1
              try clear c32
              try clear c32b0
              try clear c32b1
              try clear hcz17_0
              try clear hcz17_1
              try clear hcz17_2
              try clear hcz17_3
              try clear hcz17_4
              try clear hcz19_0
              try clear hcz19_1
              try clear hcz19_2
              try clear hcz19_3
              try clear hcz19_4
              try clear hcz23_0
              try clear hcz23_1
              try clear hcz23_2
              try clear hcz23_3
              try clear hcz23_4
              try clear hcz25_0
              try clear hcz25_1
              try clear hcz25_2
              try clear hcz25_3
              try clear hcz25_4
              try clear hfz17_0
              try clear hfz17_1
              try clear hfz17_2
              try clear hfz17_3
              try clear hfz17_4
              try clear hfz19_0
              try clear hfz19_1
              try clear hfz19_2
              try clear hfz19_3
              try clear hfz19_4
              try clear hfz23_0
              try clear hfz23_1
              try clear hfz23_2
              try clear hfz23_3
              try clear hfz23_4
              try clear hfz25_0
              try clear hfz25_1
              try clear hfz25_2
              try clear hfz25_3
              try clear hfz25_4
              try clear hx342_0
              try clear hx342_1
              try clear hx342_2
              try clear p2
              try clear p342
              try clear q342
              try clear q8
              obtain ⟨kq, x70_26, rfl, HA, HJ26, HO_1, HO_5, HO_9, HB⟩ := hcut
              cases kq with
              | zero => exact absurd HA.out (by simp [jotterlaw04_DocParts.j2])
              | succ kj26 =>
                have H := HA.out
                clear HA
                simp only [jotterlaw04_DocParts.j2] at H
                by_cases c34 : x70_26 = true
                · subst c34
                  have H1 : (some false) = some r := by rw [if_pos rfl] at H; exact H
                  clear H
                  have H := H1
                  clear H1
                  obtain rfl := Option.some.inj H
                  go_wp2
                  go_ret
                  exact ⟨by first | rfl | (simp [errW_none, errW_some] <;> rfl) | (simp [*, errW_none, errW_some] <;> rfl), by repeat (first | (with_reducible first | exact HB.out | apply below_alloc | apply pw_below_drewN | apply below_drew1) | exact HB.out)⟩
                · replace c34 := Bool.eq_false_iff.mpr c34
                  subst c34
                  have H1 : (jotterlaw04_DocParts.l1 kj26 t334 x5_2 t352 x5_2 0) = some r := by rw [if_neg (show ¬ (false = true) by decide)] at H; exact H
                  clear H
                  have H := H1
                  clear H1
                  have H' := Aside0.mk H
                  clear H
                  go_wp2
                  go_loopg [12, 13] kj26 (fun kq v12 v13 w' => ∃ (x12_4 : List (S30)) (x13_4 : Int), v13 = .int .i64 x13_4 ∧ Aside0 (jotterlaw04_DocParts.l1 kq t334 x5_2 t352 x12_4 x13_4 = some r) ∧ Aside0 (kq ≤ kj26) ∧ Aside0 (Kd.V k30 30 w' w.heap.size (fun k_ => ((P0_ k_ ∨ P1_ k_) ∨ w.heap.size ≤ k_) ∧ some k_ ≠ ((.slice none 0 0) : Value).ownBlock ∧ some k_ ≠ (v355 : Value).ownBlock ∧ some k_ ≠ (v12 : Value).ownBlock) v335 t334) ∧ Aside0 (Kd.R k30 30 w' w.heap.size (fun k_ => (w.heap.size ≤ k_)) (.slice none 0 0) ([] : List S30)) ∧ Aside0 (Kd.R k24 24 w' w.heap.size (fun k_ => (w.heap.size ≤ k_)) v355 t352) ∧ Aside0 (Kd.R k30 30 w' w.heap.size (fun k_ => (w.heap.size ≤ k_)) v12 x12_4) ∧ Aside0 (Below w.heap.size w w'))
                  case atStart => exact ⟨(x5_2), (0), (by first | rfl | (simp; done) | (simp [*]; done)), H', ⟨Nat.le_refl _⟩, ⟨by (with_reducible repeat (first | apply Kd.V_alloc | apply Kd.V_drewN | apply Kd.V_drew)); exact Kd.V_mono HO_1.out (fun _ hk => ⟨hk.1, ⟨(by simp [Value.ownBlock]), ⟨hk.2.2, hk.2.1⟩⟩⟩)⟩, ⟨by (with_reducible repeat (first | apply Kd.R_alloc | apply Kd.R_drewN | apply Kd.R_drew)); exact Kd.R_nil _ _ _ _ _⟩, ⟨by (with_reducible repeat (first | apply Kd.R_alloc | apply Kd.R_drewN | apply Kd.R_drew)); exact HO_9.out⟩, ⟨by (with_reducible repeat (first | apply Kd.R_alloc | apply Kd.R_drewN | apply Kd.R_drew)); exact HO_5.out⟩, ⟨by repeat (first | (with_reducible first | exact HB.out | apply below_alloc | apply pw_below_drewN | apply below_drew1) | exact HB.out)⟩⟩
                  case round =>
                    clear H'
                    try clear c1
                    try clear c2
                    try clear p2
                    try clear c3
                    try clear p3
                    try clear q3
                    try clear hx3
                    try clear c6
                    try clear c6b0
                    try clear c6b1
                    try clear p6
                    try clear c7
                    try clear c7b0
                    try clear c7b1
                    try clear q8
                    try clear c9
                    try clear c9b0
                    try clear c10
                    try clear c10b0
                    try clear c12
                    try clear c13
                    try clear c13b0
                    try clear c13b1
                    try clear c22
                    try clear c29
                    try clear c30
                    try clear c31
                    try clear c31b0
                    try clear c31b1
                    try clear c32
                    try clear c32b0
                    try clear c32b1
                    try clear c34
                    try clear p34
                    try clear q34
                    try clear hx34
                    try clear hcz17_0
                    try clear hcz17_1
                    try clear hcz17_2
                    try clear hcz17_3
                    try clear hcz17_4
                    try clear hcz19_0
                    try clear hcz19_1
                    try clear hcz19_2
                    try clear hcz19_3
                    try clear hcz19_4
                    try clear hcz23_0
                    try clear hcz23_1
                    try clear hcz23_2
                    try clear hcz23_3
                    try clear hcz23_4
                    try clear hcz25_0
                    try clear hcz25_1
                    try clear hcz25_2
                    try clear hcz25_3
                    try clear hcz25_4
                    try clear hfz17_0
                    try clear hfz17_1
                    try clear hfz17_2
                    try clear hfz17_3
                    try clear hfz17_4
                    try clear hfz19_0
                    try clear hfz19_1
                    try clear hfz19_2
                    try clear hfz19_3
                    try clear hfz19_4
                    try clear hfz23_0
                    try clear hfz23_1
                    try clear hfz23_2
                    try clear hfz23_3
                    try clear hfz23_4
                    try clear hfz25_0
                    try clear hfz25_1
                    try clear hfz25_2
                    try clear hfz25_3
                    try clear hfz25_4
                    try clear hx342_0
                    try clear hx342_1
                    try clear hx342_2
                    try clear p2
                    try clear p3
                    try clear p342
                    try clear p6
                    try clear q3
                    try clear q342
                    try clear q8
                    obtain ⟨x12_4, x13_4, rfl, HA, HK4, HO_1, HO_5, HO_9, HO_12, HB⟩ := hrel
                    cases gk with
                    | zero => exact absurd HA.out (by simp [jotterlaw04_DocParts.l1])
                    | succ k4 =>
                      have H := HA.out
                      clear HA
                      simp only [jotterlaw04_DocParts.l1] at H
                      by_cases c35 : x13_4 < (t334.length : Int)
                      · rw [if_pos c35] at H
                        have c35b0 : decide (x13_4 < (t334.length : Int)) = true := decide_eq_true c35
                        clear c35
                        by_cases c36 : 0 ≤ x13_4
                        · rw [if_pos c36] at H
                          have c36b0 : decide (0 ≤ x13_4) = true := decide_eq_true c36
                          clear c36
                          by_cases c37 : x12_4.length < 3518437208883
                          · rw [if_pos c37] at H
                            have LMc37 := Aside0.mk c37
                            clear c37
                            obtain ⟨y358, hy358⟩ : ∃ y_ : List (S30), y_ = (x12_4 ++ [(⟨(rd_T30 t334 x13_4).f0, (rd_T30 t334 x13_4).f1, (rd_T30 t334 x13_4).f2, (rd_T30 t334 x13_4).f3, (rd_T30 t334 x13_4).f4⟩ : S30)]) := ⟨_, rfl⟩
                            replace H : (jotterlaw04_DocParts.l1 k4 t334 x5_2 t352 y358 (wrap64 (x13_4 + 1))) = some r := by first | (rw [hy358]; with_reducible exact H) | (have H2_ := (Option.bind_some _ _).symm.trans H; rw [hy358]; with_reducible exact H2_) | (have H2_ := (Option.bind_some _ _).symm.trans H; with_reducible exact H2_) | with_reducible exact H | (rw [hy358]; exact H) | exact H
                            have Ny358 := Aside0.mk hy358
                            clear hy358
                            have H' := Aside0.mk H
                            clear H
                            obtain ⟨Ao38, co38, eo38⟩ := Kd.V_slice HO_1.out
                            subst eo38
                            have p357 : 0 ≤ (x13_4 : Int) := of_decide_eq_true (by first | (with_reducible assumption) | assumption)
                            have q357 : x13_4 < (t334.length : Int) := of_decide_eq_true (by first | (with_reducible assumption) | assumption)
                            obtain ⟨ad357, e357, hx357_0, hx357_1, hx357_2, hx357_3, hx357_4⟩ := at_T30 (Kd.V_reads' HO_1.out).2.2 x13_4 p357 q357
                            cases e357
                            replace p357 := eq_true p357
                            replace q357 := eq_true q357
                            go_wp2_with (first | ((with_reducible refine gate_builtin (b := .append) (xs := #[.tmp 78, .tmp 83]) rfl ?_); (try (refine gate_guard (by rfl) ?_; dsimp only)); at_builtin; refine Kd.R_append k30 (w0 := w) w.heap.size rfl (.tmp 78) (.tmp 83) 37 30 (.agg #[(.int .i64 0), (.int .i64 0), (.int .u8 0), (.int .i64 0), (.int .i64 0)]) 40 rfl Try.underlying37 info30 rfl (by decide) (by omega) u12 x12_4 (⟨(rd_T30 t334 x13_4).f0, (rd_T30 t334 x13_4).f1, (rd_T30 t334 x13_4).f2, (rd_T30 t334 x13_4).f3, (rd_T30 t334 x13_4).f4⟩ : S30) [.int .i64 ((rd_T30 t334 x13_4).f0), .int .i64 ((rd_T30 t334 x13_4).f1), .int .u8 ((rd_T30 t334 x13_4).f2), .int .i64 ((rd_T30 t334 x13_4).f3), .int .i64 ((rd_T30 t334 x13_4).f4)] (fun k_ => (w.heap.size ≤ k_)) (fun _ => False) rfl rfl ?aP (fun _ hk => hk.elim) ?aF ?aO ?aB ?aS ?aL ?_; (case aP => exact k30_mkM _ _ _ (⟨(rd_T30 t334 x13_4).f0, (rd_T30 t334 x13_4).f1, (rd_T30 t334 x13_4).f2, (rd_T30 t334 x13_4).f3, (rd_T30 t334 x13_4).f4⟩ : S30)); (case aB => exact (by repeat (first | (with_reducible first | exact HB.out | apply below_alloc | apply pw_below_drewN | apply below_drew1) | exact HB.out))); (case aF => exact (fun k_ hk => (Nat.le_trans (below_size (by repeat (first | (with_reducible first | exact HB.out | apply below_alloc | apply pw_below_drewN | apply below_drew1) | exact HB.out))) hk))); (case aO => exact (by (with_reducible repeat (first | apply Kd.R_alloc | apply Kd.R_drewN | apply Kd.R_drew)); exact HO_12.out)); (case aS => exact (below_size (by repeat (first | (with_reducible first | exact HB.out | apply below_alloc | apply pw_below_drewN | apply below_drew1) | exact HB.out)))); (case aL => have := LMc37.out; omega); intro v359 w39 ho hb hg hat; rw [← Ny358.out] at ho; have n0_ := Aside0.mk (Kd.V_afterv (ok := (fun k_ => ((P0_ k_ ∨ P1_ k_) ∨ w.heap.size ≤ k_) ∧ some k_ ≠ (.slice none 0 0 : Value).ownBlock ∧ some k_ ≠ (v355 : Value).ownBlock)) (by (with_reducible repeat (first | apply Kd.V_alloc | apply Kd.V_drewN | apply Kd.V_drew)); exact Kd.V_mono HO_1.out (fun _ hk => ⟨⟨hk.1, ⟨hk.2.1, hk.2.2.1⟩⟩, hk.2.2.2⟩)) hg hat); have n1_ := Aside0.mk (Kd.R_nil k30 30 w39 w.heap.size (fun k_ => (w.heap.size ≤ k_))); have n2_ := Aside0.mk (Kd.R_over' (by (with_reducible repeat (first | apply Kd.R_alloc | apply Kd.R_drewN | apply Kd.R_drew)); exact HO_9.out) (Kd.R_typed (by (with_reducible repeat (first | apply Kd.R_alloc | apply Kd.R_drewN | apply Kd.R_drew)); exact HO_12.out)) (by decide) hg); have n3_ := Aside0.mk (hb); have n4_ := Aside0.mk (ho); clear HO_1; clear HO_5; clear HO_9; clear HB; clear HO_12; have HO_1 := n0_; have HO_5 := n1_; have HO_9 := n2_; have HB := n3_; have HO360 := n4_; clear n0_ n1_ n2_ n3_ n4_; clear ho hb hg hat))
                            go_roundg k4
                            case measure => have := HJ3.out; have := HK2.out; have := HJ26.out; have := HK4.out; omega
                            case rel => exact ⟨(y358), (wrap64 (x13_4 + 1)), (by first | rfl | (simp; done) | (simp [*]; done)), H', ⟨by have := HJ3.out; have := HK2.out; have := HJ26.out; have := HK4.out; omega⟩, ⟨by (with_reducible repeat (first | apply Kd.V_alloc | apply Kd.V_drewN | apply Kd.V_drew)); exact Kd.V_mono HO_1.out (fun _ hk => ⟨hk.1.1, ⟨hk.1.2.1, ⟨hk.1.2.2, hk.2⟩⟩⟩)⟩, ⟨by (with_reducible repeat (first | apply Kd.R_alloc | apply Kd.R_drewN | apply Kd.R_drew)); exact Kd.R_nil _ _ _ _ _⟩, ⟨by (with_reducible repeat (first | apply Kd.R_alloc | apply Kd.R_drewN | apply Kd.R_drew)); exact HO_9.out⟩, ⟨by (with_reducible repeat (first | apply Kd.R_alloc | apply Kd.R_drewN | apply Kd.R_drew)); first | exact HO360.out | exact Kd.R_mono HO360.out (fun _ hk => ⟨hk, (by simp [Value.ownBlock])⟩)⟩, ⟨by repeat (first | (with_reducible first | exact HB.out | apply below_alloc | apply pw_below_drewN | apply below_drew1) | exact HB.out)⟩⟩
                          · rw [if_neg c37] at H
                            exact absurd H (by simp)
                        · rw [if_neg c36] at H
                          exact absurd H (by simp)
                      · rw [if_neg c35] at H
                        have c35b0 : decide (x13_4 < (t334.length : Int)) = false := decide_eq_false c35
                        clear c35
                        replace H := Option.bind_eq_some_iff.mp H
                        obtain ⟨⟨t361, t362, t363⟩, A400, H⟩ := H
                        replace H : (jotterlaw04_DocParts.l2 k4 t334 x5_2 t352 x12_4 t361 t362 t363 0) = some r := H
                        have A40 := Aside0.mk A400
                        clear A400
                        have H' := Aside0.mk H
                        clear H
                        obtain ⟨Ao41, co41, eo41⟩ := Kd.V_slice HO_1.out
                        subst eo41
                        obtain ⟨Ao42, co42, eo42⟩ := Kd.R_slice HO_12.out
                        subst eo42
                        go_wp2_with (first | ((with_reducible refine gate_callee (f := 29) rfl ?_); refine goesL_ (some 87) rfl rfl Try.func29 (by kernel_rfl) rfl #[.slice Ao42 x12_4.length co42] rfl (by (try simp only [List.map_toArray, List.map_cons, List.map_nil]); first | done | rfl | (simp only [List.length_drop, List.length_take]; rfl)) ?_; (with_reducible refine (doc_Replay.calls k4 _ _ x12_4 t361 t362 t363 _ ?side1 ?side2 A40.out).mono ?_); (case side1 => repeat (first | exact (Kd.R_reads' HO_12.out).2.2 | (with_reducible refine Kd.C_alloc ?_ _) | (with_reducible refine Kd.C_drewN ?_ _) | (with_reducible refine Kd.C_drew ?_))); (case side2 => exact (Kd.R_reads' HO_12.out).2.1); rintro e w43 ⟨v364, rfl, ho0, hb⟩; refine ⟨_, rfl, ?_⟩; have n0_ := Aside0.mk (Kd.V_elder' (by (with_reducible repeat (first | apply Kd.V_alloc | apply Kd.V_drewN | apply Kd.V_drew)); exact HO_1.out) (Kd.R_base ho0) hb); have n1_ := Aside0.mk (Kd.R_below (by (with_reducible repeat (first | apply Kd.R_alloc | apply Kd.R_drewN | apply Kd.R_drew)); exact HO_5.out) hb); have n2_ := Aside0.mk (Kd.R_elder' (by (with_reducible repeat (first | apply Kd.R_alloc | apply Kd.R_drewN | apply Kd.R_drew)); exact HO_9.out) (Kd.R_base ho0) hb); have n3_ := Aside0.mk (Kd.R_below (by (with_reducible repeat (first | apply Kd.R_alloc | apply Kd.R_drewN | apply Kd.R_drew)); exact HO_12.out) hb); have n4_ := Aside0.mk (Kd.R_lower (Kd.R_new' (Kd.R_newM (M := fun k_ => (w.heap.size ≤ k_)) ho0 (below_size (by repeat (first | (with_reducible first | exact HB.out | apply below_alloc | apply pw_below_drewN | apply below_drew1) | exact HB.out))) (fun k_ h_ => h_)) (Kd.R_lt (by (with_reducible repeat (first | apply Kd.R_alloc | apply Kd.R_drewN | apply Kd.R_drew)); exact HO_9.out))) (below_size (by repeat (first | (with_reducible first | exact HB.out | apply below_alloc | apply pw_below_drewN | apply below_drew1) | exact HB.out)))); have n5_ := Aside0.mk (below_step (by repeat (first | (with_reducible first | exact HB.out | apply below_alloc | apply pw_below_drewN | apply below_drew1) | exact HB.out)) hb); clear HO_1; clear HO_5; clear HO_9; clear HO_12; clear HB; have HO_1 := n0_; have HO_5 := n1_; have HO_9 := n2_; have HO_12 := n3_; have HO365 := n4_; have HB := n5_; clear n0_ n1_ n2_ n3_ n4_ n5_; (try clear hb); (try clear hb2); (try clear hk); (try clear hi); (try clear ho0)))
                        go_loopg [9, 17] k4 (fun kq v9 v17 w' => ∃ (x9_5 : List (S24)) (x17_5 : Int), v17 = .int .i64 x17_5 ∧ Aside0 (jotterlaw04_DocParts.l2 kq t334 x5_2 x9_5 x12_4 t361 t362 t363 x17_5 = some r) ∧ Aside0 (kq ≤ k4) ∧ Aside0 (Kd.V k30 30 w' w.heap.size (fun k_ => ((P0_ k_ ∨ P1_ k_) ∨ w.heap.size ≤ k_) ∧ some k_ ≠ ((.slice none 0 0) : Value).ownBlock ∧ some k_ ≠ (v9 : Value).ownBlock ∧ some k_ ≠ ((.slice Ao42 x12_4.length co42) : Value).ownBlock ∧ some k_ ≠ (v364 : Value).ownBlock) (.slice Ao41 t334.length co41) t334) ∧ Aside0 (Kd.R k30 30 w' w.heap.size (fun k_ => (w.heap.size ≤ k_) ∧ some k_ ≠ ((.slice Ao42 x12_4.length co42) : Value).ownBlock) (.slice none 0 0) ([] : List S30)) ∧ Aside0 (Kd.R k24 24 w' w.heap.size (fun k_ => (w.heap.size ≤ k_) ∧ some k_ ≠ (v364 : Value).ownBlock) v9 x9_5) ∧ Aside0 (Kd.R k30 30 w' w.heap.size (fun k_ => (w.heap.size ≤ k_) ∧ some k_ ≠ ((.slice none 0 0) : Value).ownBlock) (.slice Ao42 x12_4.length co42) x12_4) ∧ Aside0 (Kd.R k24 24 w' w.heap.size (fun k_ => (w.heap.size ≤ k_) ∧ some k_ ≠ (v9 : Value).ownBlock) v364 t361) ∧ Aside0 (Below w.heap.size w w'))
                        case atStart => exact ⟨(t352), (0), (by first | rfl | (simp; done) | (simp [*]; done)), H', ⟨Nat.le_refl _⟩, ⟨by (with_reducible repeat (first | apply Kd.V_alloc | apply Kd.V_drewN | apply Kd.V_drew)); exact Kd.V_mono HO_1.out (fun _ hk => ⟨hk.1.1, ⟨hk.1.2.1, ⟨hk.1.2.2.1, ⟨hk.1.2.2.2, hk.2⟩⟩⟩⟩)⟩, ⟨by (with_reducible repeat (first | apply Kd.R_alloc | apply Kd.R_drewN | apply Kd.R_drew)); exact Kd.R_nil _ _ _ _ _⟩, ⟨by (with_reducible repeat (first | apply Kd.R_alloc | apply Kd.R_drewN | apply Kd.R_drew)); exact HO_9.out⟩, ⟨by (with_reducible repeat (first | apply Kd.R_alloc | apply Kd.R_drewN | apply Kd.R_drew)); first | exact HO_12.out | exact Kd.R_mono HO_12.out (fun _ hk => ⟨hk, (by simp [Value.ownBlock])⟩)⟩, ⟨by (with_reducible repeat (first | apply Kd.R_alloc | apply Kd.R_drewN | apply Kd.R_drew)); exact Kd.R_mono HO365.out (fun _ hk => ⟨hk.1.1, hk.2⟩)⟩, ⟨by repeat (first | (with_reducible first | exact HB.out | apply below_alloc | apply pw_below_drewN | apply below_drew1) | exact HB.out)⟩⟩
                        case round =>
                          clear H'
                          try clear c1
                          try clear c2
                          try clear p2
                          try clear c3
                          try clear p3
                          try clear q3
                          try clear hx3
                          try clear c6
                          try clear c6b0
                          try clear c6b1
                          try clear p6
                          try clear c7
                          try clear c7b0
                          try clear c7b1
                          try clear q8
                          try clear c9
                          try clear c9b0
                          try clear c10
                          try clear c10b0
                          try clear c12
                          try clear c13
                          try clear c13b0
                          try clear c13b1
                          try clear c22
                          try clear c29
                          try clear c30
                          try clear c31
                          try clear c31b0
                          try clear c31b1
                          try clear c32
                          try clear c32b0
                          try clear c32b1
                          try clear c34
                          try clear p34
                          try clear q34
                          try clear hx34
                          try clear c35
                          try clear c35b0
                          try clear p35
                          try clear q35
                          try clear hx35
                          try clear c36
                          try clear c36b0
                          try clear c37
                          try clear hcz17_0
                          try clear hcz17_1
                          try clear hcz17_2
                          try clear hcz17_3
                          try clear hcz17_4
                          try clear hcz19_0
                          try clear hcz19_1
                          try clear hcz19_2
                          try clear hcz19_3
                          try clear hcz19_4
                          try clear hcz23_0
                          try clear hcz23_1
                          try clear hcz23_2
                          try clear hcz23_3
                          try clear hcz23_4
                          try clear hcz25_0
                          try clear hcz25_1
                          try clear hcz25_2
                          try clear hcz25_3
                          try clear hcz25_4
                          try clear hfz17_0
                          try clear hfz17_1
                          try clear hfz17_2
                          try clear hfz17_3
                          try clear hfz17_4
                          try clear hfz19_0
                          try clear hfz19_1
                          try clear hfz19_2
                          try clear hfz19_3
                          try clear hfz19_4
                          try clear hfz23_0
                          try clear hfz23_1
                          try clear hfz23_2
                          try clear hfz23_3
                          try clear hfz23_4
                          try clear hfz25_0
                          try clear hfz25_1
                          try clear hfz25_2
                          try clear hfz25_3
                          try clear hfz25_4
                          try clear hx342_0
                          try clear hx342_1
                          try clear hx342_2
                          try clear hx357_0
                          try clear hx357_1
                          try clear hx357_2
                          try clear hx357_3
                          try clear hx357_4
                          try clear p2
                          try clear p3
                          try clear p34
                          try clear p342
                          try clear p357
                          try clear p6
                          try clear q3
                          try clear q34
                          try clear q342
                          try clear q357
                          try clear q8
                          obtain ⟨x9_5, x17_5, rfl, HA, HK5, HO_1, HO_5, HO_9, HO_12, HO_14, HB⟩ := hrel
                          cases gk with
                          | zero => exact absurd HA.out (by simp [jotterlaw04_DocParts.l2])
                          | succ k5 =>
                            have H := HA.out
                            clear HA
                            simp only [jotterlaw04_DocParts.l2] at H
                            by_cases c44 : x17_5 < (t334.length : Int)
                            · rw [if_pos c44] at H
                              have c44b0 : decide (x17_5 < (t334.length : Int)) = true := decide_eq_true c44
                              clear c44
                              by_cases c45 : 0 ≤ x17_5
                              · rw [if_pos c45] at H
                                have c45b0 : decide (0 ≤ x17_5) = true := decide_eq_true c45
                                clear c45
                                replace H := Option.bind_eq_some_iff.mp H
                                obtain ⟨⟨t368, t371⟩, A460, H⟩ := H
                                replace H : (if t371 = 0 then (jotterlaw04_DocParts.l2 k5 t334 x5_2 t368 x12_4 t361 t362 t363 (wrap64 (x17_5 + 1))) else (if t363 = t371 then (if t362 = (wrap64 ((x5_2.length : Int) + x17_5)) then ((jotterlaw04_same.f k5 t361 x9_5).bind fun t372 => (some t372)) else (some false)) else (some false))) = some r := H
                                have A46 := Aside0.mk A460
                                clear A460
                                by_cases c47 : t371 = 0
                                · rw [if_pos c47] at H
                                  have c47b0 : (t371 == 0) = true := beq_iff_eq.mpr c47
                                  have c47b1 : (t371 != 0) = false := bne_eq_false_iff_eq.mpr c47
                                  clear c47
                                  have H' := Aside0.mk H
                                  clear H
                                  have p367 : 0 ≤ (x17_5 : Int) := of_decide_eq_true (by first | (with_reducible assumption) | assumption)
                                  have q367 : x17_5 < (t334.length : Int) := of_decide_eq_true (by first | (with_reducible assumption) | assumption)
                                  obtain ⟨ad367, e367, hx367_0, hx367_1, hx367_2, hx367_3, hx367_4⟩ := at_T30 (Kd.V_reads' HO_1.out).2.2 x17_5 p367 q367
                                  cases e367
                                  replace p367 := eq_true p367
                                  replace q367 := eq_true q367
                                  obtain ⟨Ao48, co48, eo48⟩ := Kd.R_slice HO_9.out
                                  subst eo48
                                  go_wp2_with (first | ((with_reducible refine gate_callee (f := 25) rfl ?_); refine goesL_ (some 103) rfl rfl Try.func25 (by kernel_rfl) rfl #[.slice Ao48 x9_5.length co48, .agg #[.int .i64 ((rd_T30 t334 x17_5).f0), .int .i64 ((rd_T30 t334 x17_5).f1), .int .u8 ((rd_T30 t334 x17_5).f2), .int .i64 ((rd_T30 t334 x17_5).f3), .int .i64 ((rd_T30 t334 x17_5).f4)]] rfl (by (try simp only [List.map_toArray, List.map_cons, List.map_nil]); first | done | rfl | (simp only [List.length_drop, List.length_take]; rfl)) ?_; (with_reducible refine (doc_Apply.calls k5 _ _ x9_5 ((rd_T30 t334 x17_5).f0) ((rd_T30 t334 x17_5).f1) ((rd_T30 t334 x17_5).f2) ((rd_T30 t334 x17_5).f3) ((rd_T30 t334 x17_5).f4) t368 t371 _ ?side1 ?side2 A46.out).mono ?_); (case side1 => repeat (first | exact (Kd.R_reads' HO_9.out).2.2 | (with_reducible refine Kd.C_alloc ?_ _) | (with_reducible refine Kd.C_drewN ?_ _) | (with_reducible refine Kd.C_drew ?_))); (case side2 => exact (Kd.R_reads' HO_9.out).2.1); rintro e w49 ⟨v369, rfl, ho0, hb⟩; refine ⟨_, rfl, ?_⟩; have n0_ := Aside0.mk (Kd.V_elder' (by (with_reducible repeat (first | apply Kd.V_alloc | apply Kd.V_drewN | apply Kd.V_drew)); exact HO_1.out) (Kd.R_base ho0) hb); have n1_ := Aside0.mk (Kd.R_below (by (with_reducible repeat (first | apply Kd.R_alloc | apply Kd.R_drewN | apply Kd.R_drew)); exact HO_5.out) hb); have n2_ := Aside0.mk (Kd.R_elder' (by (with_reducible repeat (first | apply Kd.R_alloc | apply Kd.R_drewN | apply Kd.R_drew)); exact HO_9.out) (Kd.R_base ho0) hb); have n3_ := Aside0.mk (Kd.R_below (by (with_reducible repeat (first | apply Kd.R_alloc | apply Kd.R_drewN | apply Kd.R_drew)); exact HO_12.out) hb); have n4_ := Aside0.mk (Kd.R_elder' (by (with_reducible repeat (first | apply Kd.R_alloc | apply Kd.R_drewN | apply Kd.R_drew)); exact HO_14.out) (Kd.R_base ho0) hb); have n5_ := Aside0.mk (Kd.R_lower (Kd.R_new' (Kd.R_new' (Kd.R_newM (M := fun k_ => (w.heap.size ≤ k_)) ho0 (below_size (by repeat (first | (with_reducible first | exact HB.out | apply below_alloc | apply pw_below_drewN | apply below_drew1) | exact HB.out))) (fun k_ h_ => h_)) (Kd.R_lt (by (with_reducible repeat (first | apply Kd.R_alloc | apply Kd.R_drewN | apply Kd.R_drew)); exact HO_9.out))) (Kd.R_lt (by (with_reducible repeat (first | apply Kd.R_alloc | apply Kd.R_drewN | apply Kd.R_drew)); exact HO_14.out))) (below_size (by repeat (first | (with_reducible first | exact HB.out | apply below_alloc | apply pw_below_drewN | apply below_drew1) | exact HB.out)))); have n6_ := Aside0.mk (below_step (by repeat (first | (with_reducible first | exact HB.out | apply below_alloc | apply pw_below_drewN | apply below_drew1) | exact HB.out)) hb); clear HO_1; clear HO_5; clear HO_9; clear HO_12; clear HO_14; clear HB; have HO_1 := n0_; have HO_5 := n1_; have HO_9 := n2_; have HO_12 := n3_; have HO_14 := n4_; have HO370 := n5_; have HB := n6_; clear n0_ n1_ n2_ n3_ n4_ n5_ n6_; (try clear hb); (try clear hb2); (try clear hk); (try clear hi); (try clear ho0)))
                                  go_roundg k5
                                  case measure => have := HJ3.out; have := HK2.out; have := HJ26.out; have := HK4.out; have := HK5.out; omega
                                  case rel => exact ⟨(t368), (wrap64 (x17_5 + 1)), (by first | rfl | (simp; done) | (simp [*]; done)), H', ⟨by have := HJ3.out; have := HK2.out; have := HJ26.out; have := HK4.out; have := HK5.out; omega⟩, ⟨by (with_reducible repeat (first | apply Kd.V_alloc | apply Kd.V_drewN | apply Kd.V_drew)); exact Kd.V_mono HO_1.out (fun _ hk => ⟨hk.1.1, ⟨hk.1.2.1, ⟨hk.2, ⟨hk.1.2.2.2.1, hk.1.2.2.2.2⟩⟩⟩⟩)⟩, ⟨by (with_reducible repeat (first | apply Kd.R_alloc | apply Kd.R_drewN | apply Kd.R_drew)); exact HO_5.out⟩, ⟨by (with_reducible repeat (first | apply Kd.R_alloc | apply Kd.R_drewN | apply Kd.R_drew)); exact Kd.R_mono HO370.out (fun _ hk => ⟨hk.1.1.1, hk.2⟩)⟩, ⟨by (with_reducible repeat (first | apply Kd.R_alloc | apply Kd.R_drewN | apply Kd.R_drew)); exact HO_12.out⟩, ⟨by (with_reducible repeat (first | apply Kd.R_alloc | apply Kd.R_drewN | apply Kd.R_drew)); exact Kd.R_mono HO_14.out (fun _ hk => ⟨hk.1.1, hk.2⟩)⟩, ⟨by repeat (first | (with_reducible first | exact HB.out | apply below_alloc | apply pw_below_drewN | apply below_drew1) | exact HB.out)⟩⟩
                                · rw [if_neg c47] at H
                                  have c47b0 : (t371 == 0) = false := beq_eq_false_iff_ne.mpr c47
                                  have c47b1 : (t371 != 0) = true := bne_iff_ne.mpr c47
                                  by_cases c50 : t363 = t371
                                  · rw [if_pos c50] at H
                                    have c50b0 : (t363 == t371) = true := beq_iff_eq.mpr c50
                                    have c50b1 : (t363 != t371) = false := bne_eq_false_iff_eq.mpr c50
                                    clear c50
                                    by_cases c51 : t362 = (wrap64 ((x5_2.length : Int) + x17_5))
                                    · rw [if_pos c51] at H
                                      have c51b0 : (t362 == (wrap64 ((x5_2.length : Int) + x17_5))) = true := beq_iff_eq.mpr c51
                                      have c51b1 : (t362 != (wrap64 ((x5_2.length : Int) + x17_5))) = false := bne_eq_false_iff_eq.mpr c51
                                      clear c51
                                      replace H := Option.bind_eq_some_iff.mp H
                                      obtain ⟨t372, A520, H⟩ := H
                                      replace H : (some t372) = some r := H
                                      have A52 := Aside0.mk A520
                                      clear A520
                                      obtain rfl := Option.some.inj H
                                      have p367 : 0 ≤ (x17_5 : Int) := of_decide_eq_true (by first | (with_reducible assumption) | assumption)
                                      have q367 : x17_5 < (t334.length : Int) := of_decide_eq_true (by first | (with_reducible assumption) | assumption)
                                      obtain ⟨ad367, e367, hx367_0, hx367_1, hx367_2, hx367_3, hx367_4⟩ := at_T30 (Kd.V_reads' HO_1.out).2.2 x17_5 p367 q367
                                      cases e367
                                      replace p367 := eq_true p367
                                      replace q367 := eq_true q367
                                      obtain ⟨Ao53, co53, eo53⟩ := Kd.R_slice HO_9.out
                                      subst eo53
                                      go_wp2_with (first | ((with_reducible refine gate_callee (f := 25) rfl ?_); refine goesL_ (some 103) rfl rfl Try.func25 (by kernel_rfl) rfl #[.slice Ao53 x9_5.length co53, .agg #[.int .i64 ((rd_T30 t334 x17_5).f0), .int .i64 ((rd_T30 t334 x17_5).f1), .int .u8 ((rd_T30 t334 x17_5).f2), .int .i64 ((rd_T30 t334 x17_5).f3), .int .i64 ((rd_T30 t334 x17_5).f4)]] rfl (by (try simp only [List.map_toArray, List.map_cons, List.map_nil]); first | done | rfl | (simp only [List.length_drop, List.length_take]; rfl)) ?_; (with_reducible refine (doc_Apply.calls k5 _ _ x9_5 ((rd_T30 t334 x17_5).f0) ((rd_T30 t334 x17_5).f1) ((rd_T30 t334 x17_5).f2) ((rd_T30 t334 x17_5).f3) ((rd_T30 t334 x17_5).f4) t368 t371 _ ?side1 ?side2 A46.out).mono ?_); (case side1 => repeat (first | exact (Kd.R_reads' HO_9.out).2.2 | (with_reducible refine Kd.C_alloc ?_ _) | (with_reducible refine Kd.C_drewN ?_ _) | (with_reducible refine Kd.C_drew ?_))); (case side2 => exact (Kd.R_reads' HO_9.out).2.1); rintro e w54 ⟨v369, rfl, ho0, hb⟩; refine ⟨_, rfl, ?_⟩; have n0_ := Aside0.mk (Kd.V_elder' (by (with_reducible repeat (first | apply Kd.V_alloc | apply Kd.V_drewN | apply Kd.V_drew)); exact HO_1.out) (Kd.R_base ho0) hb); have n1_ := Aside0.mk (Kd.R_below (by (with_reducible repeat (first | apply Kd.R_alloc | apply Kd.R_drewN | apply Kd.R_drew)); exact HO_5.out) hb); have n2_ := Aside0.mk (Kd.R_elder' (by (with_reducible repeat (first | apply Kd.R_alloc | apply Kd.R_drewN | apply Kd.R_drew)); exact HO_9.out) (Kd.R_base ho0) hb); have n3_ := Aside0.mk (Kd.R_below (by (with_reducible repeat (first | apply Kd.R_alloc | apply Kd.R_drewN | apply Kd.R_drew)); exact HO_12.out) hb); have n4_ := Aside0.mk (Kd.R_elder' (by (with_reducible repeat (first | apply Kd.R_alloc | apply Kd.R_drewN | apply Kd.R_drew)); exact HO_14.out) (Kd.R_base ho0) hb); have n5_ := Aside0.mk (Kd.R_lower (Kd.R_new' (Kd.R_new' (Kd.R_newM (M := fun k_ => (w.heap.size ≤ k_)) ho0 (below_size (by repeat (first | (with_reducible first | exact HB.out | apply below_alloc | apply pw_below_drewN | apply below_drew1) | exact HB.out))) (fun k_ h_ => h_)) (Kd.R_lt (by (with_reducible repeat (first | apply Kd.R_alloc | apply Kd.R_drewN | apply Kd.R_drew)); exact HO_9.out))) (Kd.R_lt (by (with_reducible repeat (first | apply Kd.R_alloc | apply Kd.R_drewN | apply Kd.R_drew)); exact HO_14.out))) (below_size (by repeat (first | (with_reducible first | exact HB.out | apply below_alloc | apply pw_below_drewN | apply below_drew1) | exact HB.out)))); have n6_ := Aside0.mk (below_step (by repeat (first | (with_reducible first | exact HB.out | apply below_alloc | apply pw_below_drewN | apply below_drew1) | exact HB.out)) hb); clear HO_1; clear HO_5; clear HO_9; clear HO_12; clear HO_14; clear HB; have HO_1 := n0_; have HO_5 := n1_; have HO_9 := n2_; have HO_12 := n3_; have HO_14 := n4_; have HO370 := n5_; have HB := n6_; clear n0_ n1_ n2_ n3_ n4_ n5_ n6_; (try clear hb); (try clear hb2); (try clear hk); (try clear hi); (try clear ho0); obtain ⟨Ao55, co55, eo55⟩ := Kd.R_slice HO_14.out; subst eo55) | (go_at_call 26; (with_reducible refine (jotterlaw04_same.calls k5 _ _ t361 _ _ x9_5 t372 _ ?side1 ?side2 ?side3 ?side4 A52.out).mono ?_); (case side1 => repeat (first | exact (Kd.R_reads' HO_14.out).2.2 | (with_reducible refine Kd.C_alloc ?_ _) | (with_reducible refine Kd.C_drewN ?_ _) | (with_reducible refine Kd.C_drew ?_))); (case side2 => exact (Kd.R_reads' HO_14.out).2.1); (case side3 => repeat (first | exact (Kd.R_reads' HO_9.out).2.2 | (with_reducible refine Kd.C_alloc ?_ _) | (with_reducible refine Kd.C_drewN ?_ _) | (with_reducible refine Kd.C_drew ?_))); (case side4 => exact (Kd.R_reads' HO_9.out).2.1); rintro e w' ⟨rfl, ⟨nd, rfl⟩⟩))
                                      go_ret
                                      exact ⟨by first | rfl | (simp [errW_none, errW_some] <;> rfl) | (simp [*, errW_none, errW_some] <;> rfl), by repeat (first | (with_reducible first | exact HB.out | apply below_alloc | apply pw_below_drewN | apply below_drew1) | exact HB.out)⟩
                                    · rw [if_neg c51] at H
                                      have c51b0 : (t362 == (wrap64 ((x5_2.length : Int) + x17_5))) = false := beq_eq_false_iff_ne.mpr c51
                                      have c51b1 : (t362 != (wrap64 ((x5_2.length : Int) + x17_5))) = true := bne_iff_ne.mpr c51
                                      obtain rfl := Option.some.inj H
                                      have p367 : 0 ≤ (x17_5 : Int) := of_decide_eq_true (by first | (with_reducible assumption) | assumption)
                                      have q367 : x17_5 < (t334.length : Int) := of_decide_eq_true (by first | (with_reducible assumption) | assumption)
                                      obtain ⟨ad367, e367, hx367_0, hx367_1, hx367_2, hx367_3, hx367_4⟩ := at_T30 (Kd.V_reads' HO_1.out).2.2 x17_5 p367 q367
                                      cases e367
                                      replace p367 := eq_true p367
                                      replace q367 := eq_true q367
                                      obtain ⟨Ao56, co56, eo56⟩ := Kd.R_slice HO_9.out
                                      subst eo56
                                      go_wp2_with (first | ((with_reducible refine gate_callee (f := 25) rfl ?_); refine goesL_ (some 103) rfl rfl Try.func25 (by kernel_rfl) rfl #[.slice Ao56 x9_5.length co56, .agg #[.int .i64 ((rd_T30 t334 x17_5).f0), .int .i64 ((rd_T30 t334 x17_5).f1), .int .u8 ((rd_T30 t334 x17_5).f2), .int .i64 ((rd_T30 t334 x17_5).f3), .int .i64 ((rd_T30 t334 x17_5).f4)]] rfl (by (try simp only [List.map_toArray, List.map_cons, List.map_nil]); first | done | rfl | (simp only [List.length_drop, List.length_take]; rfl)) ?_; (with_reducible refine (doc_Apply.calls k5 _ _ x9_5 ((rd_T30 t334 x17_5).f0) ((rd_T30 t334 x17_5).f1) ((rd_T30 t334 x17_5).f2) ((rd_T30 t334 x17_5).f3) ((rd_T30 t334 x17_5).f4) t368 t371 _ ?side1 ?side2 A46.out).mono ?_); (case side1 => repeat (first | exact (Kd.R_reads' HO_9.out).2.2 | (with_reducible refine Kd.C_alloc ?_ _) | (with_reducible refine Kd.C_drewN ?_ _) | (with_reducible refine Kd.C_drew ?_))); (case side2 => exact (Kd.R_reads' HO_9.out).2.1); rintro e w57 ⟨v369, rfl, ho0, hb⟩; refine ⟨_, rfl, ?_⟩; have n0_ := Aside0.mk (Kd.V_elder' (by (with_reducible repeat (first | apply Kd.V_alloc | apply Kd.V_drewN | apply Kd.V_drew)); exact HO_1.out) (Kd.R_base ho0) hb); have n1_ := Aside0.mk (Kd.R_below (by (with_reducible repeat (first | apply Kd.R_alloc | apply Kd.R_drewN | apply Kd.R_drew)); exact HO_5.out) hb); have n2_ := Aside0.mk (Kd.R_elder' (by (with_reducible repeat (first | apply Kd.R_alloc | apply Kd.R_drewN | apply Kd.R_drew)); exact HO_9.out) (Kd.R_base ho0) hb); have n3_ := Aside0.mk (Kd.R_below (by (with_reducible repeat (first | apply Kd.R_alloc | apply Kd.R_drewN | apply Kd.R_drew)); exact HO_12.out) hb); have n4_ := Aside0.mk (Kd.R_elder' (by (with_reducible repeat (first | apply Kd.R_alloc | apply Kd.R_drewN | apply Kd.R_drew)); exact HO_14.out) (Kd.R_base ho0) hb); have n5_ := Aside0.mk (Kd.R_lower (Kd.R_new' (Kd.R_new' (Kd.R_newM (M := fun k_ => (w.heap.size ≤ k_)) ho0 (below_size (by repeat (first | (with_reducible first | exact HB.out | apply below_alloc | apply pw_below_drewN | apply below_drew1) | exact HB.out))) (fun k_ h_ => h_)) (Kd.R_lt (by (with_reducible repeat (first | apply Kd.R_alloc | apply Kd.R_drewN | apply Kd.R_drew)); exact HO_9.out))) (Kd.R_lt (by (with_reducible repeat (first | apply Kd.R_alloc | apply Kd.R_drewN | apply Kd.R_drew)); exact HO_14.out))) (below_size (by repeat (first | (with_reducible first | exact HB.out | apply below_alloc | apply pw_below_drewN | apply below_drew1) | exact HB.out)))); have n6_ := Aside0.mk (below_step (by repeat (first | (with_reducible first | exact HB.out | apply below_alloc | apply pw_below_drewN | apply below_drew1) | exact HB.out)) hb); clear HO_1; clear HO_5; clear HO_9; clear HO_12; clear HO_14; clear HB; have HO_1 := n0_; have HO_5 := n1_; have HO_9 := n2_; have HO_12 := n3_; have HO_14 := n4_; have HO370 := n5_; have HB := n6_; clear n0_ n1_ n2_ n3_ n4_ n5_ n6_; (try clear hb); (try clear hb2); (try clear hk); (try clear hi); (try clear ho0)))
                                      go_ret
                                      exact ⟨by first | rfl | (simp [errW_none, errW_some] <;> rfl) | (simp [*, errW_none, errW_some] <;> rfl), by repeat (first | (with_reducible first | exact HB.out | apply below_alloc | apply pw_below_drewN | apply below_drew1) | exact HB.out)⟩
                                  · rw [if_neg c50] at H
                                    have c50b0 : (t363 == t371) = false := beq_eq_false_iff_ne.mpr c50
                                    have c50b1 : (t363 != t371) = true := bne_iff_ne.mpr c50
                                    obtain rfl := Option.some.inj H
                                    have p367 : 0 ≤ (x17_5 : Int) := of_decide_eq_true (by first | (with_reducible assumption) | assumption)
                                    have q367 : x17_5 < (t334.length : Int) := of_decide_eq_true (by first | (with_reducible assumption) | assumption)
                                    obtain ⟨ad367, e367, hx367_0, hx367_1, hx367_2, hx367_3, hx367_4⟩ := at_T30 (Kd.V_reads' HO_1.out).2.2 x17_5 p367 q367
                                    cases e367
                                    replace p367 := eq_true p367
                                    replace q367 := eq_true q367
                                    obtain ⟨Ao58, co58, eo58⟩ := Kd.R_slice HO_9.out
                                    subst eo58
                                    go_wp2_with (first | ((with_reducible refine gate_callee (f := 25) rfl ?_); refine goesL_ (some 103) rfl rfl Try.func25 (by kernel_rfl) rfl #[.slice Ao58 x9_5.length co58, .agg #[.int .i64 ((rd_T30 t334 x17_5).f0), .int .i64 ((rd_T30 t334 x17_5).f1), .int .u8 ((rd_T30 t334 x17_5).f2), .int .i64 ((rd_T30 t334 x17_5).f3), .int .i64 ((rd_T30 t334 x17_5).f4)]] rfl (by (try simp only [List.map_toArray, List.map_cons, List.map_nil]); first | done | rfl | (simp only [List.length_drop, List.length_take]; rfl)) ?_; (with_reducible refine (doc_Apply.calls k5 _ _ x9_5 ((rd_T30 t334 x17_5).f0) ((rd_T30 t334 x17_5).f1) ((rd_T30 t334 x17_5).f2) ((rd_T30 t334 x17_5).f3) ((rd_T30 t334 x17_5).f4) t368 t371 _ ?side1 ?side2 A46.out).mono ?_); (case side1 => repeat (first | exact (Kd.R_reads' HO_9.out).2.2 | (with_reducible refine Kd.C_alloc ?_ _) | (with_reducible refine Kd.C_drewN ?_ _) | (with_reducible refine Kd.C_drew ?_))); (case side2 => exact (Kd.R_reads' HO_9.out).2.1); rintro e w59 ⟨v369, rfl, ho0, hb⟩; refine ⟨_, rfl, ?_⟩; have n0_ := Aside0.mk (Kd.V_elder' (by (with_reducible repeat (first | apply Kd.V_alloc | apply Kd.V_drewN | apply Kd.V_drew)); exact HO_1.out) (Kd.R_base ho0) hb); have n1_ := Aside0.mk (Kd.R_below (by (with_reducible repeat (first | apply Kd.R_alloc | apply Kd.R_drewN | apply Kd.R_drew)); exact HO_5.out) hb); have n2_ := Aside0.mk (Kd.R_elder' (by (with_reducible repeat (first | apply Kd.R_alloc | apply Kd.R_drewN | apply Kd.R_drew)); exact HO_9.out) (Kd.R_base ho0) hb); have n3_ := Aside0.mk (Kd.R_below (by (with_reducible repeat (first | apply Kd.R_alloc | apply Kd.R_drewN | apply Kd.R_drew)); exact HO_12.out) hb); have n4_ := Aside0.mk (Kd.R_elder' (by (with_reducible repeat (first | apply Kd.R_alloc | apply Kd.R_drewN | apply Kd.R_drew)); exact HO_14.out) (Kd.R_base ho0) hb); have n5_ := Aside0.mk (Kd.R_lower (Kd.R_new' (Kd.R_new' (Kd.R_newM (M := fun k_ => (w.heap.size ≤ k_)) ho0 (below_size (by repeat (first | (with_reducible first | exact HB.out | apply below_alloc | apply pw_below_drewN | apply below_drew1) | exact HB.out))) (fun k_ h_ => h_)) (Kd.R_lt (by (with_reducible repeat (first | apply Kd.R_alloc | apply Kd.R_drewN | apply Kd.R_drew)); exact HO_9.out))) (Kd.R_lt (by (with_reducible repeat (first | apply Kd.R_alloc | apply Kd.R_drewN | apply Kd.R_drew)); exact HO_14.out))) (below_size (by repeat (first | (with_reducible first | exact HB.out | apply below_alloc | apply pw_below_drewN | apply below_drew1) | exact HB.out)))); have n6_ := Aside0.mk (below_step (by repeat (first | (with_reducible first | exact HB.out | apply below_alloc | apply pw_below_drewN | apply below_drew1) | exact HB.out)) hb); clear HO_1; clear HO_5; clear HO_9; clear HO_12; clear HO_14; clear HB; have HO_1 := n0_; have HO_5 := n1_; have HO_9 := n2_; have HO_12 := n3_; have HO_14 := n4_; have HO370 := n5_; have HB := n6_; clear n0_ n1_ n2_ n3_ n4_ n5_ n6_; (try clear hb); (try clear hb2); (try clear hk); (try clear hi); (try clear ho0)))
                                    go_ret
                                    exact ⟨by first | rfl | (simp [errW_none, errW_some] <;> rfl) | (simp [*, errW_none, errW_some] <;> rfl), by repeat (first | (with_reducible first | exact HB.out | apply below_alloc | apply pw_below_drewN | apply below_drew1) | exact HB.out)⟩
                              · rw [if_neg c45] at H
                                exact absurd H (by simp)
                            · rw [if_neg c44] at H
                              have c44b0 : decide (x17_5 < (t334.length : Int)) = false := decide_eq_false c44
                              clear c44
                              by_cases c60 : t363 = 0
                              · rw [if_pos c60] at H
                                have c60b0 : (t363 == 0) = true := beq_iff_eq.mpr c60
                                have c60b1 : (t363 != 0) = false := bne_eq_false_iff_eq.mpr c60
                                clear c60
                                by_cases c61 : t362 = (x12_4.length : Int)
                                · rw [if_pos c61] at H
                                  have c61b0 : (t362 == (x12_4.length : Int)) = true := beq_iff_eq.mpr c61
                                  have c61b1 : (t362 != (x12_4.length : Int)) = false := bne_eq_false_iff_eq.mpr c61
                                  clear c61
                                  replace H := Option.bind_eq_some_iff.mp H
                                  obtain ⟨t366, A620, H⟩ := H
                                  replace H : (some t366) = some r := H
                                  have A62 := Aside0.mk A620
                                  clear A620
                                  obtain rfl := Option.some.inj H
                                  obtain ⟨Ao63, co63, eo63⟩ := Kd.R_slice HO_14.out
                                  subst eo63
                                  obtain ⟨Ao64, co64, eo64⟩ := Kd.R_slice HO_9.out
                                  subst eo64
                                  go_wp2_with (first | (go_at_call 26; (with_reducible refine (jotterlaw04_same.calls k5 _ _ t361 _ _ x9_5 t366 _ ?side1 ?side2 ?side3 ?side4 A62.out).mono ?_); (case side1 => repeat (first | exact (Kd.R_reads' HO_14.out).2.2 | (with_reducible refine Kd.C_alloc ?_ _) | (with_reducible refine Kd.C_drewN ?_ _) | (with_reducible refine Kd.C_drew ?_))); (case side2 => exact (Kd.R_reads' HO_14.out).2.1); (case side3 => repeat (first | exact (Kd.R_reads' HO_9.out).2.2 | (with_reducible refine Kd.C_alloc ?_ _) | (with_reducible refine Kd.C_drewN ?_ _) | (with_reducible refine Kd.C_drew ?_))); (case side4 => exact (Kd.R_reads' HO_9.out).2.1); rintro e w' ⟨rfl, ⟨nd, rfl⟩⟩))
                                  go_ret
                                  exact ⟨by first | rfl | (simp [errW_none, errW_some] <;> rfl) | (simp [*, errW_none, errW_some] <;> rfl), by repeat (first | (with_reducible first | exact HB.out | apply below_alloc | apply pw_below_drewN | apply below_drew1) | exact HB.out)⟩
                                · rw [if_neg c61] at H
                                  have c61b0 : (t362 == (x12_4.length : Int)) = false := beq_eq_false_iff_ne.mpr c61
                                  have c61b1 : (t362 != (x12_4.length : Int)) = true := bne_iff_ne.mpr c61
                                  obtain rfl := Option.some.inj H
                                  go_wp2
                                  go_ret
                                  exact ⟨by first | rfl | (simp [errW_none, errW_some] <;> rfl) | (simp [*, errW_none, errW_some] <;> rfl), by repeat (first | (with_reducible first | exact HB.out | apply below_alloc | apply pw_below_drewN | apply below_drew1) | exact HB.out)⟩
                              · rw [if_neg c60] at H
                                have c60b0 : (t363 == 0) = false := beq_eq_false_iff_ne.mpr c60
                                have c60b1 : (t363 != 0) = true := bne_iff_ne.mpr c60
                                obtain rfl := Option.some.inj H
                                go_wp2
                                go_ret
                                exact ⟨by first | rfl | (simp [errW_none, errW_some] <;> rfl) | (simp [*, errW_none, errW_some] <;> rfl), by repeat (first | (with_reducible first | exact HB.out | apply below_alloc | apply pw_below_drewN | apply below_drew1) | exact HB.out)⟩

end Go.Proofs.Ytjdhoipaanlipaa.Q
