/- Go functions of the seat, each as a Lean function that tells its answer, and the proof that the call gives it. Condition: the arguments are read as lists. Laid by a program of this session. -/
import Derived.Test.YtjdhoipaanlipaaQx0
namespace Go.Proofs.Ytjdhoipaanlipaa.Q
open Go.RowKit Go.Proofs.YtjdhoipaanlipaaW.PrintWords Go.Proofs.YtjdhoipaanlipaaW.PrintLast Go.Proofs.YtjdhoipaanlipaaW.PrintMore
attribute [local go_sem] max2_int min2_int max_two min_two max_three min_three max_four min_four   -- for this text's walks alone
set_option linter.unusedVariables false
set_option linter.unusedSimpArgs false

/-! ### jotterlaw04_changed: function 36 -/
mutual
def jotterlaw04_changed.l0 : Nat → Int → Int → List (S30) → List Int → Int → Option ((List (S30)))
  | 0, _, _, _, _, _ => none
  | k + 1, x0, x1, x5, x6, x7 => if x7 < (x6.length : Int) then (if 0 ≤ x7 then (if x0 = 0 then (if x5.length < 3518437208883 then (jotterlaw04_changed.l0 k x0 x1 (x5 ++ [(⟨0, 0, 0, 1, 3⟩ : S30)]) x6 (wrap64 (x7 + 1))) else (none)) else (if x5.length < 3518437208883 then (jotterlaw04_changed.l0 k x0 x1 (x5 ++ [(⟨2, rd x6 x7, 0, 1, 3⟩ : S30)]) x6 (wrap64 (x7 + 1))) else (none))) else (none)) else (jotterlaw04_changed.l1 k x1 x5 x6 0)
def jotterlaw04_changed.l1 : Nat → Int → List (S30) → List Int → Int → Option ((List (S30)))
  | 0, _, _, _, _ => none
  | k + 1, x1, x5, x6, x9 => if x9 < 2 then (if 0 ≤ x9 then (if x9 < (x6.length : Int) then (if x5.length < 3518437208883 then (jotterlaw04_changed.l1 k x1 (x5 ++ [(⟨1, rd x6 x9, (32 + (Int.tmod x1 95)) % 256, 1, 4⟩ : S30)]) x6 (wrap64 (x9 + 1))) else (none)) else (none)) else (none)) else (some x5)
end
def jotterlaw04_changed.f (k : Nat) (a0 : Int) (a1 : Int) : Option ((List (S30))) := jotterlaw04_changed.l0 k a0 a1 ([] : List (S30)) (([0, wrap64 (Int.tdiv a0 2), wrap64 (a0 - 1)] : List Int)) 0
theorem jotterlaw04_changed.mono_l : ∀ k, (∀ y0 y1 y2 y3 y4, LeO (jotterlaw04_changed.l0 k y0 y1 y2 y3 y4) (jotterlaw04_changed.l0 (k + 1) y0 y1 y2 y3 y4)) ∧ (∀ y0 y1 y2 y3, LeO (jotterlaw04_changed.l1 k y0 y1 y2 y3) (jotterlaw04_changed.l1 (k + 1) y0 y1 y2 y3))
  | 0 => ⟨fun _ _ _ _ _ r h => by simp [jotterlaw04_changed.l0] at h, fun _ _ _ _ r h => by simp [jotterlaw04_changed.l1] at h⟩
  | k + 1 => by
    obtain ⟨ih0, ih1⟩ := jotterlaw04_changed.mono_l k
    refine ⟨?_, ?_⟩
    · intro y0 y1 y2 y3 y4
      unfold jotterlaw04_changed.l0
      repeat' first
      | (with_reducible exact ih0 _ _ _ _ _)
      | (with_reducible exact ih1 _ _ _ _)
      | (with_reducible exact LeO.refl _)
      | (with_reducible exact LeO.none _)
      | (with_reducible refine LeO.ite ?_ ?_)
      | (with_reducible refine LeO.bind ?_ (fun _ => ?_))
      | exact ih0 _ _ _ _ _
      | exact ih1 _ _ _ _
      | exact LeO.none _
      | refine LeO.ite ?_ ?_
      | refine LeO.bind ?_ (fun _ => ?_)
    · intro y0 y1 y2 y3
      unfold jotterlaw04_changed.l1
      repeat' first
      | (with_reducible exact ih0 _ _ _ _ _)
      | (with_reducible exact ih1 _ _ _ _)
      | (with_reducible exact LeO.refl _)
      | (with_reducible exact LeO.none _)
      | (with_reducible refine LeO.ite ?_ ?_)
      | (with_reducible refine LeO.bind ?_ (fun _ => ?_))
      | exact ih0 _ _ _ _ _
      | exact ih1 _ _ _ _
      | exact LeO.none _
      | refine LeO.ite ?_ ?_
      | refine LeO.bind ?_ (fun _ => ?_)
theorem jotterlaw04_changed.mono : ∀ a0 a1 k, LeO (jotterlaw04_changed.f k a0 a1) (jotterlaw04_changed.f (k + 1) a0 a1) := by
  intro a0 a1 k
  obtain ⟨ih0, ih1⟩ := jotterlaw04_changed.mono_l k
  unfold jotterlaw04_changed.f
  repeat' first
      | (with_reducible exact ih0 _ _ _ _ _)
      | (with_reducible exact ih1 _ _ _ _)
      | (with_reducible exact LeO.refl _)
      | (with_reducible exact LeO.none _)
      | (with_reducible refine LeO.ite ?_ ?_)
      | (with_reducible refine LeO.bind ?_ (fun _ => ?_))
      | exact ih0 _ _ _ _ _
      | exact ih1 _ _ _ _
      | exact LeO.none _
      | refine LeO.ite ?_ ?_
      | refine LeO.bind ?_ (fun _ => ?_)
set_option maxHeartbeats 8000000 in
set_option maxRecDepth 100000 in
theorem jotterlaw04_changed.calls (k : Nat) (a0 : Int) (a1 : Int) (r : List (S30)) (w : World) (h : jotterlaw04_changed.f k a0 a1 = some r) :
    Calls Try.prog 36 #[.int .i64 a0, .int .u8 a1] w fun e w' => ∃ v0_ : Value, e = .returned (v0_) ∧ Kd.R k30 30 w' w.heap.size (fun _ => True) v0_ r ∧ Below w.heap.size w w' := by
  have hu30 := Try.underlying30
  have HB := Aside0.mk (Below.refl w.heap.size w)
  have H : (jotterlaw04_changed.l0 k a0 a1 ([] : List (S30)) (([0, wrap64 (Int.tdiv a0 2), wrap64 (a0 - 1)] : List Int)) 0) = some r := h
  clear h
  obtain ⟨y488, hy488⟩ : ∃ y_ : List Int, y_ = (([0, wrap64 (Int.tdiv a0 2), wrap64 (a0 - 1)] : List Int)) := ⟨_, rfl⟩
  replace H : (jotterlaw04_changed.l0 k a0 a1 ([] : List (S30)) y488 0) = some r := by first | (rw [hy488]; with_reducible exact H) | (have H2_ := (Option.bind_some _ _).symm.trans H; rw [hy488]; with_reducible exact H2_) | (have H2_ := (Option.bind_some _ _).symm.trans H; with_reducible exact H2_) | with_reducible exact H | (rw [hy488]; exact H) | exact H
  have Ny488 := Aside0.mk hy488
  clear hy488
  have H' := Aside0.mk H
  clear H
  go_enter Try.func36, Try.ntmps36
  go_wp2_with (first | ((with_reducible refine gate_dst (N := 14) rfl ?_); refine Kd.R_lit (Kd.int .i64) _ 3 ?hg (N := 14) ?hd (xs := ([0, wrap64 (Int.tdiv a0 2), wrap64 (a0 - 1)] : List Int)) (inner := [.int .i64 0, .int .i64 (wrap64 (Int.tdiv a0 2)), .int .i64 (wrap64 (a0 - 1))]) (ok := fun _ => True) (okp := fun _ => True) ?hr ?hp (fun _ hk => hk) trivial (Below.refl _ _) (Nat.le_refl _) (by simp) ?_; (case hd => rfl); (case hg => rfl); (case hr => first | (go_simp; done) | (go_simp; rfl)); (case hp => exact (Reps.one (show Kd.M (Kd.int .i64) _ _ _ 0 [.int .i64 0] from rfl) (Reps.one (show Kd.M (Kd.int .i64) _ _ _ (wrap64 (Int.tdiv a0 2)) [.int .i64 (wrap64 (Int.tdiv a0 2))] from rfl) (Reps.one (show Kd.M (Kd.int .i64) _ _ _ (wrap64 (a0 - 1)) [.int .i64 (wrap64 (a0 - 1))] from rfl) (Reps.none _ _))))); intro v489 w3 ho4 hb hg_ hnew_; clear hg_ hnew_; (first | rw [← Ny488.out] at ho4 | (simp only [Int.reduceToNat] at ho4; rw [← Ny488.out] at ho4)); have n0_ := Aside0.mk (Kd.R_lower ho4 (below_size (by repeat (first | (with_reducible first | exact HB.out | apply below_alloc | apply pw_below_drewN | apply below_drew1) | exact HB.out)))); have n1_ := Aside0.mk (below_step (by repeat (first | (with_reducible first | exact HB.out | apply below_alloc | apply pw_below_drewN | apply below_drew1) | exact HB.out)) hb); clear HB; have HO490 := n0_; have HB := n1_; clear n0_ n1_; clear hb ho4))
  go_loopg [5, 7] k (fun kq v5 v7 w' => ∃ (x5_1 : List (S30)) (x7_1 : Int), v7 = .int .i64 x7_1 ∧ Aside0 (jotterlaw04_changed.l0 kq a0 a1 x5_1 y488 x7_1 = some r) ∧ Aside0 (kq ≤ k) ∧ Aside0 (Kd.R k30 30 w' w.heap.size (fun _ => True) v5 x5_1) ∧ Aside0 (Kd.R (Kd.int .i64) 3 w' w.heap.size (fun _ => True) v489 y488) ∧ Aside0 (Below w.heap.size w w'))
  case atStart => exact ⟨(([] : List (S30))), (0), (by first | rfl | (simp; done) | (simp [*]; done)), H', ⟨Nat.le_refl _⟩, ⟨by first | exact Kd.R_nil _ _ _ _ _ | exact Kd.N_nil _ _ _ _ _ | exact Kd.V_nil _ _ _ _ _ | exact Kd.Q_nil _ _ _ _ _ | exact Kd.S_nil _ _ _ _ _⟩, ⟨by (with_reducible repeat (first | apply Kd.R_alloc | apply Kd.R_drewN | apply Kd.R_drew)); exact HO490.out⟩, ⟨by repeat (first | (with_reducible first | exact HB.out | apply below_alloc | apply pw_below_drewN | apply below_drew1) | exact HB.out)⟩⟩
  case round =>
    clear H'
    try clear p2
    try clear c3
    obtain ⟨x5_1, x7_1, rfl, HA, HK1, HO_5, HO_6, HB⟩ := hrel
    cases gk with
    | zero => exact absurd HA.out (by simp [jotterlaw04_changed.l0])
    | succ k1 =>
      have H := HA.out
      clear HA
      simp only [jotterlaw04_changed.l0] at H
      by_cases c5 : x7_1 < (y488.length : Int)
      · rw [if_pos c5] at H
        have c5b0 : decide (x7_1 < (y488.length : Int)) = true := decide_eq_true c5
        clear c5
        by_cases c6 : 0 ≤ x7_1
        · rw [if_pos c6] at H
          have c6b0 : decide (0 ≤ x7_1) = true := decide_eq_true c6
          clear c6
          by_cases c7 : a0 = 0
          · rw [if_pos c7] at H
            have c7b0 : (a0 == 0) = true := beq_iff_eq.mpr c7
            have c7b1 : (a0 != 0) = false := bne_eq_false_iff_eq.mpr c7
            clear c7
            by_cases c8 : x5_1.length < 3518437208883
            · rw [if_pos c8] at H
              have LMc8 := Aside0.mk c8
              clear c8
              obtain ⟨y493, hy493⟩ : ∃ y_ : List (S30), y_ = (x5_1 ++ [(⟨0, 0, 0, 1, 3⟩ : S30)]) := ⟨_, rfl⟩
              replace H : (jotterlaw04_changed.l0 k1 a0 a1 y493 y488 (wrap64 (x7_1 + 1))) = some r := by first | (rw [hy493]; with_reducible exact H) | (have H2_ := (Option.bind_some _ _).symm.trans H; rw [hy493]; with_reducible exact H2_) | (have H2_ := (Option.bind_some _ _).symm.trans H; with_reducible exact H2_) | with_reducible exact H | (rw [hy493]; exact H) | exact H
              have Ny493 := Aside0.mk hy493
              clear hy493
              have H' := Aside0.mk H
              clear H
              obtain ⟨Ao9, co9, eo9⟩ := Kd.R_slice HO_6.out
              subst eo9
              have p491 : 0 ≤ (x7_1 : Int) := of_decide_eq_true (by first | (with_reducible assumption) | assumption)
              have q491 : x7_1 < (y488.length : Int) := of_decide_eq_true (by first | (with_reducible assumption) | assumption)
              obtain ⟨ad491, e491, hx491_0⟩ := Kd.at_int (Kd.R_reads' HO_6.out).2.2 x7_1 p491 q491
              cases e491
              replace p491 := eq_true p491
              replace q491 := eq_true q491
              go_upto_region 7 with (first | ((with_reducible refine gate_dst (N := 8) rfl ?_); refine box_event ?hg (N := 8) ?hd (cs := #[.int .i64 0, .int .i64 0, .int .u8 0, .int .i64 0, .int .i64 0]) (t := 30) ?hr ?_; (case hd => rfl); (case hg => rfl); (case hr => first | (go_simp; done) | (go_simp; rfl)); intro gb492 hg w10 hbox hb; have n0_ := Aside0.mk (Kd.R_below (Kd.R_elderB (by (with_reducible repeat (first | apply Kd.R_alloc | apply Kd.R_drewN | apply Kd.R_drew)); exact HO_5.out) gb492 (Nat.le_of_eq hg.symm)) hb); have n1_ := Aside0.mk (Kd.R_below (by (with_reducible repeat (first | apply Kd.R_alloc | apply Kd.R_drewN | apply Kd.R_drew)); exact HO_6.out) hb); have n2_ := Aside0.mk (below_step (by repeat (first | (with_reducible first | exact HB.out | apply below_alloc | apply pw_below_drewN | apply below_drew1) | exact HB.out)) hb); have n3_ := Aside0.mk (hbox); have n4_ := Aside0.mk ((by rw [hg]; exact (below_size (by repeat (first | (with_reducible first | exact HB.out | apply below_alloc | apply pw_below_drewN | apply below_drew1) | exact HB.out))) : w.heap.size ≤ gb492)); have n5_ := Aside0.mk ((by rw [hg]; exact (below_size (by repeat (first | (with_reducible first | exact HB.out | apply below_alloc | apply pw_below_drewN | apply below_drew1) | exact HB.out))) : w.heap.size ≤ gb492)); clear HO_5; clear HO_6; clear HB; have HO_5 := n0_; have HO_6 := n1_; have HB := n2_; have BK492 := n3_; have GW492 := n4_; have GE492 := n5_; clear n0_ n1_ n2_ n3_ n4_ n5_; clear hb hbox hg; have hcz11_0 : w10.cell? ⟨gb492, 0, none⟩ = some (.int .i64 0) := (blk_cell BK492.out 0).trans rfl; have hcz11_1 : w10.cell? ⟨gb492, 1, none⟩ = some (.int .i64 0) := (blk_cell BK492.out 1).trans rfl; have hcz11_2 : w10.cell? ⟨gb492, 2, none⟩ = some (.int .u8 0) := (blk_cell BK492.out 2).trans rfl; have hcz11_3 : w10.cell? ⟨gb492, 3, none⟩ = some (.int .i64 0) := (blk_cell BK492.out 3).trans rfl; have hcz11_4 : w10.cell? ⟨gb492, 4, none⟩ = some (.int .i64 0) := (blk_cell BK492.out 4).trans rfl; have hfz11_0 := blk_frozen BK492.out 0; have hfz11_1 := blk_frozen BK492.out 1; have hfz11_2 := blk_frozen BK492.out 2; have hfz11_3 := blk_frozen BK492.out 3; have hfz11_4 := blk_frozen BK492.out 4))
              obtain ⟨wn, hwn⟩ : ∃ wn, wn = ((((w10.setCell ⟨gb492, 0, none⟩ (.int .i64 2)).setCell ⟨gb492, 1, none⟩ (.int .i64 (rd y488 x7_1))).setCell ⟨gb492, 2, none⟩ (.int .u8 0)).setCell ⟨gb492, 3, none⟩ (.int .i64 1)).setCell ⟨gb492, 4, none⟩ (.int .i64 3) := ⟨_, rfl⟩
              rw [← hwn]
              have n0_ := Aside0.mk (show Kd.R k30 30 wn w.heap.size _ u5 x5_1 by rw [hwn]; exact (Kd.R_far (p := ⟨gb492, 4, none⟩) (Kd.R_far (p := ⟨gb492, 3, none⟩) (Kd.R_far (p := ⟨gb492, 2, none⟩) (Kd.R_far (p := ⟨gb492, 1, none⟩) (Kd.R_far (p := ⟨gb492, 0, none⟩) HO_5.out (fun _ hk => hk.2) (.int .i64 2)) (fun _ hk => hk.2) (.int .i64 (rd y488 x7_1))) (fun _ hk => hk.2) (.int .u8 0)) (fun _ hk => hk.2) (.int .i64 1)) (fun _ hk => hk.2) (.int .i64 3)))
              have n1_ := Aside0.mk (show Kd.R (Kd.int .i64) 3 wn w.heap.size (fun _ => True) _ y488 by rw [hwn]; exact Kd.R_mono ((Kd.R_far (p := ⟨gb492, 4, none⟩) (Kd.R_far (p := ⟨gb492, 3, none⟩) (Kd.R_far (p := ⟨gb492, 2, none⟩) (Kd.R_far (p := ⟨gb492, 1, none⟩) (Kd.R_far (p := ⟨gb492, 0, none⟩) (Kd.R_types HO_6.out BK492.out (by decide)) (fun _ hk => hk.2) (.int .i64 2)) (fun _ hk => hk.2) (.int .i64 (rd y488 x7_1))) (fun _ hk => hk.2) (.int .u8 0)) (fun _ hk => hk.2) (.int .i64 1)) (fun _ hk => hk.2) (.int .i64 3))) (fun _ _ => trivial))
              have n2_ := Aside0.mk (show Below w.heap.size w wn by rw [hwn]; repeat (first | exact HB.out | refine below_set ?_ GE492.out))
              have n3_ := Aside0.mk (show wn.heap[gb492]? = some (.cells #[.int .i64 2, .int .i64 (rd y488 x7_1), .int .u8 0, .int .i64 1, .int .i64 3] 30 (0, 0)) by rw [hwn]; refine blk_put (cs := #[.int .i64 2, .int .i64 (rd y488 x7_1), .int .u8 0, .int .i64 1, .int .i64 0]) ?_ 4 _ rfl; refine blk_put (cs := #[.int .i64 2, .int .i64 (rd y488 x7_1), .int .u8 0, .int .i64 0, .int .i64 0]) ?_ 3 _ rfl; refine blk_put (cs := #[.int .i64 2, .int .i64 (rd y488 x7_1), .int .u8 0, .int .i64 0, .int .i64 0]) ?_ 2 _ rfl; refine blk_put (cs := #[.int .i64 2, .int .i64 0, .int .u8 0, .int .i64 0, .int .i64 0]) ?_ 1 _ rfl; refine blk_put (cs := #[.int .i64 0, .int .i64 0, .int .u8 0, .int .i64 0, .int .i64 0]) ?_ 0 _ rfl; exact BK492.out)
              clear HO_5 HO_6 HB BK492 hcz11_0 hcz11_1 hcz11_2 hcz11_3 hcz11_4 hfz11_0 hfz11_1 hfz11_2 hfz11_3 hfz11_4 hwn hx491_0
              have HO_5 := n0_
              have HO_6 := n1_
              have HB := n2_
              have BK492 := n3_
              clear n0_ n1_ n2_ n3_
              have hcz11_0 : wn.cell? ⟨gb492, 0, none⟩ = some (.int .i64 2) := (blk_cell BK492.out 0).trans rfl
              have hfz11_0 := blk_frozen BK492.out 0
              have hcz11_1 : wn.cell? ⟨gb492, 1, none⟩ = some (.int .i64 (rd y488 x7_1)) := (blk_cell BK492.out 1).trans rfl
              have hfz11_1 := blk_frozen BK492.out 1
              have hcz11_2 : wn.cell? ⟨gb492, 2, none⟩ = some (.int .u8 0) := (blk_cell BK492.out 2).trans rfl
              have hfz11_2 := blk_frozen BK492.out 2
              have hcz11_3 : wn.cell? ⟨gb492, 3, none⟩ = some (.int .i64 1) := (blk_cell BK492.out 3).trans rfl
              have hfz11_3 := blk_frozen BK492.out 3
              have hcz11_4 : wn.cell? ⟨gb492, 4, none⟩ = some (.int .i64 3) := (blk_cell BK492.out 4).trans rfl
              have hfz11_4 := blk_frozen BK492.out 4
              go_wp2_with ((with_reducible refine gate_builtin (b := .append) (xs := #[.tmp 29, .tmp 31]) rfl ?_); at_builtin; refine Kd.R_append k30 (w0 := w) w.heap.size rfl (.tmp 29) (.tmp 31) 37 30 (.agg #[(.int .i64 0), (.int .i64 0), (.int .u8 0), (.int .i64 0), (.int .i64 0)]) 40 rfl Try.underlying37 info30 rfl (by decide) (by omega) u5 x5_1 (⟨0, 0, 0, 1, 3⟩ : S30) [.int .i64 0, .int .i64 0, .int .u8 0, .int .i64 1, .int .i64 3] (fun k_ => k_ ≠ gb492) (fun _ => False) rfl (by first | (go_simp; done) | (go_simp; rfl)) ?aP (fun _ hk => hk.elim) ?aF ?aO ?aB ?aS ?aL ?_; (case aP => exact k30_mkM _ _ _ (⟨0, 0, 0, 1, 3⟩ : S30)); (case aB => exact (by repeat (first | (with_reducible first | exact HB.out | apply below_alloc | apply pw_below_drewN | apply below_drew1 | refine below_set ?_ GE492.out) | exact HB.out))); (case aF => exact (fun k_ hk => Kd.freshB (g := gb492) (o := .cells #[.int .i64 0, .int .i64 0, .int .u8 0, .int .i64 1, .int .i64 3] 30 (0, 0)) (by (with_reducible repeat (first | refine blk_drewN ?_ _ | refine blk_drew ?_ | refine blk_alloc ?_ _)); refine blk_put (cs := #[.int .i64 0, .int .i64 0, .int .u8 0, .int .i64 1, .int .i64 3]) ?_ 4 _ rfl; (with_reducible repeat (first | refine blk_drewN ?_ _ | refine blk_drew ?_ | refine blk_alloc ?_ _)); refine blk_put (cs := #[.int .i64 0, .int .i64 0, .int .u8 0, .int .i64 1, .int .i64 3]) ?_ 3 _ rfl; (with_reducible repeat (first | refine blk_drewN ?_ _ | refine blk_drew ?_ | refine blk_alloc ?_ _)); refine blk_put (cs := #[.int .i64 0, .int .i64 0, .int .u8 0, .int .i64 1, .int .i64 3]) ?_ 2 _ rfl; (with_reducible repeat (first | refine blk_drewN ?_ _ | refine blk_drew ?_ | refine blk_alloc ?_ _)); refine blk_put (cs := #[.int .i64 0, .int .i64 (rd y488 x7_1), .int .u8 0, .int .i64 1, .int .i64 3]) ?_ 1 _ rfl; (with_reducible repeat (first | refine blk_drewN ?_ _ | refine blk_drew ?_ | refine blk_alloc ?_ _)); refine blk_put (cs := #[.int .i64 2, .int .i64 (rd y488 x7_1), .int .u8 0, .int .i64 1, .int .i64 3]) ?_ 0 _ rfl; (with_reducible repeat (first | refine blk_drewN ?_ _ | refine blk_drew ?_ | refine blk_alloc ?_ _)); exact BK492.out) k_ hk)); (case aO => exact (by (with_reducible repeat (first | apply Kd.R_alloc | apply Kd.R_drewN | apply Kd.R_drew)); exact Kd.R_mono (Kd.R_far (p := ⟨gb492, 4, none⟩) (Kd.R_far (p := ⟨gb492, 3, none⟩) (Kd.R_far (p := ⟨gb492, 2, none⟩) (Kd.R_far (p := ⟨gb492, 1, none⟩) (Kd.R_far (p := ⟨gb492, 0, none⟩) (Kd.R_mono HO_5.out (fun k_ hk => (⟨hk, hk.2⟩ : _ ∧ k_ ≠ gb492))) (fun _ hk => hk.2) (.int .i64 0)) (fun _ hk => hk.2) (.int .i64 0)) (fun _ hk => hk.2) (.int .u8 0)) (fun _ hk => hk.2) (.int .i64 1)) (fun _ hk => hk.2) (.int .i64 3)) (fun _ hk => hk.1.2))); (case aS => exact (below_size (by repeat (first | (with_reducible first | exact HB.out | apply below_alloc | apply pw_below_drewN | apply below_drew1 | refine below_set ?_ GE492.out) | exact HB.out)))); (case aL => have := LMc8.out; omega); intro v494 w12 ho hb hg hat; rw [← Ny493.out] at ho; have n0_ := Aside0.mk (Kd.R_over' (by (with_reducible repeat (first | apply Kd.R_alloc | apply Kd.R_drewN | apply Kd.R_drew)); exact (Kd.R_mono (Kd.R_far (p := ⟨gb492, 4, none⟩) (Kd.R_far (p := ⟨gb492, 3, none⟩) (Kd.R_far (p := ⟨gb492, 2, none⟩) (Kd.R_far (p := ⟨gb492, 1, none⟩) (Kd.R_far (p := ⟨gb492, 0, none⟩) (Kd.R_types HO_6.out BK492.out (by decide)) (fun _ hk => hk.2) (.int .i64 0)) (fun _ hk => hk.2) (.int .i64 0)) (fun _ hk => hk.2) (.int .u8 0)) (fun _ hk => hk.2) (.int .i64 1)) (fun _ hk => hk.2) (.int .i64 3)) (fun _ h_ => h_.1))) (Kd.R_typed (by (with_reducible repeat (first | apply Kd.R_alloc | apply Kd.R_drewN | apply Kd.R_drew)); exact (Kd.R_mono (Kd.R_far (p := ⟨gb492, 4, none⟩) (Kd.R_far (p := ⟨gb492, 3, none⟩) (Kd.R_far (p := ⟨gb492, 2, none⟩) (Kd.R_far (p := ⟨gb492, 1, none⟩) (Kd.R_far (p := ⟨gb492, 0, none⟩) (Kd.R_mono HO_5.out (fun k_ hk => (⟨hk, hk.2⟩ : _ ∧ k_ ≠ gb492))) (fun _ hk => hk.2) (.int .i64 0)) (fun _ hk => hk.2) (.int .i64 0)) (fun _ hk => hk.2) (.int .u8 0)) (fun _ hk => hk.2) (.int .i64 1)) (fun _ hk => hk.2) (.int .i64 3)) (fun _ h_ => h_.1)))) (by decide) hg); have n1_ := Aside0.mk (blk_grown (g := gb492) (o := .cells #[.int .i64 0, .int .i64 0, .int .u8 0, .int .i64 1, .int .i64 3] 30 (0, 0)) (by (with_reducible repeat (first | refine blk_drewN ?_ _ | refine blk_drew ?_ | refine blk_alloc ?_ _)); refine blk_put (cs := #[.int .i64 0, .int .i64 0, .int .u8 0, .int .i64 1, .int .i64 3]) ?_ 4 _ rfl; (with_reducible repeat (first | refine blk_drewN ?_ _ | refine blk_drew ?_ | refine blk_alloc ?_ _)); refine blk_put (cs := #[.int .i64 0, .int .i64 0, .int .u8 0, .int .i64 1, .int .i64 3]) ?_ 3 _ rfl; (with_reducible repeat (first | refine blk_drewN ?_ _ | refine blk_drew ?_ | refine blk_alloc ?_ _)); refine blk_put (cs := #[.int .i64 0, .int .i64 0, .int .u8 0, .int .i64 1, .int .i64 3]) ?_ 2 _ rfl; (with_reducible repeat (first | refine blk_drewN ?_ _ | refine blk_drew ?_ | refine blk_alloc ?_ _)); refine blk_put (cs := #[.int .i64 0, .int .i64 (rd y488 x7_1), .int .u8 0, .int .i64 1, .int .i64 3]) ?_ 1 _ rfl; (with_reducible repeat (first | refine blk_drewN ?_ _ | refine blk_drew ?_ | refine blk_alloc ?_ _)); refine blk_put (cs := #[.int .i64 2, .int .i64 (rd y488 x7_1), .int .u8 0, .int .i64 1, .int .i64 3]) ?_ 0 _ rfl; (with_reducible repeat (first | refine blk_drewN ?_ _ | refine blk_drew ?_ | refine blk_alloc ?_ _)); exact BK492.out) hg (Kd.R_away HO_5.out (fun _ hk => hk.2))); have n2_ := Aside0.mk (hb); have n3_ := Aside0.mk (ho); clear HO_6; clear BK492; clear HB; clear HO_5; have HO_6 := n0_; have BK492 := n1_; have HB := n2_; have HO495 := n3_; clear n0_ n1_ n2_ n3_; clear ho hb hg hat)
              go_roundg k1
              case measure => have := HK1.out; omega
              case rel => exact ⟨(y493), (wrap64 (x7_1 + 1)), (by first | rfl | (simp; done) | (simp [*]; done)), H', ⟨by have := HK1.out; omega⟩, ⟨by (with_reducible repeat (first | apply Kd.R_alloc | apply Kd.R_drewN | apply Kd.R_drew)); exact Kd.R_mono HO495.out (fun _ hk => trivial)⟩, ⟨by (with_reducible repeat (first | apply Kd.R_alloc | apply Kd.R_drewN | apply Kd.R_drew)); exact HO_6.out⟩, ⟨by repeat (first | (with_reducible first | exact HB.out | apply below_alloc | apply pw_below_drewN | apply below_drew1 | refine below_set ?_ GE492.out) | exact HB.out)⟩⟩
            · rw [if_neg c8] at H
              exact absurd H (by simp)
          · rw [if_neg c7] at H
            have c7b0 : (a0 == 0) = false := beq_eq_false_iff_ne.mpr c7
            have c7b1 : (a0 != 0) = true := bne_iff_ne.mpr c7
            by_cases c13 : x5_1.length < 3518437208883
            · rw [if_pos c13] at H
              have LMc13 := Aside0.mk c13
              clear c13
              obtain ⟨y496, hy496⟩ : ∃ y_ : List (S30), y_ = (x5_1 ++ [(⟨2, rd y488 x7_1, 0, 1, 3⟩ : S30)]) := ⟨_, rfl⟩
              replace H : (jotterlaw04_changed.l0 k1 a0 a1 y496 y488 (wrap64 (x7_1 + 1))) = some r := by first | (rw [hy496]; with_reducible exact H) | (have H2_ := (Option.bind_some _ _).symm.trans H; rw [hy496]; with_reducible exact H2_) | (have H2_ := (Option.bind_some _ _).symm.trans H; with_reducible exact H2_) | with_reducible exact H | (rw [hy496]; exact H) | exact H
              have Ny496 := Aside0.mk hy496
              clear hy496
              have H' := Aside0.mk H
              clear H
              obtain ⟨Ao14, co14, eo14⟩ := Kd.R_slice HO_6.out
              subst eo14
              have p491 : 0 ≤ (x7_1 : Int) := of_decide_eq_true (by first | (with_reducible assumption) | assumption)
              have q491 : x7_1 < (y488.length : Int) := of_decide_eq_true (by first | (with_reducible assumption) | assumption)
              obtain ⟨ad491, e491, hx491_0⟩ := Kd.at_int (Kd.R_reads' HO_6.out).2.2 x7_1 p491 q491
              cases e491
              replace p491 := eq_true p491
              replace q491 := eq_true q491
              go_wp2_with (first | ((with_reducible refine gate_dst (N := 8) rfl ?_); refine box_event ?hg (N := 8) ?hd (cs := #[.int .i64 0, .int .i64 0, .int .u8 0, .int .i64 0, .int .i64 0]) (t := 30) ?hr ?_; (case hd => rfl); (case hg => rfl); (case hr => first | (go_simp; done) | (go_simp; rfl)); intro gb492 hg w15 hbox hb; have n0_ := Aside0.mk (Kd.R_below (Kd.R_elderB (by (with_reducible repeat (first | apply Kd.R_alloc | apply Kd.R_drewN | apply Kd.R_drew)); exact HO_5.out) gb492 (Nat.le_of_eq hg.symm)) hb); have n1_ := Aside0.mk (Kd.R_below (by (with_reducible repeat (first | apply Kd.R_alloc | apply Kd.R_drewN | apply Kd.R_drew)); exact HO_6.out) hb); have n2_ := Aside0.mk (below_step (by repeat (first | (with_reducible first | exact HB.out | apply below_alloc | apply pw_below_drewN | apply below_drew1) | exact HB.out)) hb); have n3_ := Aside0.mk (hbox); have n4_ := Aside0.mk ((by rw [hg]; exact (below_size (by repeat (first | (with_reducible first | exact HB.out | apply below_alloc | apply pw_below_drewN | apply below_drew1) | exact HB.out))) : w.heap.size ≤ gb492)); have n5_ := Aside0.mk ((by rw [hg]; exact (below_size (by repeat (first | (with_reducible first | exact HB.out | apply below_alloc | apply pw_below_drewN | apply below_drew1) | exact HB.out))) : w.heap.size ≤ gb492)); clear HO_5; clear HO_6; clear HB; have HO_5 := n0_; have HO_6 := n1_; have HB := n2_; have BK492 := n3_; have GW492 := n4_; have GE492 := n5_; clear n0_ n1_ n2_ n3_ n4_ n5_; clear hb hbox hg; have hcz16_0 : w15.cell? ⟨gb492, 0, none⟩ = some (.int .i64 0) := (blk_cell BK492.out 0).trans rfl; have hcz16_1 : w15.cell? ⟨gb492, 1, none⟩ = some (.int .i64 0) := (blk_cell BK492.out 1).trans rfl; have hcz16_2 : w15.cell? ⟨gb492, 2, none⟩ = some (.int .u8 0) := (blk_cell BK492.out 2).trans rfl; have hcz16_3 : w15.cell? ⟨gb492, 3, none⟩ = some (.int .i64 0) := (blk_cell BK492.out 3).trans rfl; have hcz16_4 : w15.cell? ⟨gb492, 4, none⟩ = some (.int .i64 0) := (blk_cell BK492.out 4).trans rfl; have hfz16_0 := blk_frozen BK492.out 0; have hfz16_1 := blk_frozen BK492.out 1; have hfz16_2 := blk_frozen BK492.out 2; have hfz16_3 := blk_frozen BK492.out 3; have hfz16_4 := blk_frozen BK492.out 4) | ((with_reducible refine gate_builtin (b := .append) (xs := #[.tmp 29, .tmp 31]) rfl ?_); at_builtin; refine Kd.R_append k30 (w0 := w) w.heap.size rfl (.tmp 29) (.tmp 31) 37 30 (.agg #[(.int .i64 0), (.int .i64 0), (.int .u8 0), (.int .i64 0), (.int .i64 0)]) 40 rfl Try.underlying37 info30 rfl (by decide) (by omega) u5 x5_1 (⟨2, rd y488 x7_1, 0, 1, 3⟩ : S30) [.int .i64 2, .int .i64 (rd y488 x7_1), .int .u8 0, .int .i64 1, .int .i64 3] (fun k_ => k_ ≠ gb492) (fun _ => False) rfl (by first | (go_simp; done) | (go_simp; rfl)) ?aP (fun _ hk => hk.elim) ?aF ?aO ?aB ?aS ?aL ?_; (case aP => exact k30_mkM _ _ _ (⟨2, rd y488 x7_1, 0, 1, 3⟩ : S30)); (case aB => exact (by repeat (first | (with_reducible first | exact HB.out | apply below_alloc | apply pw_below_drewN | apply below_drew1 | refine below_set ?_ GE492.out) | exact HB.out))); (case aF => exact (fun k_ hk => Kd.freshB (g := gb492) (o := .cells #[.int .i64 2, .int .i64 (rd y488 x7_1), .int .u8 0, .int .i64 1, .int .i64 3] 30 (0, 0)) (by (with_reducible repeat (first | refine blk_drewN ?_ _ | refine blk_drew ?_ | refine blk_alloc ?_ _)); refine blk_put (cs := #[.int .i64 2, .int .i64 (rd y488 x7_1), .int .u8 0, .int .i64 1, .int .i64 0]) ?_ 4 _ rfl; (with_reducible repeat (first | refine blk_drewN ?_ _ | refine blk_drew ?_ | refine blk_alloc ?_ _)); refine blk_put (cs := #[.int .i64 2, .int .i64 (rd y488 x7_1), .int .u8 0, .int .i64 0, .int .i64 0]) ?_ 3 _ rfl; (with_reducible repeat (first | refine blk_drewN ?_ _ | refine blk_drew ?_ | refine blk_alloc ?_ _)); refine blk_put (cs := #[.int .i64 2, .int .i64 (rd y488 x7_1), .int .u8 0, .int .i64 0, .int .i64 0]) ?_ 2 _ rfl; (with_reducible repeat (first | refine blk_drewN ?_ _ | refine blk_drew ?_ | refine blk_alloc ?_ _)); refine blk_put (cs := #[.int .i64 2, .int .i64 0, .int .u8 0, .int .i64 0, .int .i64 0]) ?_ 1 _ rfl; (with_reducible repeat (first | refine blk_drewN ?_ _ | refine blk_drew ?_ | refine blk_alloc ?_ _)); refine blk_put (cs := #[.int .i64 0, .int .i64 0, .int .u8 0, .int .i64 0, .int .i64 0]) ?_ 0 _ rfl; (with_reducible repeat (first | refine blk_drewN ?_ _ | refine blk_drew ?_ | refine blk_alloc ?_ _)); exact BK492.out) k_ hk)); (case aO => exact (by (with_reducible repeat (first | apply Kd.R_alloc | apply Kd.R_drewN | apply Kd.R_drew)); exact Kd.R_mono (Kd.R_far (p := ⟨gb492, 4, none⟩) (Kd.R_far (p := ⟨gb492, 3, none⟩) (Kd.R_far (p := ⟨gb492, 2, none⟩) (Kd.R_far (p := ⟨gb492, 1, none⟩) (Kd.R_far (p := ⟨gb492, 0, none⟩) (Kd.R_mono HO_5.out (fun k_ hk => (⟨hk, hk.2⟩ : _ ∧ k_ ≠ gb492))) (fun _ hk => hk.2) (.int .i64 2)) (fun _ hk => hk.2) (.int .i64 (rd y488 x7_1))) (fun _ hk => hk.2) (.int .u8 0)) (fun _ hk => hk.2) (.int .i64 1)) (fun _ hk => hk.2) (.int .i64 3)) (fun _ hk => hk.1.2))); (case aS => exact (below_size (by repeat (first | (with_reducible first | exact HB.out | apply below_alloc | apply pw_below_drewN | apply below_drew1 | refine below_set ?_ GE492.out) | exact HB.out)))); (case aL => have := LMc13.out; omega); intro v497 w17 ho hb hg hat; rw [← Ny496.out] at ho; have n0_ := Aside0.mk (Kd.R_over' (by (with_reducible repeat (first | apply Kd.R_alloc | apply Kd.R_drewN | apply Kd.R_drew)); exact (Kd.R_mono (Kd.R_far (p := ⟨gb492, 4, none⟩) (Kd.R_far (p := ⟨gb492, 3, none⟩) (Kd.R_far (p := ⟨gb492, 2, none⟩) (Kd.R_far (p := ⟨gb492, 1, none⟩) (Kd.R_far (p := ⟨gb492, 0, none⟩) (Kd.R_types HO_6.out BK492.out (by decide)) (fun _ hk => hk.2) (.int .i64 2)) (fun _ hk => hk.2) (.int .i64 (rd y488 x7_1))) (fun _ hk => hk.2) (.int .u8 0)) (fun _ hk => hk.2) (.int .i64 1)) (fun _ hk => hk.2) (.int .i64 3)) (fun _ h_ => h_.1))) (Kd.R_typed (by (with_reducible repeat (first | apply Kd.R_alloc | apply Kd.R_drewN | apply Kd.R_drew)); exact (Kd.R_mono (Kd.R_far (p := ⟨gb492, 4, none⟩) (Kd.R_far (p := ⟨gb492, 3, none⟩) (Kd.R_far (p := ⟨gb492, 2, none⟩) (Kd.R_far (p := ⟨gb492, 1, none⟩) (Kd.R_far (p := ⟨gb492, 0, none⟩) (Kd.R_mono HO_5.out (fun k_ hk => (⟨hk, hk.2⟩ : _ ∧ k_ ≠ gb492))) (fun _ hk => hk.2) (.int .i64 2)) (fun _ hk => hk.2) (.int .i64 (rd y488 x7_1))) (fun _ hk => hk.2) (.int .u8 0)) (fun _ hk => hk.2) (.int .i64 1)) (fun _ hk => hk.2) (.int .i64 3)) (fun _ h_ => h_.1)))) (by decide) hg); have n1_ := Aside0.mk (blk_grown (g := gb492) (o := .cells #[.int .i64 2, .int .i64 (rd y488 x7_1), .int .u8 0, .int .i64 1, .int .i64 3] 30 (0, 0)) (by (with_reducible repeat (first | refine blk_drewN ?_ _ | refine blk_drew ?_ | refine blk_alloc ?_ _)); refine blk_put (cs := #[.int .i64 2, .int .i64 (rd y488 x7_1), .int .u8 0, .int .i64 1, .int .i64 0]) ?_ 4 _ rfl; (with_reducible repeat (first | refine blk_drewN ?_ _ | refine blk_drew ?_ | refine blk_alloc ?_ _)); refine blk_put (cs := #[.int .i64 2, .int .i64 (rd y488 x7_1), .int .u8 0, .int .i64 0, .int .i64 0]) ?_ 3 _ rfl; (with_reducible repeat (first | refine blk_drewN ?_ _ | refine blk_drew ?_ | refine blk_alloc ?_ _)); refine blk_put (cs := #[.int .i64 2, .int .i64 (rd y488 x7_1), .int .u8 0, .int .i64 0, .int .i64 0]) ?_ 2 _ rfl; (with_reducible repeat (first | refine blk_drewN ?_ _ | refine blk_drew ?_ | refine blk_alloc ?_ _)); refine blk_put (cs := #[.int .i64 2, .int .i64 0, .int .u8 0, .int .i64 0, .int .i64 0]) ?_ 1 _ rfl; (with_reducible repeat (first | refine blk_drewN ?_ _ | refine blk_drew ?_ | refine blk_alloc ?_ _)); refine blk_put (cs := #[.int .i64 0, .int .i64 0, .int .u8 0, .int .i64 0, .int .i64 0]) ?_ 0 _ rfl; (with_reducible repeat (first | refine blk_drewN ?_ _ | refine blk_drew ?_ | refine blk_alloc ?_ _)); exact BK492.out) hg (Kd.R_away HO_5.out (fun _ hk => hk.2))); have n2_ := Aside0.mk (hb); have n3_ := Aside0.mk (ho); clear HO_6; clear BK492; clear HB; clear HO_5; have HO_6 := n0_; have BK492 := n1_; have HB := n2_; have HO498 := n3_; clear n0_ n1_ n2_ n3_; clear ho hb hg hat))
              go_roundg k1
              case measure => have := HK1.out; omega
              case rel => exact ⟨(y496), (wrap64 (x7_1 + 1)), (by first | rfl | (simp; done) | (simp [*]; done)), H', ⟨by have := HK1.out; omega⟩, ⟨by (with_reducible repeat (first | apply Kd.R_alloc | apply Kd.R_drewN | apply Kd.R_drew)); exact Kd.R_mono HO498.out (fun _ hk => trivial)⟩, ⟨by (with_reducible repeat (first | apply Kd.R_alloc | apply Kd.R_drewN | apply Kd.R_drew)); exact HO_6.out⟩, ⟨by repeat (first | (with_reducible first | exact HB.out | apply below_alloc | apply pw_below_drewN | apply below_drew1 | refine below_set ?_ GE492.out) | exact HB.out)⟩⟩
            · rw [if_neg c13] at H
              exact absurd H (by simp)
        · rw [if_neg c6] at H
          exact absurd H (by simp)
      · rw [if_neg c5] at H
        have c5b0 : decide (x7_1 < (y488.length : Int)) = false := decide_eq_false c5
        clear c5
        have H' := Aside0.mk H
        clear H
        obtain ⟨Ao18, co18, eo18⟩ := Kd.R_slice HO_6.out
        subst eo18
        go_wp2
        go_loopg [5, 9] k1 (fun kq v5 v9 w' => ∃ (x5_2 : List (S30)) (x9_2 : Int), v9 = .int .i64 x9_2 ∧ Aside0 (jotterlaw04_changed.l1 kq a1 x5_2 y488 x9_2 = some r) ∧ Aside0 (kq ≤ k1) ∧ Aside0 (Kd.R k30 30 w' w.heap.size (fun _ => True) v5 x5_2) ∧ Aside0 (Kd.R (Kd.int .i64) 3 w' w.heap.size (fun _ => True) (.slice Ao18 y488.length co18) y488) ∧ Aside0 (Below w.heap.size w w'))
        case atStart => exact ⟨(x5_1), (0), (by first | rfl | (simp; done) | (simp [*]; done)), H', ⟨Nat.le_refl _⟩, ⟨by (with_reducible repeat (first | apply Kd.R_alloc | apply Kd.R_drewN | apply Kd.R_drew)); exact HO_5.out⟩, ⟨by (with_reducible repeat (first | apply Kd.R_alloc | apply Kd.R_drewN | apply Kd.R_drew)); exact HO_6.out⟩, ⟨by repeat (first | (with_reducible first | exact HB.out | apply below_alloc | apply pw_below_drewN | apply below_drew1) | exact HB.out)⟩⟩
        case round =>
          clear H'
          try clear c1
          try clear p2
          try clear c3
          try clear p4
          try clear q4
          try clear hx4
          try clear c5
          try clear c5b0
          try clear c6
          try clear c6b0
          try clear p6
          try clear c7
          try clear c7b0
          try clear c7b1
          try clear c8
          try clear c13
          try clear hcz11_0
          try clear hcz11_1
          try clear hcz11_2
          try clear hcz11_3
          try clear hcz11_4
          try clear hcz16_0
          try clear hcz16_1
          try clear hcz16_2
          try clear hcz16_3
          try clear hcz16_4
          try clear hfz11_0
          try clear hfz11_1
          try clear hfz11_2
          try clear hfz11_3
          try clear hfz11_4
          try clear hfz16_0
          try clear hfz16_1
          try clear hfz16_2
          try clear hfz16_3
          try clear hfz16_4
          try clear hx491_0
          try clear p2
          try clear p491
          try clear q491
          obtain ⟨x5_2, x9_2, rfl, HA, HK2, HO_5, HO_6, HB⟩ := hrel
          cases gk with
          | zero => exact absurd HA.out (by simp [jotterlaw04_changed.l1])
          | succ k2 =>
            have H := HA.out
            clear HA
            simp only [jotterlaw04_changed.l1] at H
            by_cases c19 : x9_2 < 2
            · rw [if_pos c19] at H
              have c19b0 : decide (x9_2 < 2) = true := decide_eq_true c19
              clear c19
              by_cases c20 : 0 ≤ x9_2
              · rw [if_pos c20] at H
                have c20b0 : decide (0 ≤ x9_2) = true := decide_eq_true c20
                clear c20
                by_cases c21 : x9_2 < (y488.length : Int)
                · rw [if_pos c21] at H
                  have c21b0 : decide (x9_2 < (y488.length : Int)) = true := decide_eq_true c21
                  clear c21
                  by_cases c22 : x5_2.length < 3518437208883
                  · rw [if_pos c22] at H
                    have LMc22 := Aside0.mk c22
                    clear c22
                    obtain ⟨y500, hy500⟩ : ∃ y_ : List (S30), y_ = (x5_2 ++ [(⟨1, rd y488 x9_2, (32 + (Int.tmod a1 95)) % 256, 1, 4⟩ : S30)]) := ⟨_, rfl⟩
                    replace H : (jotterlaw04_changed.l1 k2 a1 y500 y488 (wrap64 (x9_2 + 1))) = some r := by first | (rw [hy500]; with_reducible exact H) | (have H2_ := (Option.bind_some _ _).symm.trans H; rw [hy500]; with_reducible exact H2_) | (have H2_ := (Option.bind_some _ _).symm.trans H; with_reducible exact H2_) | with_reducible exact H | (rw [hy500]; exact H) | exact H
                    have Ny500 := Aside0.mk hy500
                    clear hy500
                    have H' := Aside0.mk H
                    clear H
                    have p499 : 0 ≤ (x9_2 : Int) := of_decide_eq_true (by first | (with_reducible assumption) | assumption)
                    have q499 : x9_2 < (y488.length : Int) := of_decide_eq_true (by first | (with_reducible assumption) | assumption)
                    obtain ⟨ad499, e499, hx499_0⟩ := Kd.at_int (Kd.R_reads' HO_6.out).2.2 x9_2 p499 q499
                    cases e499
                    replace p499 := eq_true p499
                    replace q499 := eq_true q499
                    go_wp2_with (first | ((with_reducible refine gate_builtin (b := .append) (xs := #[.tmp 37, .tmp 46]) rfl ?_); at_builtin; refine Kd.R_append k30 (w0 := w) w.heap.size rfl (.tmp 37) (.tmp 46) 37 30 (.agg #[(.int .i64 0), (.int .i64 0), (.int .u8 0), (.int .i64 0), (.int .i64 0)]) 40 rfl Try.underlying37 info30 rfl (by decide) (by omega) u5 x5_2 (⟨1, rd y488 x9_2, (32 + (Int.tmod a1 95)) % 256, 1, 4⟩ : S30) [.int .i64 1, .int .i64 (rd y488 x9_2), .int .u8 ((32 + (Int.tmod a1 95)) % 256), .int .i64 1, .int .i64 4] (fun _ => True) (fun _ => False) rfl rfl ?aP (fun _ hk => hk.elim) ?aF ?aO ?aB ?aS ?aL ?_; (case aP => exact k30_mkM _ _ _ (⟨1, rd y488 x9_2, (32 + (Int.tmod a1 95)) % 256, 1, 4⟩ : S30)); (case aB => exact (by repeat (first | (with_reducible first | exact HB.out | apply below_alloc | apply pw_below_drewN | apply below_drew1) | exact HB.out))); (case aF => exact (fun _ _ => trivial)); (case aO => exact (by (with_reducible repeat (first | apply Kd.R_alloc | apply Kd.R_drewN | apply Kd.R_drew)); exact HO_5.out)); (case aS => exact (below_size (by repeat (first | (with_reducible first | exact HB.out | apply below_alloc | apply pw_below_drewN | apply below_drew1) | exact HB.out)))); (case aL => have := LMc22.out; omega); intro v501 w23 ho hb hg hat; rw [← Ny500.out] at ho; have n0_ := Aside0.mk (Kd.R_over' (by (with_reducible repeat (first | apply Kd.R_alloc | apply Kd.R_drewN | apply Kd.R_drew)); exact HO_6.out) (Kd.R_typed (by (with_reducible repeat (first | apply Kd.R_alloc | apply Kd.R_drewN | apply Kd.R_drew)); exact HO_5.out)) (by decide) hg); have n1_ := Aside0.mk (hb); have n2_ := Aside0.mk (ho); clear HO_6; clear HB; clear HO_5; have HO_6 := n0_; have HB := n1_; have HO502 := n2_; clear n0_ n1_ n2_; clear ho hb hg hat))
                    go_roundg k2
                    case measure => have := HK1.out; have := HK2.out; omega
                    case rel => exact ⟨(y500), (wrap64 (x9_2 + 1)), (by first | rfl | (simp; done) | (simp [*]; done)), H', ⟨by have := HK1.out; have := HK2.out; omega⟩, ⟨by (with_reducible repeat (first | apply Kd.R_alloc | apply Kd.R_drewN | apply Kd.R_drew)); exact HO502.out⟩, ⟨by (with_reducible repeat (first | apply Kd.R_alloc | apply Kd.R_drewN | apply Kd.R_drew)); exact HO_6.out⟩, ⟨by repeat (first | (with_reducible first | exact HB.out | apply below_alloc | apply pw_below_drewN | apply below_drew1) | exact HB.out)⟩⟩
                  · rw [if_neg c22] at H
                    exact absurd H (by simp)
                · rw [if_neg c21] at H
                  exact absurd H (by simp)
              · rw [if_neg c20] at H
                exact absurd H (by simp)
            · rw [if_neg c19] at H
              have c19b0 : decide (x9_2 < 2) = false := decide_eq_false c19
              clear c19
              obtain rfl := Option.some.inj H
              go_wp2
              go_ret
              exact ⟨_, by first | rfl | (simp [errW_none, errW_some] <;> rfl) | (simp [*, errW_none, errW_some] <;> rfl), by (with_reducible repeat (first | apply Kd.R_alloc | apply Kd.R_drewN | apply Kd.R_drew)); exact HO_5.out, by repeat (first | (with_reducible first | exact HB.out | apply below_alloc | apply pw_below_drewN | apply below_drew1) | exact HB.out)⟩

end Go.Proofs.Ytjdhoipaanlipaa.Q
