/- Go functions of the seat, each as a Lean function that tells its answer, and the proof that the call gives it. Condition: the arguments are read as lists. Laid by a program of this session. -/
import Derived.Test.YtjdhoipaanlipaaQx0
import Derived.Test.YtjdhoipaanlipaaQx23
namespace Go.Proofs.Ytjdhoipaanlipaa.Q
open Go.RowKit Go.Proofs.YtjdhoipaanlipaaW.PrintWords Go.Proofs.YtjdhoipaanlipaaW.PrintLast Go.Proofs.YtjdhoipaanlipaaW.PrintMore
attribute [local go_sem] max2_int min2_int max_two min_two max_three min_three max_four min_four   -- for this text's walks alone
set_option linter.unusedVariables false
set_option linter.unusedSimpArgs false

/-! ### jotterlaw04_made: function 30 -/
def jotterlaw04_made.j0 : Nat → Int → Bool → Bool → Int → Int → Int → Int → Int → Int → Int → Option (Int × Int × Int × Int × Int)
  | 0, _, _, _, _, _, _, _, _, _, _ => none
  | k + 1, x2, x21, x330000, x330001, x330002, x332000, x332001, x332002, x332003, x332004 => if x21 = true then ((jotterlaw04_place.f x330001 x2).bind fun t332 => (some (2, t332, x332002, x332003, x332004))) else ((jotterlaw04_place.f x330001 (wrap64 (x2 + 1))).bind fun t333 => (some (1, t333, (32 + (Int.tmod x330002 95)) % 256, x332003, x332004)))
def jotterlaw04_made.f (k : Nat) (a0_0 : Bool) (a0_1 : Int) (a0_2 : Int) (a1 : Int) (a2 : Int) : Option (Int × Int × Int × Int × Int) := if a0_0 = true then (jotterlaw04_made.j0 k a2 (decide (a2 > 0)) a0_0 a0_1 a0_2 0 0 0 (wrap64 (1 + (Int.tmod (wrap64 (Int.tdiv a1 64)) 64))) (wrap64 (1 + (Int.tmod a1 64)))) else (jotterlaw04_made.j0 k a2 false a0_0 a0_1 a0_2 0 0 0 (wrap64 (1 + (Int.tmod (wrap64 (Int.tdiv a1 64)) 64))) (wrap64 (1 + (Int.tmod a1 64))))
theorem jotterlaw04_made.mono_l : ∀ k, (∀ y0 y1 y2 y3 y4 y5 y6 y7 y8 y9, LeO (jotterlaw04_made.j0 k y0 y1 y2 y3 y4 y5 y6 y7 y8 y9) (jotterlaw04_made.j0 (k + 1) y0 y1 y2 y3 y4 y5 y6 y7 y8 y9))
  | 0 => fun _ _ _ _ _ _ _ _ _ _ r h => by simp [jotterlaw04_made.j0] at h
  | k + 1 => by
    have ih0 := jotterlaw04_made.mono_l k
    · intro y0 y1 y2 y3 y4 y5 y6 y7 y8 y9
      unfold jotterlaw04_made.j0
      repeat' first
      | (with_reducible exact ih0 _ _ _ _ _ _ _ _ _ _)
      | (with_reducible exact LeO.refl _)
      | (with_reducible exact LeO.none _)
      | (with_reducible refine LeO.ite ?_ ?_)
      | (with_reducible refine LeO.bind ?_ (fun _ => ?_))
      | exact ih0 _ _ _ _ _ _ _ _ _ _
      | exact LeO.none _
      | refine LeO.ite ?_ ?_
      | refine LeO.bind ?_ (fun _ => ?_)
theorem jotterlaw04_made.mono : ∀ a0 a1 a2 a3 a4 k, LeO (jotterlaw04_made.f k a0 a1 a2 a3 a4) (jotterlaw04_made.f (k + 1) a0 a1 a2 a3 a4) := by
  intro a0 a1 a2 a3 a4 k
  have ih0 := jotterlaw04_made.mono_l k
  unfold jotterlaw04_made.f
  repeat' first
      | (with_reducible exact ih0 _ _ _ _ _ _ _ _ _ _)
      | (with_reducible exact LeO.refl _)
      | (with_reducible exact LeO.none _)
      | (with_reducible refine LeO.ite ?_ ?_)
      | (with_reducible refine LeO.bind ?_ (fun _ => ?_))
      | exact ih0 _ _ _ _ _ _ _ _ _ _
      | exact LeO.none _
      | refine LeO.ite ?_ ?_
      | refine LeO.bind ?_ (fun _ => ?_)
set_option maxHeartbeats 8000000 in
set_option maxRecDepth 100000 in
theorem jotterlaw04_made.calls (k : Nat) (a0_0 : Bool) (a0_1 : Int) (a0_2 : Int) (a1 : Int) (a2 : Int) (r1 : Int) (r2 : Int) (r3 : Int) (r4 : Int) (r5 : Int) (w : World) (h : jotterlaw04_made.f k a0_0 a0_1 a0_2 a1 a2 = some (r1, r2, r3, r4, r5)) :
    Calls Try.prog 30 #[.agg #[.bool a0_0, .int .i64 a0_1, .int .u8 a0_2], .int .i64 a1, .int .i64 a2] w fun e w' => e = .returned (.agg #[.int .i64 r1, .int .i64 r2, .int .u8 r3, .int .i64 r4, .int .i64 r5]) ∧ Below w.heap.size w w' := by
  have hu56 := Try.underlying56
  have hu30 := Try.underlying30
  have HB := Aside0.mk (Below.refl w.heap.size w)
  have H : (if a0_0 = true then (jotterlaw04_made.j0 k a2 (decide (a2 > 0)) a0_0 a0_1 a0_2 0 0 0 (wrap64 (1 + (Int.tmod (wrap64 (Int.tdiv a1 64)) 64))) (wrap64 (1 + (Int.tmod a1 64)))) else (jotterlaw04_made.j0 k a2 false a0_0 a0_1 a0_2 0 0 0 (wrap64 (1 + (Int.tmod (wrap64 (Int.tdiv a1 64)) 64))) (wrap64 (1 + (Int.tmod a1 64))))) = some (r1, r2, r3, r4, r5) := h
  clear h
  have HC4 := Aside0.mk H
  clear H
  go_enter Try.func30, Try.ntmps30
  go_upto_region 2 with (first | ((with_reducible refine gate_dst (N := 3) rfl ?_); refine box_event ?hg (N := 3) ?hd (cs := #[.bool a0_0, .int .i64 a0_1, .int .u8 a0_2]) (t := 56) ?hr ?_; (case hd => rfl); (case hg => rfl); (case hr => first | (go_simp; done) | (go_simp; rfl)); intro gb329 hg w5 hbox hb; have n0_ := Aside0.mk (below_step (by repeat (first | (with_reducible first | exact HB.out | apply below_alloc | apply pw_below_drewN | apply below_drew1) | exact HB.out)) hb); have n1_ := Aside0.mk (hbox); have n2_ := Aside0.mk ((by rw [hg]; exact (below_size (by repeat (first | (with_reducible first | exact HB.out | apply below_alloc | apply pw_below_drewN | apply below_drew1) | exact HB.out))) : w.heap.size ≤ gb329)); have n3_ := Aside0.mk ((by rw [hg]; exact (below_size (by repeat (first | (with_reducible first | exact HB.out | apply below_alloc | apply pw_below_drewN | apply below_drew1) | exact HB.out))) : w.heap.size ≤ gb329)); clear HB; have HB := n0_; have BK329 := n1_; have GW329 := n2_; have GE329 := n3_; clear n0_ n1_ n2_ n3_; clear hb hbox hg) | ((with_reducible refine gate_dst (N := 6) rfl ?_); refine box_event ?hg (N := 6) ?hd (cs := #[.int .i64 0, .int .i64 0, .int .u8 0, .int .i64 0, .int .i64 0]) (t := 30) ?hr ?_; (case hd => rfl); (case hg => rfl); (case hr => first | (go_simp; done) | (go_simp; rfl)); intro gb330 hg w6 hbox hb; have n0_ := Aside0.mk (blk_below (g := gb329) (o := .cells #[.bool a0_0, .int .i64 a0_1, .int .u8 a0_2] 56 (0, 0)) (by (with_reducible repeat (first | refine blk_drewN ?_ _ | refine blk_drew ?_ | refine blk_alloc ?_ _)); exact BK329.out) hb); have n1_ := Aside0.mk (below_step (by repeat (first | (with_reducible first | exact HB.out | apply below_alloc | apply pw_below_drewN | apply below_drew1 | refine below_set ?_ GE329.out) | exact HB.out)) hb); have n2_ := Aside0.mk (hbox); have n3_ := Aside0.mk ((by rw [hg]; exact (below_size (by repeat (first | (with_reducible first | exact HB.out | apply below_alloc | apply pw_below_drewN | apply below_drew1 | refine below_set ?_ GE329.out) | exact HB.out))) : w.heap.size ≤ gb330)); have n4_ := Aside0.mk ((by rw [hg]; exact (below_size (by repeat (first | (with_reducible first | exact HB.out | apply below_alloc | apply pw_below_drewN | apply below_drew1 | refine below_set ?_ GE329.out) | exact HB.out))) : w.heap.size ≤ gb330)); have n5_ := Aside0.mk ((by rw [hg]; exact Nat.ne_of_lt (blk_lt (g := gb329) (o := .cells #[.bool a0_0, .int .i64 a0_1, .int .u8 a0_2] 56 (0, 0)) (by (with_reducible repeat (first | refine blk_drewN ?_ _ | refine blk_drew ?_ | refine blk_alloc ?_ _)); exact BK329.out)) : gb329 ≠ gb330)); have n6_ := Aside0.mk ((by rw [hg]; exact Nat.ne_of_gt (blk_lt (g := gb329) (o := .cells #[.bool a0_0, .int .i64 a0_1, .int .u8 a0_2] 56 (0, 0)) (by (with_reducible repeat (first | refine blk_drewN ?_ _ | refine blk_drew ?_ | refine blk_alloc ?_ _)); exact BK329.out)) : gb330 ≠ gb329)); clear BK329; clear HB; have BK329 := n0_; have HB := n1_; have BK330 := n2_; have GW330 := n3_; have GE330 := n4_; have NB329_330 := n5_; have NB330_329 := n6_; clear n0_ n1_ n2_ n3_ n4_ n5_ n6_; clear hb hbox hg) | ((with_reducible refine gate_dst (N := 7) rfl ?_); refine box_event ?hg (N := 7) ?hd (cs := #[.int .i64 0, .int .i64 0, .int .u8 0, .int .i64 0, .int .i64 0]) (t := 30) ?hr ?_; (case hd => rfl); (case hg => rfl); (case hr => first | (go_simp; done) | (go_simp; rfl)); intro gb331 hg w7 hbox hb; have n0_ := Aside0.mk (blk_below (g := gb329) (o := .cells #[.bool a0_0, .int .i64 a0_1, .int .u8 a0_2] 56 (0, 0)) (by (with_reducible repeat (first | refine blk_drewN ?_ _ | refine blk_drew ?_ | refine blk_alloc ?_ _)); exact BK329.out) hb); have n1_ := Aside0.mk (blk_below (g := gb330) (o := .cells #[.int .i64 0, .int .i64 0, .int .u8 0, .int .i64 0, .int .i64 0] 30 (0, 0)) (by (with_reducible repeat (first | refine blk_drewN ?_ _ | refine blk_drew ?_ | refine blk_alloc ?_ _)); exact BK330.out) hb); have n2_ := Aside0.mk (below_step (by repeat (first | (with_reducible first | exact HB.out | apply below_alloc | apply pw_below_drewN | apply below_drew1 | refine below_set ?_ GE329.out | refine below_set ?_ GE330.out) | exact HB.out)) hb); have n3_ := Aside0.mk (hbox); have n4_ := Aside0.mk ((by rw [hg]; exact (below_size (by repeat (first | (with_reducible first | exact HB.out | apply below_alloc | apply pw_below_drewN | apply below_drew1 | refine below_set ?_ GE329.out | refine below_set ?_ GE330.out) | exact HB.out))) : w.heap.size ≤ gb331)); have n5_ := Aside0.mk ((by rw [hg]; exact (below_size (by repeat (first | (with_reducible first | exact HB.out | apply below_alloc | apply pw_below_drewN | apply below_drew1 | refine below_set ?_ GE329.out | refine below_set ?_ GE330.out) | exact HB.out))) : w.heap.size ≤ gb331)); have n6_ := Aside0.mk ((by rw [hg]; exact Nat.ne_of_lt (blk_lt (g := gb329) (o := .cells #[.bool a0_0, .int .i64 a0_1, .int .u8 a0_2] 56 (0, 0)) (by (with_reducible repeat (first | refine blk_drewN ?_ _ | refine blk_drew ?_ | refine blk_alloc ?_ _)); exact BK329.out)) : gb329 ≠ gb331)); have n7_ := Aside0.mk ((by rw [hg]; exact Nat.ne_of_gt (blk_lt (g := gb329) (o := .cells #[.bool a0_0, .int .i64 a0_1, .int .u8 a0_2] 56 (0, 0)) (by (with_reducible repeat (first | refine blk_drewN ?_ _ | refine blk_drew ?_ | refine blk_alloc ?_ _)); exact BK329.out)) : gb331 ≠ gb329)); have n8_ := Aside0.mk ((by rw [hg]; exact Nat.ne_of_lt (blk_lt (g := gb330) (o := .cells #[.int .i64 0, .int .i64 0, .int .u8 0, .int .i64 0, .int .i64 0] 30 (0, 0)) (by (with_reducible repeat (first | refine blk_drewN ?_ _ | refine blk_drew ?_ | refine blk_alloc ?_ _)); exact BK330.out)) : gb330 ≠ gb331)); have n9_ := Aside0.mk ((by rw [hg]; exact Nat.ne_of_gt (blk_lt (g := gb330) (o := .cells #[.int .i64 0, .int .i64 0, .int .u8 0, .int .i64 0, .int .i64 0] 30 (0, 0)) (by (with_reducible repeat (first | refine blk_drewN ?_ _ | refine blk_drew ?_ | refine blk_alloc ?_ _)); exact BK330.out)) : gb331 ≠ gb330)); clear BK329; clear BK330; clear HB; have BK329 := n0_; have BK330 := n1_; have HB := n2_; have BK331 := n3_; have GW331 := n4_; have GE331 := n5_; have NB329_331 := n6_; have NB331_329 := n7_; have NB330_331 := n8_; have NB331_330 := n9_; clear n0_ n1_ n2_ n3_ n4_ n5_ n6_ n7_ n8_ n9_; clear hb hbox hg; have hnb8 := NB331_329.out; have hnc8 := NB329_331.out; have hnb9 := NB331_330.out; have hnc9 := NB330_331.out; have hcz10_0 : w7.cell? ⟨gb331, 0, none⟩ = some (.int .i64 0) := (blk_cell BK331.out 0).trans rfl; have hcz10_1 : w7.cell? ⟨gb331, 1, none⟩ = some (.int .i64 0) := (blk_cell BK331.out 1).trans rfl; have hcz10_2 : w7.cell? ⟨gb331, 2, none⟩ = some (.int .u8 0) := (blk_cell BK331.out 2).trans rfl; have hcz10_3 : w7.cell? ⟨gb331, 3, none⟩ = some (.int .i64 0) := (blk_cell BK331.out 3).trans rfl; have hcz10_4 : w7.cell? ⟨gb331, 4, none⟩ = some (.int .i64 0) := (blk_cell BK331.out 4).trans rfl; have hfz10_0 := blk_frozen BK331.out 0; have hfz10_1 := blk_frozen BK331.out 1; have hfz10_2 := blk_frozen BK331.out 2; have hfz10_3 := blk_frozen BK331.out 3; have hfz10_4 := blk_frozen BK331.out 4))
  (try simp only [Act.put, List.setIfInBounds_toArray, List.set_cons_zero, List.set_cons_succ])
  go_cut [21] (fun v21 wc => ∃ (kq : Nat) (x21_3 : Bool), v21 = .bool x21_3 ∧ Aside0 (jotterlaw04_made.j0 kq a2 x21_3 a0_0 a0_1 a0_2 0 0 0 (wrap64 (1 + (Int.tmod (wrap64 (Int.tdiv a1 64)) 64))) (wrap64 (1 + (Int.tmod a1 64))) = some (r1, r2, r3, r4, r5)) ∧ Aside0 (kq ≤ k) ∧ Aside0 (wc.heap[gb329]? = some (.cells #[.bool a0_0, .int .i64 a0_1, .int .u8 a0_2] 56 (0, 0))) ∧ Aside0 (wc.heap[gb330]? = some (.cells #[.int .i64 0, .int .i64 0, .int .u8 0, .int .i64 0, .int .i64 0] 30 (0, 0))) ∧ Aside0 (wc.heap[gb331]? = some (.cells #[.int .i64 0, .int .i64 0, .int .u8 0, .int .i64 (wrap64 (1 + (Int.tmod (wrap64 (Int.tdiv a1 64)) 64))), .int .i64 (wrap64 (1 + (Int.tmod a1 64)))] 30 (0, 0))) ∧ Aside0 (Below w.heap.size w wc))
  case first =>
    have H := HC4.out
    clear HC4
    by_cases c11 : a0_0 = true
    · subst c11
      have H1 : (jotterlaw04_made.j0 k a2 (decide (a2 > 0)) true a0_1 a0_2 0 0 0 (wrap64 (1 + (Int.tmod (wrap64 (Int.tdiv a1 64)) 64))) (wrap64 (1 + (Int.tmod a1 64)))) = some (r1, r2, r3, r4, r5) := by rw [if_pos rfl] at H; exact H
      clear H
      have H := H1
      clear H1
      have H' := Aside0.mk H
      clear H
      have hnb12 := NB329_330.out
      have hnc12 := NB330_329.out
      have hnb13 := NB329_331.out
      have hnc13 := NB331_329.out
      have hcz14_0 : w7.cell? ⟨gb329, 0, none⟩ = some (.bool true) := (blk_cell BK329.out 0).trans rfl
      have hcz14_1 : w7.cell? ⟨gb329, 1, none⟩ = some (.int .i64 a0_1) := (blk_cell BK329.out 1).trans rfl
      have hcz14_2 : w7.cell? ⟨gb329, 2, none⟩ = some (.int .u8 a0_2) := (blk_cell BK329.out 2).trans rfl
      have hfz14_0 := blk_frozen BK329.out 0
      have hfz14_1 := blk_frozen BK329.out 1
      have hfz14_2 := blk_frozen BK329.out 2
      go_wp2
      go_meet
      case rel => exact ⟨_, (decide (a2 > 0)), (by first | rfl | (simp; done) | (simp [*]; done)), H', ⟨by first | omega | exact Nat.le_refl _⟩, ⟨by (with_reducible repeat (first | refine blk_drewN ?_ _ | refine blk_drew ?_ | refine blk_alloc ?_ _)); refine blk_far ?_ NB329_331.out _; (with_reducible repeat (first | refine blk_drewN ?_ _ | refine blk_drew ?_ | refine blk_alloc ?_ _)); refine blk_far ?_ NB329_331.out _; (with_reducible repeat (first | refine blk_drewN ?_ _ | refine blk_drew ?_ | refine blk_alloc ?_ _)); refine blk_far ?_ NB329_331.out _; (with_reducible repeat (first | refine blk_drewN ?_ _ | refine blk_drew ?_ | refine blk_alloc ?_ _)); refine blk_far ?_ NB329_331.out _; (with_reducible repeat (first | refine blk_drewN ?_ _ | refine blk_drew ?_ | refine blk_alloc ?_ _)); refine blk_far ?_ NB329_331.out _; (with_reducible repeat (first | refine blk_drewN ?_ _ | refine blk_drew ?_ | refine blk_alloc ?_ _)); exact BK329.out⟩, ⟨by (with_reducible repeat (first | refine blk_drewN ?_ _ | refine blk_drew ?_ | refine blk_alloc ?_ _)); refine blk_far ?_ NB330_331.out _; (with_reducible repeat (first | refine blk_drewN ?_ _ | refine blk_drew ?_ | refine blk_alloc ?_ _)); refine blk_far ?_ NB330_331.out _; (with_reducible repeat (first | refine blk_drewN ?_ _ | refine blk_drew ?_ | refine blk_alloc ?_ _)); refine blk_far ?_ NB330_331.out _; (with_reducible repeat (first | refine blk_drewN ?_ _ | refine blk_drew ?_ | refine blk_alloc ?_ _)); refine blk_far ?_ NB330_331.out _; (with_reducible repeat (first | refine blk_drewN ?_ _ | refine blk_drew ?_ | refine blk_alloc ?_ _)); refine blk_far ?_ NB330_331.out _; (with_reducible repeat (first | refine blk_drewN ?_ _ | refine blk_drew ?_ | refine blk_alloc ?_ _)); exact BK330.out⟩, ⟨by (with_reducible repeat (first | refine blk_drewN ?_ _ | refine blk_drew ?_ | refine blk_alloc ?_ _)); refine blk_put (cs := #[.int .i64 0, .int .i64 0, .int .u8 0, .int .i64 (wrap64 (1 + (Int.tmod (wrap64 (Int.tdiv a1 64)) 64))), .int .i64 0]) ?_ 4 _ rfl; (with_reducible repeat (first | refine blk_drewN ?_ _ | refine blk_drew ?_ | refine blk_alloc ?_ _)); refine blk_put (cs := #[.int .i64 0, .int .i64 0, .int .u8 0, .int .i64 0, .int .i64 0]) ?_ 3 _ rfl; (with_reducible repeat (first | refine blk_drewN ?_ _ | refine blk_drew ?_ | refine blk_alloc ?_ _)); refine blk_put (cs := #[.int .i64 0, .int .i64 0, .int .u8 0, .int .i64 0, .int .i64 0]) ?_ 2 _ rfl; (with_reducible repeat (first | refine blk_drewN ?_ _ | refine blk_drew ?_ | refine blk_alloc ?_ _)); refine blk_put (cs := #[.int .i64 0, .int .i64 0, .int .u8 0, .int .i64 0, .int .i64 0]) ?_ 1 _ rfl; (with_reducible repeat (first | refine blk_drewN ?_ _ | refine blk_drew ?_ | refine blk_alloc ?_ _)); refine blk_put (cs := #[.int .i64 0, .int .i64 0, .int .u8 0, .int .i64 0, .int .i64 0]) ?_ 0 _ rfl; (with_reducible repeat (first | refine blk_drewN ?_ _ | refine blk_drew ?_ | refine blk_alloc ?_ _)); exact BK331.out⟩, ⟨by repeat (first | (with_reducible first | exact HB.out | apply below_alloc | apply pw_below_drewN | apply below_drew1 | refine below_set ?_ GE329.out | refine below_set ?_ GE330.out | refine below_set ?_ GE331.out) | exact HB.out)⟩⟩
    · replace c11 := Bool.eq_false_iff.mpr c11
      subst c11
      have H1 : (jotterlaw04_made.j0 k a2 false false a0_1 a0_2 0 0 0 (wrap64 (1 + (Int.tmod (wrap64 (Int.tdiv a1 64)) 64))) (wrap64 (1 + (Int.tmod a1 64)))) = some (r1, r2, r3, r4, r5) := by rw [if_neg (show ¬ (false = true) by decide)] at H; exact H
      clear H
      have H := H1
      clear H1
      have H' := Aside0.mk H
      clear H
      have hnb15 := NB329_330.out
      have hnc15 := NB330_329.out
      have hnb16 := NB329_331.out
      have hnc16 := NB331_329.out
      have hcz17_0 : w7.cell? ⟨gb329, 0, none⟩ = some (.bool false) := (blk_cell BK329.out 0).trans rfl
      have hcz17_1 : w7.cell? ⟨gb329, 1, none⟩ = some (.int .i64 a0_1) := (blk_cell BK329.out 1).trans rfl
      have hcz17_2 : w7.cell? ⟨gb329, 2, none⟩ = some (.int .u8 a0_2) := (blk_cell BK329.out 2).trans rfl
      have hfz17_0 := blk_frozen BK329.out 0
      have hfz17_1 := blk_frozen BK329.out 1
      have hfz17_2 := blk_frozen BK329.out 2
      go_wp2
      go_meet
      case rel => exact ⟨_, (false), (by first | rfl | (simp; done) | (simp [*]; done)), H', ⟨by first | omega | exact Nat.le_refl _⟩, ⟨by (with_reducible repeat (first | refine blk_drewN ?_ _ | refine blk_drew ?_ | refine blk_alloc ?_ _)); refine blk_far ?_ NB329_331.out _; (with_reducible repeat (first | refine blk_drewN ?_ _ | refine blk_drew ?_ | refine blk_alloc ?_ _)); refine blk_far ?_ NB329_331.out _; (with_reducible repeat (first | refine blk_drewN ?_ _ | refine blk_drew ?_ | refine blk_alloc ?_ _)); refine blk_far ?_ NB329_331.out _; (with_reducible repeat (first | refine blk_drewN ?_ _ | refine blk_drew ?_ | refine blk_alloc ?_ _)); refine blk_far ?_ NB329_331.out _; (with_reducible repeat (first | refine blk_drewN ?_ _ | refine blk_drew ?_ | refine blk_alloc ?_ _)); refine blk_far ?_ NB329_331.out _; (with_reducible repeat (first | refine blk_drewN ?_ _ | refine blk_drew ?_ | refine blk_alloc ?_ _)); exact BK329.out⟩, ⟨by (with_reducible repeat (first | refine blk_drewN ?_ _ | refine blk_drew ?_ | refine blk_alloc ?_ _)); refine blk_far ?_ NB330_331.out _; (with_reducible repeat (first | refine blk_drewN ?_ _ | refine blk_drew ?_ | refine blk_alloc ?_ _)); refine blk_far ?_ NB330_331.out _; (with_reducible repeat (first | refine blk_drewN ?_ _ | refine blk_drew ?_ | refine blk_alloc ?_ _)); refine blk_far ?_ NB330_331.out _; (with_reducible repeat (first | refine blk_drewN ?_ _ | refine blk_drew ?_ | refine blk_alloc ?_ _)); refine blk_far ?_ NB330_331.out _; (with_reducible repeat (first | refine blk_drewN ?_ _ | refine blk_drew ?_ | refine blk_alloc ?_ _)); refine blk_far ?_ NB330_331.out _; (with_reducible repeat (first | refine blk_drewN ?_ _ | refine blk_drew ?_ | refine blk_alloc ?_ _)); exact BK330.out⟩, ⟨by (with_reducible repeat (first | refine blk_drewN ?_ _ | refine blk_drew ?_ | refine blk_alloc ?_ _)); refine blk_put (cs := #[.int .i64 0, .int .i64 0, .int .u8 0, .int .i64 (wrap64 (1 + (Int.tmod (wrap64 (Int.tdiv a1 64)) 64))), .int .i64 0]) ?_ 4 _ rfl; (with_reducible repeat (first | refine blk_drewN ?_ _ | refine blk_drew ?_ | refine blk_alloc ?_ _)); refine blk_put (cs := #[.int .i64 0, .int .i64 0, .int .u8 0, .int .i64 0, .int .i64 0]) ?_ 3 _ rfl; (with_reducible repeat (first | refine blk_drewN ?_ _ | refine blk_drew ?_ | refine blk_alloc ?_ _)); refine blk_put (cs := #[.int .i64 0, .int .i64 0, .int .u8 0, .int .i64 0, .int .i64 0]) ?_ 2 _ rfl; (with_reducible repeat (first | refine blk_drewN ?_ _ | refine blk_drew ?_ | refine blk_alloc ?_ _)); refine blk_put (cs := #[.int .i64 0, .int .i64 0, .int .u8 0, .int .i64 0, .int .i64 0]) ?_ 1 _ rfl; (with_reducible repeat (first | refine blk_drewN ?_ _ | refine blk_drew ?_ | refine blk_alloc ?_ _)); refine blk_put (cs := #[.int .i64 0, .int .i64 0, .int .u8 0, .int .i64 0, .int .i64 0]) ?_ 0 _ rfl; (with_reducible repeat (first | refine blk_drewN ?_ _ | refine blk_drew ?_ | refine blk_alloc ?_ _)); exact BK331.out⟩, ⟨by repeat (first | (with_reducible first | exact HB.out | apply below_alloc | apply pw_below_drewN | apply below_drew1 | refine below_set ?_ GE329.out | refine below_set ?_ GE330.out | refine below_set ?_ GE331.out) | exact HB.out)⟩⟩
  case rest =>
    clear HC4
    try clear c1
    try clear p2
    try clear c3
    try clear p6
    try clear c8
    try clear c9
    try clear c11
    try clear c12
    try clear c13
    try clear c15
    try clear c16
    try clear hcz10_0
    try clear hcz10_1
    try clear hcz10_2
    try clear hcz10_3
    try clear hcz10_4
    try clear hcz14_0
    try clear hcz14_1
    try clear hcz14_2
    try clear hcz17_0
    try clear hcz17_1
    try clear hcz17_2
    try clear hfz10_0
    try clear hfz10_1
    try clear hfz10_2
    try clear hfz10_3
    try clear hfz10_4
    try clear hfz14_0
    try clear hfz14_1
    try clear hfz14_2
    try clear hfz17_0
    try clear hfz17_1
    try clear hfz17_2
    obtain ⟨kq, x21_3, rfl, HA, HJ3, BK329, BK330, BK331, HB⟩ := hcut
    cases kq with
    | zero => exact absurd HA.out (by simp [jotterlaw04_made.j0])
    | succ kj3 =>
      have H := HA.out
      clear HA
      simp only [jotterlaw04_made.j0] at H
      by_cases c18 : x21_3 = true
      · subst c18
        have H1 : ((jotterlaw04_place.f a0_1 a2).bind fun t332 => (some (2, t332, 0, (wrap64 (1 + (Int.tmod (wrap64 (Int.tdiv a1 64)) 64))), (wrap64 (1 + (Int.tmod a1 64)))))) = some (r1, r2, r3, r4, r5) := by rw [if_pos rfl] at H; exact H
        clear H
        have H := H1
        clear H1
        replace H := Option.bind_eq_some_iff.mp H
        obtain ⟨t332, A190, H⟩ := H
        replace H : (some (2, t332, 0, (wrap64 (1 + (Int.tmod (wrap64 (Int.tdiv a1 64)) 64))), (wrap64 (1 + (Int.tmod a1 64))))) = some (r1, r2, r3, r4, r5) := H
        have A19 := Aside0.mk A190
        clear A190
        simp only [Option.some.injEq, Prod.mk.injEq] at H
        obtain ⟨rfl, rfl, rfl, rfl, rfl⟩ := H
        have hnb20 := NB331_329.out
        have hnc20 := NB329_331.out
        have hnb21 := NB331_330.out
        have hnc21 := NB330_331.out
        have hcz22_0 : wc.cell? ⟨gb331, 0, none⟩ = some (.int .i64 0) := (blk_cell BK331.out 0).trans rfl
        have hcz22_1 : wc.cell? ⟨gb331, 1, none⟩ = some (.int .i64 0) := (blk_cell BK331.out 1).trans rfl
        have hcz22_2 : wc.cell? ⟨gb331, 2, none⟩ = some (.int .u8 0) := (blk_cell BK331.out 2).trans rfl
        have hcz22_3 : wc.cell? ⟨gb331, 3, none⟩ = some (.int .i64 (wrap64 (1 + (Int.tmod (wrap64 (Int.tdiv a1 64)) 64)))) := (blk_cell BK331.out 3).trans rfl
        have hcz22_4 : wc.cell? ⟨gb331, 4, none⟩ = some (.int .i64 (wrap64 (1 + (Int.tmod a1 64)))) := (blk_cell BK331.out 4).trans rfl
        have hfz22_0 := blk_frozen BK331.out 0
        have hfz22_1 := blk_frozen BK331.out 1
        have hfz22_2 := blk_frozen BK331.out 2
        have hfz22_3 := blk_frozen BK331.out 3
        have hfz22_4 := blk_frozen BK331.out 4
        have hnb23 := NB329_330.out
        have hnc23 := NB330_329.out
        have hcz24_0 : wc.cell? ⟨gb329, 0, none⟩ = some (.bool a0_0) := (blk_cell BK329.out 0).trans rfl
        have hcz24_1 : wc.cell? ⟨gb329, 1, none⟩ = some (.int .i64 a0_1) := (blk_cell BK329.out 1).trans rfl
        have hcz24_2 : wc.cell? ⟨gb329, 2, none⟩ = some (.int .u8 a0_2) := (blk_cell BK329.out 2).trans rfl
        have hfz24_0 := blk_frozen BK329.out 0
        have hfz24_1 := blk_frozen BK329.out 1
        have hfz24_2 := blk_frozen BK329.out 2
        go_wp2_with (first | ((with_reducible refine gate_callee (f := 27) rfl ?_); refine goesL_ (some 26) rfl rfl Try.func27 (by kernel_rfl) rfl #[.int .i64 a0_1, .int .i64 a2] rfl (by (try simp only [List.map_toArray, List.map_cons, List.map_nil]); first | done | rfl | (simp only [List.length_drop, List.length_take]; rfl)) ?_; (with_reducible refine (jotterlaw04_place.calls a0_1 a2 t332 _ A19.out).mono ?_); rintro e w' ⟨rfl, ⟨nd, rfl⟩⟩; refine ⟨_, rfl, ?_⟩; have hcz25_0 : wc.cell? ⟨gb330, 0, none⟩ = some (.int .i64 0) := (blk_cell BK330.out 0).trans rfl; have hcz25_1 : wc.cell? ⟨gb330, 1, none⟩ = some (.int .i64 0) := (blk_cell BK330.out 1).trans rfl; have hcz25_2 : wc.cell? ⟨gb330, 2, none⟩ = some (.int .u8 0) := (blk_cell BK330.out 2).trans rfl; have hcz25_3 : wc.cell? ⟨gb330, 3, none⟩ = some (.int .i64 0) := (blk_cell BK330.out 3).trans rfl; have hcz25_4 : wc.cell? ⟨gb330, 4, none⟩ = some (.int .i64 0) := (blk_cell BK330.out 4).trans rfl; have hfz25_0 := blk_frozen BK330.out 0; have hfz25_1 := blk_frozen BK330.out 1; have hfz25_2 := blk_frozen BK330.out 2; have hfz25_3 := blk_frozen BK330.out 3; have hfz25_4 := blk_frozen BK330.out 4))
        refine bodyPost_ret (results_cell_row rfl _ _ gb330 30 #[.int .i64 2, .int .i64 t332, .int .u8 0, .int .i64 (wrap64 (1 + (Int.tmod (wrap64 (Int.tdiv a1 64)) 64))), .int .i64 (wrap64 (1 + (Int.tmod a1 64)))] (0, 0) _ rfl (by (with_reducible repeat (first | refine blk_drewN ?_ _ | refine blk_drew ?_ | refine blk_alloc ?_ _)); refine blk_put (cs := #[.int .i64 2, .int .i64 t332, .int .u8 0, .int .i64 (wrap64 (1 + (Int.tmod (wrap64 (Int.tdiv a1 64)) 64))), .int .i64 0]) ?_ 4 _ rfl; (with_reducible repeat (first | refine blk_drewN ?_ _ | refine blk_drew ?_ | refine blk_alloc ?_ _)); refine blk_put (cs := #[.int .i64 2, .int .i64 t332, .int .u8 0, .int .i64 0, .int .i64 0]) ?_ 3 _ rfl; (with_reducible repeat (first | refine blk_drewN ?_ _ | refine blk_drew ?_ | refine blk_alloc ?_ _)); refine blk_put (cs := #[.int .i64 2, .int .i64 t332, .int .u8 0, .int .i64 0, .int .i64 0]) ?_ 2 _ rfl; (with_reducible repeat (first | refine blk_drewN ?_ _ | refine blk_drew ?_ | refine blk_alloc ?_ _)); refine blk_put (cs := #[.int .i64 2, .int .i64 0, .int .u8 0, .int .i64 0, .int .i64 0]) ?_ 1 _ rfl; (with_reducible repeat (first | refine blk_drewN ?_ _ | refine blk_drew ?_ | refine blk_alloc ?_ _)); refine blk_put (cs := #[.int .i64 0, .int .i64 0, .int .u8 0, .int .i64 0, .int .i64 0]) ?_ 0 _ rfl; (with_reducible repeat (first | refine blk_drewN ?_ _ | refine blk_drew ?_ | refine blk_alloc ?_ _)); refine blk_far ?_ NB330_331.out _; (with_reducible repeat (first | refine blk_drewN ?_ _ | refine blk_drew ?_ | refine blk_alloc ?_ _)); refine blk_far ?_ NB330_331.out _; (with_reducible repeat (first | refine blk_drewN ?_ _ | refine blk_drew ?_ | refine blk_alloc ?_ _)); exact BK330.out) Try.underlying30 rfl (by kernel_rfl)) rfl ?_
        exact ⟨by first | rfl | (simp [errW_none, errW_some] <;> rfl) | (simp [*, errW_none, errW_some] <;> rfl), by repeat (first | (with_reducible first | exact HB.out | apply below_alloc | apply pw_below_drewN | apply below_drew1 | refine below_set ?_ GE329.out | refine below_set ?_ GE330.out | refine below_set ?_ GE331.out) | exact HB.out)⟩
      · replace c18 := Bool.eq_false_iff.mpr c18
        subst c18
        have H1 : ((jotterlaw04_place.f a0_1 (wrap64 (a2 + 1))).bind fun t333 => (some (1, t333, (32 + (Int.tmod a0_2 95)) % 256, (wrap64 (1 + (Int.tmod (wrap64 (Int.tdiv a1 64)) 64))), (wrap64 (1 + (Int.tmod a1 64)))))) = some (r1, r2, r3, r4, r5) := by rw [if_neg (show ¬ (false = true) by decide)] at H; exact H
        clear H
        have H := H1
        clear H1
        replace H := Option.bind_eq_some_iff.mp H
        obtain ⟨t333, A260, H⟩ := H
        replace H : (some (1, t333, (32 + (Int.tmod a0_2 95)) % 256, (wrap64 (1 + (Int.tmod (wrap64 (Int.tdiv a1 64)) 64))), (wrap64 (1 + (Int.tmod a1 64))))) = some (r1, r2, r3, r4, r5) := H
        have A26 := Aside0.mk A260
        clear A260
        simp only [Option.some.injEq, Prod.mk.injEq] at H
        obtain ⟨rfl, rfl, rfl, rfl, rfl⟩ := H
        have hnb27 := NB331_329.out
        have hnc27 := NB329_331.out
        have hnb28 := NB331_330.out
        have hnc28 := NB330_331.out
        have hcz29_0 : wc.cell? ⟨gb331, 0, none⟩ = some (.int .i64 0) := (blk_cell BK331.out 0).trans rfl
        have hcz29_1 : wc.cell? ⟨gb331, 1, none⟩ = some (.int .i64 0) := (blk_cell BK331.out 1).trans rfl
        have hcz29_2 : wc.cell? ⟨gb331, 2, none⟩ = some (.int .u8 0) := (blk_cell BK331.out 2).trans rfl
        have hcz29_3 : wc.cell? ⟨gb331, 3, none⟩ = some (.int .i64 (wrap64 (1 + (Int.tmod (wrap64 (Int.tdiv a1 64)) 64)))) := (blk_cell BK331.out 3).trans rfl
        have hcz29_4 : wc.cell? ⟨gb331, 4, none⟩ = some (.int .i64 (wrap64 (1 + (Int.tmod a1 64)))) := (blk_cell BK331.out 4).trans rfl
        have hfz29_0 := blk_frozen BK331.out 0
        have hfz29_1 := blk_frozen BK331.out 1
        have hfz29_2 := blk_frozen BK331.out 2
        have hfz29_3 := blk_frozen BK331.out 3
        have hfz29_4 := blk_frozen BK331.out 4
        have hnb30 := NB329_330.out
        have hnc30 := NB330_329.out
        have hcz31_0 : wc.cell? ⟨gb329, 0, none⟩ = some (.bool a0_0) := (blk_cell BK329.out 0).trans rfl
        have hcz31_1 : wc.cell? ⟨gb329, 1, none⟩ = some (.int .i64 a0_1) := (blk_cell BK329.out 1).trans rfl
        have hcz31_2 : wc.cell? ⟨gb329, 2, none⟩ = some (.int .u8 a0_2) := (blk_cell BK329.out 2).trans rfl
        have hfz31_0 := blk_frozen BK329.out 0
        have hfz31_1 := blk_frozen BK329.out 1
        have hfz31_2 := blk_frozen BK329.out 2
        go_wp2_with (first | ((with_reducible refine gate_callee (f := 27) rfl ?_); refine goesL_ (some 34) rfl rfl Try.func27 (by kernel_rfl) rfl #[.int .i64 a0_1, .int .i64 (wrap64 (a2 + 1))] rfl (by (try simp only [List.map_toArray, List.map_cons, List.map_nil]); first | done | rfl | (simp only [List.length_drop, List.length_take]; rfl)) ?_; (with_reducible refine (jotterlaw04_place.calls a0_1 (wrap64 (a2 + 1)) t333 _ A26.out).mono ?_); rintro e w' ⟨rfl, ⟨nd, rfl⟩⟩; refine ⟨_, rfl, ?_⟩; have hcz32_0 : wc.cell? ⟨gb330, 0, none⟩ = some (.int .i64 0) := (blk_cell BK330.out 0).trans rfl; have hcz32_1 : wc.cell? ⟨gb330, 1, none⟩ = some (.int .i64 0) := (blk_cell BK330.out 1).trans rfl; have hcz32_2 : wc.cell? ⟨gb330, 2, none⟩ = some (.int .u8 0) := (blk_cell BK330.out 2).trans rfl; have hcz32_3 : wc.cell? ⟨gb330, 3, none⟩ = some (.int .i64 0) := (blk_cell BK330.out 3).trans rfl; have hcz32_4 : wc.cell? ⟨gb330, 4, none⟩ = some (.int .i64 0) := (blk_cell BK330.out 4).trans rfl; have hfz32_0 := blk_frozen BK330.out 0; have hfz32_1 := blk_frozen BK330.out 1; have hfz32_2 := blk_frozen BK330.out 2; have hfz32_3 := blk_frozen BK330.out 3; have hfz32_4 := blk_frozen BK330.out 4))
        refine bodyPost_ret (results_cell_row rfl _ _ gb330 30 #[.int .i64 1, .int .i64 t333, .int .u8 ((32 + (Int.tmod a0_2 95)) % 256), .int .i64 (wrap64 (1 + (Int.tmod (wrap64 (Int.tdiv a1 64)) 64))), .int .i64 (wrap64 (1 + (Int.tmod a1 64)))] (0, 0) _ rfl (by (with_reducible repeat (first | refine blk_drewN ?_ _ | refine blk_drew ?_ | refine blk_alloc ?_ _)); refine blk_put (cs := #[.int .i64 1, .int .i64 t333, .int .u8 ((32 + (Int.tmod a0_2 95)) % 256), .int .i64 (wrap64 (1 + (Int.tmod (wrap64 (Int.tdiv a1 64)) 64))), .int .i64 0]) ?_ 4 _ rfl; (with_reducible repeat (first | refine blk_drewN ?_ _ | refine blk_drew ?_ | refine blk_alloc ?_ _)); refine blk_put (cs := #[.int .i64 1, .int .i64 t333, .int .u8 ((32 + (Int.tmod a0_2 95)) % 256), .int .i64 0, .int .i64 0]) ?_ 3 _ rfl; (with_reducible repeat (first | refine blk_drewN ?_ _ | refine blk_drew ?_ | refine blk_alloc ?_ _)); refine blk_put (cs := #[.int .i64 1, .int .i64 t333, .int .u8 0, .int .i64 0, .int .i64 0]) ?_ 2 _ rfl; (with_reducible repeat (first | refine blk_drewN ?_ _ | refine blk_drew ?_ | refine blk_alloc ?_ _)); refine blk_put (cs := #[.int .i64 1, .int .i64 0, .int .u8 0, .int .i64 0, .int .i64 0]) ?_ 1 _ rfl; (with_reducible repeat (first | refine blk_drewN ?_ _ | refine blk_drew ?_ | refine blk_alloc ?_ _)); refine blk_put (cs := #[.int .i64 0, .int .i64 0, .int .u8 0, .int .i64 0, .int .i64 0]) ?_ 0 _ rfl; (with_reducible repeat (first | refine blk_drewN ?_ _ | refine blk_drew ?_ | refine blk_alloc ?_ _)); refine blk_far ?_ NB330_331.out _; (with_reducible repeat (first | refine blk_drewN ?_ _ | refine blk_drew ?_ | refine blk_alloc ?_ _)); refine blk_far ?_ NB330_331.out _; (with_reducible repeat (first | refine blk_drewN ?_ _ | refine blk_drew ?_ | refine blk_alloc ?_ _)); refine blk_far ?_ NB330_331.out _; (with_reducible repeat (first | refine blk_drewN ?_ _ | refine blk_drew ?_ | refine blk_alloc ?_ _)); exact BK330.out) Try.underlying30 rfl (by kernel_rfl)) rfl ?_
        exact ⟨by first | rfl | (simp [errW_none, errW_some] <;> rfl) | (simp [*, errW_none, errW_some] <;> rfl), by repeat (first | (with_reducible first | exact HB.out | apply below_alloc | apply pw_below_drewN | apply below_drew1 | refine below_set ?_ GE329.out | refine below_set ?_ GE330.out | refine below_set ?_ GE331.out) | exact HB.out)⟩

end Go.Proofs.Ytjdhoipaanlipaa.Q
