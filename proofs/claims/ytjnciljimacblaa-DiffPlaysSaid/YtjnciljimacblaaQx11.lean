/- Go functions of the seat, each as a Lean function that tells its answer, and the proof that the call gives it. Condition: the arguments are read as lists. Laid by a program of this session. -/
import Derived.Test.YtjnciljimacblaaQx0
import Derived.Test.YtjnciljimacblaaQx9
import Derived.Test.YtjnciljimacblaaQx10
namespace Go.Proofs.Ytjnciljimacblaa.Q
open Go.RowKit Go.Proofs.YtjnciljimacblaaW.PrintWords Go.Proofs.YtjnciljimacblaaW.PrintLast Go.Proofs.YtjnciljimacblaaW.PrintMore
attribute [local go_sem] max2_int min2_int max_two min_two max_three min_three max_four min_four   -- for this text's walks alone
set_option linter.unusedVariables false
set_option linter.unusedSimpArgs false

/-! ### doc_Fits: function 42 -/
def doc_Fits.j0 : Nat → Int → Bool → Int → Int → Int → Int → Int → Option (Int)
  | 0, _, _, _, _, _, _, _ => none
  | k + 1, x0, x22, x134000, x134001, x134002, x134003, x134004 => if x22 = true then (some 44) else (if x134000 = 1 then (if x134001 > x0 then (some 43) else (if x134000 = 2 then (if x134001 ≥ x0 then (some 43) else (some 0)) else (some 0))) else (if x134000 = 2 then (if x134001 ≥ x0 then (some 43) else (some 0)) else (some 0)))
def doc_Fits.f (k : Nat) (a0 : Int) (a1_0 : Int) (a1_1 : Int) (a1_2 : Int) (a1_3 : Int) (a1_4 : Int) : Option (Int) := (doc_Valid.f k a1_0 a1_1 a1_2 a1_3 a1_4).bind fun t134 => (if t134 = 0 then ((doc_within.f a0 0 4096).bind fun t135 => (if t135 = true then (if a1_0 = 1 then (doc_Fits.j0 k a0 (a0 == 4096) a1_0 a1_1 a1_2 a1_3 a1_4) else (doc_Fits.j0 k a0 false a1_0 a1_1 a1_2 a1_3 a1_4)) else (doc_Fits.j0 k a0 true a1_0 a1_1 a1_2 a1_3 a1_4))) else (some t134))
theorem doc_Fits.mono_l : ∀ k, (∀ y0 y1 y2 y3 y4 y5 y6, LeO (doc_Fits.j0 k y0 y1 y2 y3 y4 y5 y6) (doc_Fits.j0 (k + 1) y0 y1 y2 y3 y4 y5 y6))
  | 0 => fun _ _ _ _ _ _ _ r h => by simp [doc_Fits.j0] at h
  | k + 1 => by
    have ih0 := doc_Fits.mono_l k
    · intro y0 y1 y2 y3 y4 y5 y6
      unfold doc_Fits.j0
      repeat' first
      | (with_reducible exact ih0 _ _ _ _ _ _ _)
      | (with_reducible exact doc_Valid.mono _ _ _ _ _ _)
      | (with_reducible exact LeO.refl _)
      | (with_reducible exact LeO.none _)
      | (with_reducible refine LeO.ite ?_ ?_)
      | (with_reducible refine LeO.bind ?_ (fun _ => ?_))
      | exact ih0 _ _ _ _ _ _ _
      | exact doc_Valid.mono _ _ _ _ _ _
      | exact LeO.none _
      | refine LeO.ite ?_ ?_
      | refine LeO.bind ?_ (fun _ => ?_)
theorem doc_Fits.mono : ∀ a0 a1 a2 a3 a4 a5 k, LeO (doc_Fits.f k a0 a1 a2 a3 a4 a5) (doc_Fits.f (k + 1) a0 a1 a2 a3 a4 a5) := by
  intro a0 a1 a2 a3 a4 a5 k
  have ih0 := doc_Fits.mono_l k
  unfold doc_Fits.f
  repeat' first
      | (with_reducible exact ih0 _ _ _ _ _ _ _)
      | (with_reducible exact doc_Valid.mono _ _ _ _ _ _)
      | (with_reducible exact LeO.refl _)
      | (with_reducible exact LeO.none _)
      | (with_reducible refine LeO.ite ?_ ?_)
      | (with_reducible refine LeO.bind ?_ (fun _ => ?_))
      | exact ih0 _ _ _ _ _ _ _
      | exact doc_Valid.mono _ _ _ _ _ _
      | exact LeO.none _
      | refine LeO.ite ?_ ?_
      | refine LeO.bind ?_ (fun _ => ?_)
set_option maxHeartbeats 8000000 in
set_option maxRecDepth 100000 in
theorem doc_Fits.calls (k : Nat) (a0 : Int) (a1_0 : Int) (a1_1 : Int) (a1_2 : Int) (a1_3 : Int) (a1_4 : Int) (r : Int) (w : World) (h : doc_Fits.f k a0 a1_0 a1_1 a1_2 a1_3 a1_4 = some r) :
    Calls Try.prog 42 #[.int .i64 a0, .agg #[.int .i64 a1_0, .int .i64 a1_1, .int .u8 a1_2, .int .i64 a1_3, .int .i64 a1_4]] w fun e w' => e = .returned (.int .i64 r) ∧ Below w.heap.size w w' := by
  have hu38 := Try.underlying38
  have HB := Aside0.mk (Below.refl w.heap.size w)
  have H : ((doc_Valid.f k a1_0 a1_1 a1_2 a1_3 a1_4).bind fun t134 => (if t134 = 0 then ((doc_within.f a0 0 4096).bind fun t135 => (if t135 = true then (if a1_0 = 1 then (doc_Fits.j0 k a0 (a0 == 4096) a1_0 a1_1 a1_2 a1_3 a1_4) else (doc_Fits.j0 k a0 false a1_0 a1_1 a1_2 a1_3 a1_4)) else (doc_Fits.j0 k a0 true a1_0 a1_1 a1_2 a1_3 a1_4))) else (some t134))) = some r := h
  clear h
  replace H := Option.bind_eq_some_iff.mp H
  obtain ⟨t134, A30, H⟩ := H
  replace H : (if t134 = 0 then ((doc_within.f a0 0 4096).bind fun t135 => (if t135 = true then (if a1_0 = 1 then (doc_Fits.j0 k a0 (a0 == 4096) a1_0 a1_1 a1_2 a1_3 a1_4) else (doc_Fits.j0 k a0 false a1_0 a1_1 a1_2 a1_3 a1_4)) else (doc_Fits.j0 k a0 true a1_0 a1_1 a1_2 a1_3 a1_4))) else (some t134)) = some r := H
  have A3 := Aside0.mk A30
  clear A30
  by_cases c4 : t134 = 0
  · rw [if_pos c4] at H
    have c4b0 : (t134 == 0) = true := beq_iff_eq.mpr c4
    have c4b1 : (t134 != 0) = false := bne_eq_false_iff_eq.mpr c4
    clear c4
    have HC5 := Aside0.mk H
    clear H
    go_enter Try.func42, Try.ntmps42
    go_upto_region 4 with (first | ((with_reducible refine gate_dst (N := 3) rfl ?_); refine box_event ?hg (N := 3) ?hd (cs := #[.int .i64 a1_0, .int .i64 a1_1, .int .u8 a1_2, .int .i64 a1_3, .int .i64 a1_4]) (t := 38) ?hr ?_; (case hd => rfl); (case hg => rfl); (case hr => first | (go_simp; done) | (go_simp; rfl)); intro gb133 hg w6 hbox hb; have n0_ := Aside0.mk (below_step (by repeat (first | (with_reducible first | exact HB.out | apply below_alloc | apply pw_below_drewN | apply below_drew1) | exact HB.out)) hb); have n1_ := Aside0.mk (hbox); have n2_ := Aside0.mk ((by rw [hg]; exact (below_size (by repeat (first | (with_reducible first | exact HB.out | apply below_alloc | apply pw_below_drewN | apply below_drew1) | exact HB.out))) : w.heap.size ≤ gb133)); have n3_ := Aside0.mk ((by rw [hg]; exact (below_size (by repeat (first | (with_reducible first | exact HB.out | apply below_alloc | apply pw_below_drewN | apply below_drew1) | exact HB.out))) : w.heap.size ≤ gb133)); clear HB; have HB := n0_; have BK133 := n1_; have GW133 := n2_; have GE133 := n3_; clear n0_ n1_ n2_ n3_; clear hb hbox hg; have hcz7_0 : w6.cell? ⟨gb133, 0, none⟩ = some (.int .i64 a1_0) := (blk_cell BK133.out 0).trans rfl; have hcz7_1 : w6.cell? ⟨gb133, 1, none⟩ = some (.int .i64 a1_1) := (blk_cell BK133.out 1).trans rfl; have hcz7_2 : w6.cell? ⟨gb133, 2, none⟩ = some (.int .u8 a1_2) := (blk_cell BK133.out 2).trans rfl; have hcz7_3 : w6.cell? ⟨gb133, 3, none⟩ = some (.int .i64 a1_3) := (blk_cell BK133.out 3).trans rfl; have hcz7_4 : w6.cell? ⟨gb133, 4, none⟩ = some (.int .i64 a1_4) := (blk_cell BK133.out 4).trans rfl; have hfz7_0 := blk_frozen BK133.out 0; have hfz7_1 := blk_frozen BK133.out 1; have hfz7_2 := blk_frozen BK133.out 2; have hfz7_3 := blk_frozen BK133.out 3; have hfz7_4 := blk_frozen BK133.out 4) | ((with_reducible refine gate_callee (f := 46) rfl ?_); refine goesL_ (some 7) rfl rfl Try.func46 (by kernel_rfl) rfl #[.agg #[.int .i64 a1_0, .int .i64 a1_1, .int .u8 a1_2, .int .i64 a1_3, .int .i64 a1_4]] rfl (by (try simp only [List.map_toArray, List.map_cons, List.map_nil]); first | done | rfl | (simp only [List.length_drop, List.length_take]; rfl)) ?_; (with_reducible refine (doc_Valid.calls k a1_0 a1_1 a1_2 a1_3 a1_4 t134 _ A3.out).mono ?_); rintro e w8 ⟨rfl, hb⟩; refine ⟨_, rfl, ?_⟩; have n0_ := Aside0.mk (blk_below (g := gb133) (o := .cells #[.int .i64 a1_0, .int .i64 a1_1, .int .u8 a1_2, .int .i64 a1_3, .int .i64 a1_4] 38 (0, 0)) (by (with_reducible repeat (first | refine blk_drewN ?_ _ | refine blk_drew ?_ | refine blk_alloc ?_ _)); exact BK133.out) hb); have n1_ := Aside0.mk (below_step (by repeat (first | (with_reducible first | exact HB.out | apply below_alloc | apply pw_below_drewN | apply below_drew1 | refine below_set ?_ GE133.out) | exact HB.out)) hb); clear BK133; clear HB; have BK133 := n0_; have HB := n1_; clear n0_ n1_; (try clear hb); (try clear hb2); (try clear hk); (try clear hi)))
    (try simp only [Act.put, List.setIfInBounds_toArray, List.set_cons_zero, List.set_cons_succ])
    go_cut [22] (fun v22 wc => ∃ (kq : Nat) (x22_4 : Bool), v22 = .bool x22_4 ∧ Aside0 (doc_Fits.j0 kq a0 x22_4 a1_0 a1_1 a1_2 a1_3 a1_4 = some r) ∧ Aside0 (kq ≤ k) ∧ Aside0 (wc.heap[gb133]? = some (.cells #[.int .i64 a1_0, .int .i64 a1_1, .int .u8 a1_2, .int .i64 a1_3, .int .i64 a1_4] 38 (0, 0))) ∧ Aside0 (Below w.heap.size w wc))
    case first =>
      have H := HC5.out
      clear HC5
      replace H := Option.bind_eq_some_iff.mp H
      obtain ⟨t135, A90, H⟩ := H
      replace H : (if t135 = true then (if a1_0 = 1 then (doc_Fits.j0 k a0 (a0 == 4096) a1_0 a1_1 a1_2 a1_3 a1_4) else (doc_Fits.j0 k a0 false a1_0 a1_1 a1_2 a1_3 a1_4)) else (doc_Fits.j0 k a0 true a1_0 a1_1 a1_2 a1_3 a1_4)) = some r := H
      have A9 := Aside0.mk A90
      clear A90
      by_cases c10 : t135 = true
      · subst c10
        have H1 : (if a1_0 = 1 then (doc_Fits.j0 k a0 (a0 == 4096) a1_0 a1_1 a1_2 a1_3 a1_4) else (doc_Fits.j0 k a0 false a1_0 a1_1 a1_2 a1_3 a1_4)) = some r := by rw [if_pos rfl] at H; exact H
        clear H
        have H := H1
        clear H1
        by_cases c11 : a1_0 = 1
        · rw [if_pos c11] at H
          have c11b0 : (a1_0 == 1) = true := beq_iff_eq.mpr c11
          have c11b1 : (a1_0 != 1) = false := bne_eq_false_iff_eq.mpr c11
          clear c11
          (first | rw [c11b0] | (simp only [i64_w, i32_w]; rw [c11b0]) | skip)
          have H' := Aside0.mk H
          clear H
          go_wp2_with (first | ((with_reducible refine gate_callee (f := 47) rfl ?_); refine goesL_ (some 12) rfl rfl Try.func47 (by kernel_rfl) rfl #[.int .i64 a0, .int .i64 0, .int .i64 4096] rfl (by (try simp only [List.map_toArray, List.map_cons, List.map_nil]); first | done | rfl | (simp only [List.length_drop, List.length_take]; rfl)) ?_; (with_reducible refine (doc_within.calls a0 0 4096 true _ A9.out).mono ?_); rintro e w' ⟨rfl, ⟨nd, rfl⟩⟩; refine ⟨_, rfl, ?_⟩; have hcz12_0 : w8.cell? ⟨gb133, 0, none⟩ = some (.int .i64 a1_0) := (blk_cell BK133.out 0).trans rfl; have hcz12_1 : w8.cell? ⟨gb133, 1, none⟩ = some (.int .i64 a1_1) := (blk_cell BK133.out 1).trans rfl; have hcz12_2 : w8.cell? ⟨gb133, 2, none⟩ = some (.int .u8 a1_2) := (blk_cell BK133.out 2).trans rfl; have hcz12_3 : w8.cell? ⟨gb133, 3, none⟩ = some (.int .i64 a1_3) := (blk_cell BK133.out 3).trans rfl; have hcz12_4 : w8.cell? ⟨gb133, 4, none⟩ = some (.int .i64 a1_4) := (blk_cell BK133.out 4).trans rfl; have hfz12_0 := blk_frozen BK133.out 0; have hfz12_1 := blk_frozen BK133.out 1; have hfz12_2 := blk_frozen BK133.out 2; have hfz12_3 := blk_frozen BK133.out 3; have hfz12_4 := blk_frozen BK133.out 4))
          go_meet
          case rel => exact ⟨_, ((a0 == 4096)), (by first | rfl | (simp; done) | (simp [*]; done)), H', ⟨by first | omega | exact Nat.le_refl _⟩, ⟨by (with_reducible repeat (first | refine blk_drewN ?_ _ | refine blk_drew ?_ | refine blk_alloc ?_ _)); exact BK133.out⟩, ⟨by repeat (first | (with_reducible first | exact HB.out | apply below_alloc | apply pw_below_drewN | apply below_drew1 | refine below_set ?_ GE133.out) | exact HB.out)⟩⟩
        · rw [if_neg c11] at H
          have c11b0 : (a1_0 == 1) = false := beq_eq_false_iff_ne.mpr c11
          have c11b1 : (a1_0 != 1) = true := bne_iff_ne.mpr c11
          (first | rw [c11b0] | (simp only [i64_w, i32_w]; rw [c11b0]) | skip)
          have H' := Aside0.mk H
          clear H
          go_wp2_with (first | ((with_reducible refine gate_callee (f := 47) rfl ?_); refine goesL_ (some 12) rfl rfl Try.func47 (by kernel_rfl) rfl #[.int .i64 a0, .int .i64 0, .int .i64 4096] rfl (by (try simp only [List.map_toArray, List.map_cons, List.map_nil]); first | done | rfl | (simp only [List.length_drop, List.length_take]; rfl)) ?_; (with_reducible refine (doc_within.calls a0 0 4096 true _ A9.out).mono ?_); rintro e w' ⟨rfl, ⟨nd, rfl⟩⟩; refine ⟨_, rfl, ?_⟩; have hcz13_0 : w8.cell? ⟨gb133, 0, none⟩ = some (.int .i64 a1_0) := (blk_cell BK133.out 0).trans rfl; have hcz13_1 : w8.cell? ⟨gb133, 1, none⟩ = some (.int .i64 a1_1) := (blk_cell BK133.out 1).trans rfl; have hcz13_2 : w8.cell? ⟨gb133, 2, none⟩ = some (.int .u8 a1_2) := (blk_cell BK133.out 2).trans rfl; have hcz13_3 : w8.cell? ⟨gb133, 3, none⟩ = some (.int .i64 a1_3) := (blk_cell BK133.out 3).trans rfl; have hcz13_4 : w8.cell? ⟨gb133, 4, none⟩ = some (.int .i64 a1_4) := (blk_cell BK133.out 4).trans rfl; have hfz13_0 := blk_frozen BK133.out 0; have hfz13_1 := blk_frozen BK133.out 1; have hfz13_2 := blk_frozen BK133.out 2; have hfz13_3 := blk_frozen BK133.out 3; have hfz13_4 := blk_frozen BK133.out 4))
          go_meet
          case rel => exact ⟨_, (false), (by first | rfl | (simp; done) | (simp [*]; done)), H', ⟨by first | omega | exact Nat.le_refl _⟩, ⟨by (with_reducible repeat (first | refine blk_drewN ?_ _ | refine blk_drew ?_ | refine blk_alloc ?_ _)); exact BK133.out⟩, ⟨by repeat (first | (with_reducible first | exact HB.out | apply below_alloc | apply pw_below_drewN | apply below_drew1 | refine below_set ?_ GE133.out) | exact HB.out)⟩⟩
      · replace c10 := Bool.eq_false_iff.mpr c10
        subst c10
        have H1 : (doc_Fits.j0 k a0 true a1_0 a1_1 a1_2 a1_3 a1_4) = some r := by rw [if_neg (show ¬ (false = true) by decide)] at H; exact H
        clear H
        have H := H1
        clear H1
        have H' := Aside0.mk H
        clear H
        go_wp2_with (first | ((with_reducible refine gate_callee (f := 47) rfl ?_); refine goesL_ (some 12) rfl rfl Try.func47 (by kernel_rfl) rfl #[.int .i64 a0, .int .i64 0, .int .i64 4096] rfl (by (try simp only [List.map_toArray, List.map_cons, List.map_nil]); first | done | rfl | (simp only [List.length_drop, List.length_take]; rfl)) ?_; (with_reducible refine (doc_within.calls a0 0 4096 false _ A9.out).mono ?_); rintro e w' ⟨rfl, ⟨nd, rfl⟩⟩; refine ⟨_, rfl, ?_⟩))
        go_meet
        case rel => exact ⟨_, (true), (by first | rfl | (simp; done) | (simp [*]; done)), H', ⟨by first | omega | exact Nat.le_refl _⟩, ⟨by (with_reducible repeat (first | refine blk_drewN ?_ _ | refine blk_drew ?_ | refine blk_alloc ?_ _)); exact BK133.out⟩, ⟨by repeat (first | (with_reducible first | exact HB.out | apply below_alloc | apply pw_below_drewN | apply below_drew1 | refine below_set ?_ GE133.out) | exact HB.out)⟩⟩
    case rest =>
      clear HC5
      try clear c1
      try clear p2
      try clear c4
      try clear c4b0
      try clear c4b1
      try clear c10
      try clear c11
      try clear c11b0
      try clear c11b1
      try clear hcz12_0
      try clear hcz12_1
      try clear hcz12_2
      try clear hcz12_3
      try clear hcz12_4
      try clear hcz13_0
      try clear hcz13_1
      try clear hcz13_2
      try clear hcz13_3
      try clear hcz13_4
      try clear hcz7_0
      try clear hcz7_1
      try clear hcz7_2
      try clear hcz7_3
      try clear hcz7_4
      try clear hfz12_0
      try clear hfz12_1
      try clear hfz12_2
      try clear hfz12_3
      try clear hfz12_4
      try clear hfz13_0
      try clear hfz13_1
      try clear hfz13_2
      try clear hfz13_3
      try clear hfz13_4
      try clear hfz7_0
      try clear hfz7_1
      try clear hfz7_2
      try clear hfz7_3
      try clear hfz7_4
      obtain ⟨kq, x22_4, rfl, HA, HJ4, BK133, HB⟩ := hcut
      cases kq with
      | zero => exact absurd HA.out (by simp [doc_Fits.j0])
      | succ kj4 =>
        have H := HA.out
        clear HA
        simp only [doc_Fits.j0] at H
        by_cases c14 : x22_4 = true
        · subst c14
          have H1 : (some 44) = some r := by rw [if_pos rfl] at H; exact H
          clear H
          have H := H1
          clear H1
          obtain rfl := Option.some.inj H
          go_wp2
          go_ret
          exact ⟨by first | rfl | (simp [errW_none, errW_some] <;> rfl) | (simp [*, errW_none, errW_some] <;> rfl), by repeat (first | (with_reducible first | exact HB.out | apply below_alloc | apply pw_below_drewN | apply below_drew1 | refine below_set ?_ GE133.out) | exact HB.out)⟩
        · replace c14 := Bool.eq_false_iff.mpr c14
          subst c14
          have H1 : (if a1_0 = 1 then (if a1_1 > a0 then (some 43) else (if a1_0 = 2 then (if a1_1 ≥ a0 then (some 43) else (some 0)) else (some 0))) else (if a1_0 = 2 then (if a1_1 ≥ a0 then (some 43) else (some 0)) else (some 0))) = some r := by rw [if_neg (show ¬ (false = true) by decide)] at H; exact H
          clear H
          have H := H1
          clear H1
          by_cases c15 : a1_0 = 1
          · rw [if_pos c15] at H
            have c15b0 : (a1_0 == 1) = true := beq_iff_eq.mpr c15
            have c15b1 : (a1_0 != 1) = false := bne_eq_false_iff_eq.mpr c15
            clear c15
            by_cases c16 : a1_1 > a0
            · rw [if_pos c16] at H
              have c16b0 : decide (a0 < a1_1) = true := decide_eq_true c16
              clear c16
              obtain rfl := Option.some.inj H
              have hcz17_0 : wc.cell? ⟨gb133, 0, none⟩ = some (.int .i64 a1_0) := (blk_cell BK133.out 0).trans rfl
              have hcz17_1 : wc.cell? ⟨gb133, 1, none⟩ = some (.int .i64 a1_1) := (blk_cell BK133.out 1).trans rfl
              have hcz17_2 : wc.cell? ⟨gb133, 2, none⟩ = some (.int .u8 a1_2) := (blk_cell BK133.out 2).trans rfl
              have hcz17_3 : wc.cell? ⟨gb133, 3, none⟩ = some (.int .i64 a1_3) := (blk_cell BK133.out 3).trans rfl
              have hcz17_4 : wc.cell? ⟨gb133, 4, none⟩ = some (.int .i64 a1_4) := (blk_cell BK133.out 4).trans rfl
              have hfz17_0 := blk_frozen BK133.out 0
              have hfz17_1 := blk_frozen BK133.out 1
              have hfz17_2 := blk_frozen BK133.out 2
              have hfz17_3 := blk_frozen BK133.out 3
              have hfz17_4 := blk_frozen BK133.out 4
              go_wp2
              go_ret
              exact ⟨by first | rfl | (simp [errW_none, errW_some] <;> rfl) | (simp [*, errW_none, errW_some] <;> rfl), by repeat (first | (with_reducible first | exact HB.out | apply below_alloc | apply pw_below_drewN | apply below_drew1 | refine below_set ?_ GE133.out) | exact HB.out)⟩
            · rw [if_neg c16] at H
              have c16b0 : decide (a0 < a1_1) = false := decide_eq_false c16
              clear c16
              by_cases c18 : a1_0 = 2
              · rw [if_pos c18] at H
                have c18b0 : (a1_0 == 2) = true := beq_iff_eq.mpr c18
                have c18b1 : (a1_0 != 2) = false := bne_eq_false_iff_eq.mpr c18
                clear c18
                by_cases c19 : a1_1 ≥ a0
                · rw [if_pos c19] at H
                  have c19b0 : decide (a0 ≤ a1_1) = true := decide_eq_true c19
                  clear c19
                  obtain rfl := Option.some.inj H
                  have hcz20_0 : wc.cell? ⟨gb133, 0, none⟩ = some (.int .i64 a1_0) := (blk_cell BK133.out 0).trans rfl
                  have hcz20_1 : wc.cell? ⟨gb133, 1, none⟩ = some (.int .i64 a1_1) := (blk_cell BK133.out 1).trans rfl
                  have hcz20_2 : wc.cell? ⟨gb133, 2, none⟩ = some (.int .u8 a1_2) := (blk_cell BK133.out 2).trans rfl
                  have hcz20_3 : wc.cell? ⟨gb133, 3, none⟩ = some (.int .i64 a1_3) := (blk_cell BK133.out 3).trans rfl
                  have hcz20_4 : wc.cell? ⟨gb133, 4, none⟩ = some (.int .i64 a1_4) := (blk_cell BK133.out 4).trans rfl
                  have hfz20_0 := blk_frozen BK133.out 0
                  have hfz20_1 := blk_frozen BK133.out 1
                  have hfz20_2 := blk_frozen BK133.out 2
                  have hfz20_3 := blk_frozen BK133.out 3
                  have hfz20_4 := blk_frozen BK133.out 4
                  go_wp2
                  go_ret
                  exact ⟨by first | rfl | (simp [errW_none, errW_some] <;> rfl) | (simp [*, errW_none, errW_some] <;> rfl), by repeat (first | (with_reducible first | exact HB.out | apply below_alloc | apply pw_below_drewN | apply below_drew1 | refine below_set ?_ GE133.out) | exact HB.out)⟩
                · rw [if_neg c19] at H
                  have c19b0 : decide (a0 ≤ a1_1) = false := decide_eq_false c19
                  clear c19
                  obtain rfl := Option.some.inj H
                  have hcz21_0 : wc.cell? ⟨gb133, 0, none⟩ = some (.int .i64 a1_0) := (blk_cell BK133.out 0).trans rfl
                  have hcz21_1 : wc.cell? ⟨gb133, 1, none⟩ = some (.int .i64 a1_1) := (blk_cell BK133.out 1).trans rfl
                  have hcz21_2 : wc.cell? ⟨gb133, 2, none⟩ = some (.int .u8 a1_2) := (blk_cell BK133.out 2).trans rfl
                  have hcz21_3 : wc.cell? ⟨gb133, 3, none⟩ = some (.int .i64 a1_3) := (blk_cell BK133.out 3).trans rfl
                  have hcz21_4 : wc.cell? ⟨gb133, 4, none⟩ = some (.int .i64 a1_4) := (blk_cell BK133.out 4).trans rfl
                  have hfz21_0 := blk_frozen BK133.out 0
                  have hfz21_1 := blk_frozen BK133.out 1
                  have hfz21_2 := blk_frozen BK133.out 2
                  have hfz21_3 := blk_frozen BK133.out 3
                  have hfz21_4 := blk_frozen BK133.out 4
                  go_wp2
                  go_ret
                  exact ⟨by first | rfl | (simp [errW_none, errW_some] <;> rfl) | (simp [*, errW_none, errW_some] <;> rfl), by repeat (first | (with_reducible first | exact HB.out | apply below_alloc | apply pw_below_drewN | apply below_drew1 | refine below_set ?_ GE133.out) | exact HB.out)⟩
              · rw [if_neg c18] at H
                have c18b0 : (a1_0 == 2) = false := beq_eq_false_iff_ne.mpr c18
                have c18b1 : (a1_0 != 2) = true := bne_iff_ne.mpr c18
                obtain rfl := Option.some.inj H
                have hcz22_0 : wc.cell? ⟨gb133, 0, none⟩ = some (.int .i64 a1_0) := (blk_cell BK133.out 0).trans rfl
                have hcz22_1 : wc.cell? ⟨gb133, 1, none⟩ = some (.int .i64 a1_1) := (blk_cell BK133.out 1).trans rfl
                have hcz22_2 : wc.cell? ⟨gb133, 2, none⟩ = some (.int .u8 a1_2) := (blk_cell BK133.out 2).trans rfl
                have hcz22_3 : wc.cell? ⟨gb133, 3, none⟩ = some (.int .i64 a1_3) := (blk_cell BK133.out 3).trans rfl
                have hcz22_4 : wc.cell? ⟨gb133, 4, none⟩ = some (.int .i64 a1_4) := (blk_cell BK133.out 4).trans rfl
                have hfz22_0 := blk_frozen BK133.out 0
                have hfz22_1 := blk_frozen BK133.out 1
                have hfz22_2 := blk_frozen BK133.out 2
                have hfz22_3 := blk_frozen BK133.out 3
                have hfz22_4 := blk_frozen BK133.out 4
                go_wp2
                go_ret
                exact ⟨by first | rfl | (simp [errW_none, errW_some] <;> rfl) | (simp [*, errW_none, errW_some] <;> rfl), by repeat (first | (with_reducible first | exact HB.out | apply below_alloc | apply pw_below_drewN | apply below_drew1 | refine below_set ?_ GE133.out) | exact HB.out)⟩
          · rw [if_neg c15] at H
            have c15b0 : (a1_0 == 1) = false := beq_eq_false_iff_ne.mpr c15
            have c15b1 : (a1_0 != 1) = true := bne_iff_ne.mpr c15
            by_cases c23 : a1_0 = 2
            · rw [if_pos c23] at H
              have c23b0 : (a1_0 == 2) = true := beq_iff_eq.mpr c23
              have c23b1 : (a1_0 != 2) = false := bne_eq_false_iff_eq.mpr c23
              clear c23
              by_cases c24 : a1_1 ≥ a0
              · rw [if_pos c24] at H
                have c24b0 : decide (a0 ≤ a1_1) = true := decide_eq_true c24
                clear c24
                obtain rfl := Option.some.inj H
                have hcz25_0 : wc.cell? ⟨gb133, 0, none⟩ = some (.int .i64 a1_0) := (blk_cell BK133.out 0).trans rfl
                have hcz25_1 : wc.cell? ⟨gb133, 1, none⟩ = some (.int .i64 a1_1) := (blk_cell BK133.out 1).trans rfl
                have hcz25_2 : wc.cell? ⟨gb133, 2, none⟩ = some (.int .u8 a1_2) := (blk_cell BK133.out 2).trans rfl
                have hcz25_3 : wc.cell? ⟨gb133, 3, none⟩ = some (.int .i64 a1_3) := (blk_cell BK133.out 3).trans rfl
                have hcz25_4 : wc.cell? ⟨gb133, 4, none⟩ = some (.int .i64 a1_4) := (blk_cell BK133.out 4).trans rfl
                have hfz25_0 := blk_frozen BK133.out 0
                have hfz25_1 := blk_frozen BK133.out 1
                have hfz25_2 := blk_frozen BK133.out 2
                have hfz25_3 := blk_frozen BK133.out 3
                have hfz25_4 := blk_frozen BK133.out 4
                go_wp2
                go_ret
                exact ⟨by first | rfl | (simp [errW_none, errW_some] <;> rfl) | (simp [*, errW_none, errW_some] <;> rfl), by repeat (first | (with_reducible first | exact HB.out | apply below_alloc | apply pw_below_drewN | apply below_drew1 | refine below_set ?_ GE133.out) | exact HB.out)⟩
              · rw [if_neg c24] at H
                have c24b0 : decide (a0 ≤ a1_1) = false := decide_eq_false c24
                clear c24
                obtain rfl := Option.some.inj H
                have hcz26_0 : wc.cell? ⟨gb133, 0, none⟩ = some (.int .i64 a1_0) := (blk_cell BK133.out 0).trans rfl
                have hcz26_1 : wc.cell? ⟨gb133, 1, none⟩ = some (.int .i64 a1_1) := (blk_cell BK133.out 1).trans rfl
                have hcz26_2 : wc.cell? ⟨gb133, 2, none⟩ = some (.int .u8 a1_2) := (blk_cell BK133.out 2).trans rfl
                have hcz26_3 : wc.cell? ⟨gb133, 3, none⟩ = some (.int .i64 a1_3) := (blk_cell BK133.out 3).trans rfl
                have hcz26_4 : wc.cell? ⟨gb133, 4, none⟩ = some (.int .i64 a1_4) := (blk_cell BK133.out 4).trans rfl
                have hfz26_0 := blk_frozen BK133.out 0
                have hfz26_1 := blk_frozen BK133.out 1
                have hfz26_2 := blk_frozen BK133.out 2
                have hfz26_3 := blk_frozen BK133.out 3
                have hfz26_4 := blk_frozen BK133.out 4
                go_wp2
                go_ret
                exact ⟨by first | rfl | (simp [errW_none, errW_some] <;> rfl) | (simp [*, errW_none, errW_some] <;> rfl), by repeat (first | (with_reducible first | exact HB.out | apply below_alloc | apply pw_below_drewN | apply below_drew1 | refine below_set ?_ GE133.out) | exact HB.out)⟩
            · rw [if_neg c23] at H
              have c23b0 : (a1_0 == 2) = false := beq_eq_false_iff_ne.mpr c23
              have c23b1 : (a1_0 != 2) = true := bne_iff_ne.mpr c23
              obtain rfl := Option.some.inj H
              have hcz27_0 : wc.cell? ⟨gb133, 0, none⟩ = some (.int .i64 a1_0) := (blk_cell BK133.out 0).trans rfl
              have hcz27_1 : wc.cell? ⟨gb133, 1, none⟩ = some (.int .i64 a1_1) := (blk_cell BK133.out 1).trans rfl
              have hcz27_2 : wc.cell? ⟨gb133, 2, none⟩ = some (.int .u8 a1_2) := (blk_cell BK133.out 2).trans rfl
              have hcz27_3 : wc.cell? ⟨gb133, 3, none⟩ = some (.int .i64 a1_3) := (blk_cell BK133.out 3).trans rfl
              have hcz27_4 : wc.cell? ⟨gb133, 4, none⟩ = some (.int .i64 a1_4) := (blk_cell BK133.out 4).trans rfl
              have hfz27_0 := blk_frozen BK133.out 0
              have hfz27_1 := blk_frozen BK133.out 1
              have hfz27_2 := blk_frozen BK133.out 2
              have hfz27_3 := blk_frozen BK133.out 3
              have hfz27_4 := blk_frozen BK133.out 4
              go_wp2
              go_ret
              exact ⟨by first | rfl | (simp [errW_none, errW_some] <;> rfl) | (simp [*, errW_none, errW_some] <;> rfl), by repeat (first | (with_reducible first | exact HB.out | apply below_alloc | apply pw_below_drewN | apply below_drew1 | refine below_set ?_ GE133.out) | exact HB.out)⟩
  · rw [if_neg c4] at H
    have c4b0 : (t134 == 0) = false := beq_eq_false_iff_ne.mpr c4
    have c4b1 : (t134 != 0) = true := bne_iff_ne.mpr c4
    obtain rfl := Option.some.inj H
    go_enter Try.func42, Try.ntmps42
    go_wp2_with (first | ((with_reducible refine gate_dst (N := 3) rfl ?_); refine box_event ?hg (N := 3) ?hd (cs := #[.int .i64 a1_0, .int .i64 a1_1, .int .u8 a1_2, .int .i64 a1_3, .int .i64 a1_4]) (t := 38) ?hr ?_; (case hd => rfl); (case hg => rfl); (case hr => first | (go_simp; done) | (go_simp; rfl)); intro gb133 hg w28 hbox hb; have n0_ := Aside0.mk (below_step (by repeat (first | (with_reducible first | exact HB.out | apply below_alloc | apply pw_below_drewN | apply below_drew1) | exact HB.out)) hb); have n1_ := Aside0.mk (hbox); have n2_ := Aside0.mk ((by rw [hg]; exact (below_size (by repeat (first | (with_reducible first | exact HB.out | apply below_alloc | apply pw_below_drewN | apply below_drew1) | exact HB.out))) : w.heap.size ≤ gb133)); have n3_ := Aside0.mk ((by rw [hg]; exact (below_size (by repeat (first | (with_reducible first | exact HB.out | apply below_alloc | apply pw_below_drewN | apply below_drew1) | exact HB.out))) : w.heap.size ≤ gb133)); clear HB; have HB := n0_; have BK133 := n1_; have GW133 := n2_; have GE133 := n3_; clear n0_ n1_ n2_ n3_; clear hb hbox hg; have hcz29_0 : w28.cell? ⟨gb133, 0, none⟩ = some (.int .i64 a1_0) := (blk_cell BK133.out 0).trans rfl; have hcz29_1 : w28.cell? ⟨gb133, 1, none⟩ = some (.int .i64 a1_1) := (blk_cell BK133.out 1).trans rfl; have hcz29_2 : w28.cell? ⟨gb133, 2, none⟩ = some (.int .u8 a1_2) := (blk_cell BK133.out 2).trans rfl; have hcz29_3 : w28.cell? ⟨gb133, 3, none⟩ = some (.int .i64 a1_3) := (blk_cell BK133.out 3).trans rfl; have hcz29_4 : w28.cell? ⟨gb133, 4, none⟩ = some (.int .i64 a1_4) := (blk_cell BK133.out 4).trans rfl; have hfz29_0 := blk_frozen BK133.out 0; have hfz29_1 := blk_frozen BK133.out 1; have hfz29_2 := blk_frozen BK133.out 2; have hfz29_3 := blk_frozen BK133.out 3; have hfz29_4 := blk_frozen BK133.out 4) | ((with_reducible refine gate_callee (f := 46) rfl ?_); refine goesL_ (some 7) rfl rfl Try.func46 (by kernel_rfl) rfl #[.agg #[.int .i64 a1_0, .int .i64 a1_1, .int .u8 a1_2, .int .i64 a1_3, .int .i64 a1_4]] rfl (by (try simp only [List.map_toArray, List.map_cons, List.map_nil]); first | done | rfl | (simp only [List.length_drop, List.length_take]; rfl)) ?_; (with_reducible refine (doc_Valid.calls k a1_0 a1_1 a1_2 a1_3 a1_4 t134 _ A3.out).mono ?_); rintro e w30 ⟨rfl, hb⟩; refine ⟨_, rfl, ?_⟩; have n0_ := Aside0.mk (blk_below (g := gb133) (o := .cells #[.int .i64 a1_0, .int .i64 a1_1, .int .u8 a1_2, .int .i64 a1_3, .int .i64 a1_4] 38 (0, 0)) (by (with_reducible repeat (first | refine blk_drewN ?_ _ | refine blk_drew ?_ | refine blk_alloc ?_ _)); exact BK133.out) hb); have n1_ := Aside0.mk (below_step (by repeat (first | (with_reducible first | exact HB.out | apply below_alloc | apply pw_below_drewN | apply below_drew1 | refine below_set ?_ GE133.out) | exact HB.out)) hb); clear BK133; clear HB; have BK133 := n0_; have HB := n1_; clear n0_ n1_; (try clear hb); (try clear hb2); (try clear hk); (try clear hi)))
    go_ret
    exact ⟨by first | rfl | (simp [errW_none, errW_some] <;> rfl) | (simp [*, errW_none, errW_some] <;> rfl), by repeat (first | (with_reducible first | exact HB.out | apply below_alloc | apply pw_below_drewN | apply below_drew1 | refine below_set ?_ GE133.out) | exact HB.out)⟩

end Go.Proofs.Ytjnciljimacblaa.Q
