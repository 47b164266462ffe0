/- Go functions of the seat, each as a Lean function that tells its answer, and the proof that the call gives it. Condition: the arguments are read as lists. Laid by a program of this session. -/
import Derived.Test.YtjdhoipaanlipaaQx0
namespace Go.Proofs.Ytjdhoipaanlipaa.Q
open Go.RowKit Go.Proofs.YtjdhoipaanlipaaW.PrintWords Go.Proofs.YtjdhoipaanlipaaW.PrintLast Go.Proofs.YtjdhoipaanlipaaW.PrintMore
attribute [local go_sem] max2_int min2_int max_two min_two max_three min_three max_four min_four   -- for this text's walks alone
set_option linter.unusedVariables false
set_option linter.unusedSimpArgs false

/-! ### jotterref04_Valid: function 20 -/
mutual
def jotterref04_Valid.j0 : Nat → Bool → Int → Int → Int → Int → Int → Option (Int)
  | 0, _, _, _, _, _, _ => none
  | k + 1, x10, x143000, x143001, x143002, x143003, x143004 => if x10 = true then (some 40) else (if x143003 < 1 then (jotterref04_Valid.j1 k true x143000 x143001 x143002 x143003 x143004) else (if x143003 > 64 then (jotterref04_Valid.j1 k true x143000 x143001 x143002 x143003 x143004) else (if x143004 < 1 then (jotterref04_Valid.j1 k true x143000 x143001 x143002 x143003 x143004) else (jotterref04_Valid.j1 k (decide (x143004 > 64)) x143000 x143001 x143002 x143003 x143004))))
def jotterref04_Valid.j1 : Nat → Bool → Int → Int → Int → Int → Int → Option (Int)
  | 0, _, _, _, _, _, _ => none
  | k + 1, x28, x143000, x143001, x143002, x143003, x143004 => if x28 = true then (some 41) else (if x143000 = 1 then (if x143002 < 32 then (jotterref04_Valid.j2 k true x143000 x143001 x143002 x143003 x143004) else (jotterref04_Valid.j2 k (decide (x143002 > 126)) x143000 x143001 x143002 x143003 x143004)) else (jotterref04_Valid.j2 k false x143000 x143001 x143002 x143003 x143004))
def jotterref04_Valid.j2 : Nat → Bool → Int → Int → Int → Int → Int → Option (Int)
  | 0, _, _, _, _, _, _ => none
  | k + 1, x41, x143000, x143001, x143002, x143003, x143004 => if x41 = true then (some 42) else (if x143000 = 1 then (jotterref04_Valid.j3 k false x143000 x143001 x143002 x143003 x143004) else (jotterref04_Valid.j3 k (x143002 != 0) x143000 x143001 x143002 x143003 x143004))
def jotterref04_Valid.j3 : Nat → Bool → Int → Int → Int → Int → Int → Option (Int)
  | 0, _, _, _, _, _, _ => none
  | k + 1, x49, x143000, x143001, x143002, x143003, x143004 => if x49 = true then (some 42) else (if x143000 = 0 then (jotterref04_Valid.j4 k (x143001 != 0) x143000 x143001 x143002 x143003 x143004) else (jotterref04_Valid.j4 k false x143000 x143001 x143002 x143003 x143004))
def jotterref04_Valid.j4 : Nat → Bool → Int → Int → Int → Int → Int → Option (Int)
  | 0, _, _, _, _, _, _ => none
  | k + 1, x57, x143000, x143001, x143002, x143003, x143004 => if x57 = true then (some 43) else (if x143001 < 0 then (some 43) else (if x143001 ≥ 4096 then (some 43) else (some 0)))
end
def jotterref04_Valid.f (k : Nat) (a0_0 : Int) (a0_1 : Int) (a0_2 : Int) (a0_3 : Int) (a0_4 : Int) : Option (Int) := if a0_0 < 0 then (jotterref04_Valid.j0 k true a0_0 a0_1 a0_2 a0_3 a0_4) else (jotterref04_Valid.j0 k (decide (a0_0 > 2)) a0_0 a0_1 a0_2 a0_3 a0_4)
theorem jotterref04_Valid.mono_l : ∀ k, (∀ y0 y1 y2 y3 y4 y5, LeO (jotterref04_Valid.j0 k y0 y1 y2 y3 y4 y5) (jotterref04_Valid.j0 (k + 1) y0 y1 y2 y3 y4 y5)) ∧ (∀ y0 y1 y2 y3 y4 y5, LeO (jotterref04_Valid.j1 k y0 y1 y2 y3 y4 y5) (jotterref04_Valid.j1 (k + 1) y0 y1 y2 y3 y4 y5)) ∧ (∀ y0 y1 y2 y3 y4 y5, LeO (jotterref04_Valid.j2 k y0 y1 y2 y3 y4 y5) (jotterref04_Valid.j2 (k + 1) y0 y1 y2 y3 y4 y5)) ∧ (∀ y0 y1 y2 y3 y4 y5, LeO (jotterref04_Valid.j3 k y0 y1 y2 y3 y4 y5) (jotterref04_Valid.j3 (k + 1) y0 y1 y2 y3 y4 y5)) ∧ (∀ y0 y1 y2 y3 y4 y5, LeO (jotterref04_Valid.j4 k y0 y1 y2 y3 y4 y5) (jotterref04_Valid.j4 (k + 1) y0 y1 y2 y3 y4 y5))
  | 0 => ⟨fun _ _ _ _ _ _ r h => by simp [jotterref04_Valid.j0] at h, fun _ _ _ _ _ _ r h => by simp [jotterref04_Valid.j1] at h, fun _ _ _ _ _ _ r h => by simp [jotterref04_Valid.j2] at h, fun _ _ _ _ _ _ r h => by simp [jotterref04_Valid.j3] at h, fun _ _ _ _ _ _ r h => by simp [jotterref04_Valid.j4] at h⟩
  | k + 1 => by
    obtain ⟨ih0, ih1, ih2, ih3, ih4⟩ := jotterref04_Valid.mono_l k
    refine ⟨?_, ?_, ?_, ?_, ?_⟩
    · intro y0 y1 y2 y3 y4 y5
      unfold jotterref04_Valid.j0
      repeat' first
      | (with_reducible exact ih0 _ _ _ _ _ _)
      | (with_reducible exact ih1 _ _ _ _ _ _)
      | (with_reducible exact ih2 _ _ _ _ _ _)
      | (with_reducible exact ih3 _ _ _ _ _ _)
      | (with_reducible exact ih4 _ _ _ _ _ _)
      | (with_reducible exact LeO.refl _)
      | (with_reducible exact LeO.none _)
      | (with_reducible refine LeO.ite ?_ ?_)
      | (with_reducible refine LeO.bind ?_ (fun _ => ?_))
      | exact ih0 _ _ _ _ _ _
      | exact ih1 _ _ _ _ _ _
      | exact ih2 _ _ _ _ _ _
      | exact ih3 _ _ _ _ _ _
      | exact ih4 _ _ _ _ _ _
      | exact LeO.none _
      | refine LeO.ite ?_ ?_
      | refine LeO.bind ?_ (fun _ => ?_)
    · intro y0 y1 y2 y3 y4 y5
      unfold jotterref04_Valid.j1
      repeat' first
      | (with_reducible exact ih0 _ _ _ _ _ _)
      | (with_reducible exact ih1 _ _ _ _ _ _)
      | (with_reducible exact ih2 _ _ _ _ _ _)
      | (with_reducible exact ih3 _ _ _ _ _ _)
      | (with_reducible exact ih4 _ _ _ _ _ _)
      | (with_reducible exact LeO.refl _)
      | (with_reducible exact LeO.none _)
      | (with_reducible refine LeO.ite ?_ ?_)
      | (with_reducible refine LeO.bind ?_ (fun _ => ?_))
      | exact ih0 _ _ _ _ _ _
      | exact ih1 _ _ _ _ _ _
      | exact ih2 _ _ _ _ _ _
      | exact ih3 _ _ _ _ _ _
      | exact ih4 _ _ _ _ _ _
      | exact LeO.none _
      | refine LeO.ite ?_ ?_
      | refine LeO.bind ?_ (fun _ => ?_)
    · intro y0 y1 y2 y3 y4 y5
      unfold jotterref04_Valid.j2
      repeat' first
      | (with_reducible exact ih0 _ _ _ _ _ _)
      | (with_reducible exact ih1 _ _ _ _ _ _)
      | (with_reducible exact ih2 _ _ _ _ _ _)
      | (with_reducible exact ih3 _ _ _ _ _ _)
      | (with_reducible exact ih4 _ _ _ _ _ _)
      | (with_reducible exact LeO.refl _)
      | (with_reducible exact LeO.none _)
      | (with_reducible refine LeO.ite ?_ ?_)
      | (with_reducible refine LeO.bind ?_ (fun _ => ?_))
      | exact ih0 _ _ _ _ _ _
      | exact ih1 _ _ _ _ _ _
      | exact ih2 _ _ _ _ _ _
      | exact ih3 _ _ _ _ _ _
      | exact ih4 _ _ _ _ _ _
      | exact LeO.none _
      | refine LeO.ite ?_ ?_
      | refine LeO.bind ?_ (fun _ => ?_)
    · intro y0 y1 y2 y3 y4 y5
      unfold jotterref04_Valid.j3
      repeat' first
      | (with_reducible exact ih0 _ _ _ _ _ _)
      | (with_reducible exact ih1 _ _ _ _ _ _)
      | (with_reducible exact ih2 _ _ _ _ _ _)
      | (with_reducible exact ih3 _ _ _ _ _ _)
      | (with_reducible exact ih4 _ _ _ _ _ _)
      | (with_reducible exact LeO.refl _)
      | (with_reducible exact LeO.none _)
      | (with_reducible refine LeO.ite ?_ ?_)
      | (with_reducible refine LeO.bind ?_ (fun _ => ?_))
      | exact ih0 _ _ _ _ _ _
      | exact ih1 _ _ _ _ _ _
      | exact ih2 _ _ _ _ _ _
      | exact ih3 _ _ _ _ _ _
      | exact ih4 _ _ _ _ _ _
      | exact LeO.none _
      | refine LeO.ite ?_ ?_
      | refine LeO.bind ?_ (fun _ => ?_)
    · intro y0 y1 y2 y3 y4 y5
      unfold jotterref04_Valid.j4
      repeat' first
      | (with_reducible exact ih0 _ _ _ _ _ _)
      | (with_reducible exact ih1 _ _ _ _ _ _)
      | (with_reducible exact ih2 _ _ _ _ _ _)
      | (with_reducible exact ih3 _ _ _ _ _ _)
      | (with_reducible exact ih4 _ _ _ _ _ _)
      | (with_reducible exact LeO.refl _)
      | (with_reducible exact LeO.none _)
      | (with_reducible refine LeO.ite ?_ ?_)
      | (with_reducible refine LeO.bind ?_ (fun _ => ?_))
      | exact ih0 _ _ _ _ _ _
      | exact ih1 _ _ _ _ _ _
      | exact ih2 _ _ _ _ _ _
      | exact ih3 _ _ _ _ _ _
      | exact ih4 _ _ _ _ _ _
      | exact LeO.none _
      | refine LeO.ite ?_ ?_
      | refine LeO.bind ?_ (fun _ => ?_)
theorem jotterref04_Valid.mono : ∀ a0 a1 a2 a3 a4 k, LeO (jotterref04_Valid.f k a0 a1 a2 a3 a4) (jotterref04_Valid.f (k + 1) a0 a1 a2 a3 a4) := by
  intro a0 a1 a2 a3 a4 k
  obtain ⟨ih0, ih1, ih2, ih3, ih4⟩ := jotterref04_Valid.mono_l k
  unfold jotterref04_Valid.f
  repeat' first
      | (with_reducible exact ih0 _ _ _ _ _ _)
      | (with_reducible exact ih1 _ _ _ _ _ _)
      | (with_reducible exact ih2 _ _ _ _ _ _)
      | (with_reducible exact ih3 _ _ _ _ _ _)
      | (with_reducible exact ih4 _ _ _ _ _ _)
      | (with_reducible exact LeO.refl _)
      | (with_reducible exact LeO.none _)
      | (with_reducible refine LeO.ite ?_ ?_)
      | (with_reducible refine LeO.bind ?_ (fun _ => ?_))
      | exact ih0 _ _ _ _ _ _
      | exact ih1 _ _ _ _ _ _
      | exact ih2 _ _ _ _ _ _
      | exact ih3 _ _ _ _ _ _
      | exact ih4 _ _ _ _ _ _
      | exact LeO.none _
      | refine LeO.ite ?_ ?_
      | refine LeO.bind ?_ (fun _ => ?_)
set_option maxHeartbeats 8000000 in
set_option maxRecDepth 100000 in
theorem jotterref04_Valid.calls (k : Nat) (a0_0 : Int) (a0_1 : Int) (a0_2 : Int) (a0_3 : Int) (a0_4 : Int) (r : Int) (w : World) (h : jotterref04_Valid.f k a0_0 a0_1 a0_2 a0_3 a0_4 = some r) :
    Calls Try.prog 20 #[.agg #[.int .i64 a0_0, .int .i64 a0_1, .int .u8 a0_2, .int .i64 a0_3, .int .i64 a0_4]] w fun e w' => e = .returned (.int .i64 r) ∧ Below w.heap.size w w' := by
  have hu30 := Try.underlying30
  have HB := Aside0.mk (Below.refl w.heap.size w)
  have H : (if a0_0 < 0 then (jotterref04_Valid.j0 k true a0_0 a0_1 a0_2 a0_3 a0_4) else (jotterref04_Valid.j0 k (decide (a0_0 > 2)) a0_0 a0_1 a0_2 a0_3 a0_4)) = some r := h
  clear h
  have HC2 := Aside0.mk H
  clear H
  go_enter Try.func20, Try.ntmps20
  go_upto_region 1 with (first | ((with_reducible refine gate_dst (N := 1) rfl ?_); refine box_event ?hg (N := 1) ?hd (cs := #[.int .i64 a0_0, .int .i64 a0_1, .int .u8 a0_2, .int .i64 a0_3, .int .i64 a0_4]) (t := 30) ?hr ?_; (case hd => rfl); (case hg => rfl); (case hr => first | (go_simp; done) | (go_simp; rfl)); intro gb142 hg w3 hbox hb; have n0_ := Aside0.mk (below_step (by repeat (first | (with_reducible first | exact HB.out | apply below_alloc | apply pw_below_drewN | apply below_drew1) | exact HB.out)) hb); have n1_ := Aside0.mk (hbox); have n2_ := Aside0.mk ((by rw [hg]; exact (below_size (by repeat (first | (with_reducible first | exact HB.out | apply below_alloc | apply pw_below_drewN | apply below_drew1) | exact HB.out))) : w.heap.size ≤ gb142)); have n3_ := Aside0.mk ((by rw [hg]; exact (below_size (by repeat (first | (with_reducible first | exact HB.out | apply below_alloc | apply pw_below_drewN | apply below_drew1) | exact HB.out))) : w.heap.size ≤ gb142)); clear HB; have HB := n0_; have BK142 := n1_; have GW142 := n2_; have GE142 := n3_; clear n0_ n1_ n2_ n3_; clear hb hbox hg))
  (try simp only [Act.put, List.setIfInBounds_toArray, List.set_cons_zero, List.set_cons_succ])
  go_cut [10] (fun v10 wc => ∃ (kq : Nat) (x10_1 : Bool), v10 = .bool x10_1 ∧ Aside0 (jotterref04_Valid.j0 kq x10_1 a0_0 a0_1 a0_2 a0_3 a0_4 = some r) ∧ Aside0 (kq ≤ k) ∧ Aside0 (wc.heap[gb142]? = some (.cells #[.int .i64 a0_0, .int .i64 a0_1, .int .u8 a0_2, .int .i64 a0_3, .int .i64 a0_4] 30 (0, 0))) ∧ Aside0 (Below w.heap.size w wc))
  case first =>
    have H := HC2.out
    clear HC2
    by_cases c4 : a0_0 < 0
    · rw [if_pos c4] at H
      have c4b0 : decide (a0_0 < 0) = true := decide_eq_true c4
      clear c4
      (first | rw [c4b0] | (simp only [i64_w, i32_w]; rw [c4b0]) | skip)
      have H' := Aside0.mk H
      clear H
      have hcz5_0 : w3.cell? ⟨gb142, 0, none⟩ = some (.int .i64 a0_0) := (blk_cell BK142.out 0).trans rfl
      have hcz5_1 : w3.cell? ⟨gb142, 1, none⟩ = some (.int .i64 a0_1) := (blk_cell BK142.out 1).trans rfl
      have hcz5_2 : w3.cell? ⟨gb142, 2, none⟩ = some (.int .u8 a0_2) := (blk_cell BK142.out 2).trans rfl
      have hcz5_3 : w3.cell? ⟨gb142, 3, none⟩ = some (.int .i64 a0_3) := (blk_cell BK142.out 3).trans rfl
      have hcz5_4 : w3.cell? ⟨gb142, 4, none⟩ = some (.int .i64 a0_4) := (blk_cell BK142.out 4).trans rfl
      have hfz5_0 := blk_frozen BK142.out 0
      have hfz5_1 := blk_frozen BK142.out 1
      have hfz5_2 := blk_frozen BK142.out 2
      have hfz5_3 := blk_frozen BK142.out 3
      have hfz5_4 := blk_frozen BK142.out 4
      go_wp2
      go_meet
      case rel => exact ⟨_, (true), (by first | rfl | (simp; done) | (simp [*]; done)), H', ⟨by first | omega | exact Nat.le_refl _⟩, ⟨by (with_reducible repeat (first | refine blk_drewN ?_ _ | refine blk_drew ?_ | refine blk_alloc ?_ _)); exact BK142.out⟩, ⟨by repeat (first | (with_reducible first | exact HB.out | apply below_alloc | apply pw_below_drewN | apply below_drew1 | refine below_set ?_ GE142.out) | exact HB.out)⟩⟩
    · rw [if_neg c4] at H
      have c4b0 : decide (a0_0 < 0) = false := decide_eq_false c4
      clear c4
      (first | rw [c4b0] | (simp only [i64_w, i32_w]; rw [c4b0]) | skip)
      have H' := Aside0.mk H
      clear H
      have hcz6_0 : w3.cell? ⟨gb142, 0, none⟩ = some (.int .i64 a0_0) := (blk_cell BK142.out 0).trans rfl
      have hcz6_1 : w3.cell? ⟨gb142, 1, none⟩ = some (.int .i64 a0_1) := (blk_cell BK142.out 1).trans rfl
      have hcz6_2 : w3.cell? ⟨gb142, 2, none⟩ = some (.int .u8 a0_2) := (blk_cell BK142.out 2).trans rfl
      have hcz6_3 : w3.cell? ⟨gb142, 3, none⟩ = some (.int .i64 a0_3) := (blk_cell BK142.out 3).trans rfl
      have hcz6_4 : w3.cell? ⟨gb142, 4, none⟩ = some (.int .i64 a0_4) := (blk_cell BK142.out 4).trans rfl
      have hfz6_0 := blk_frozen BK142.out 0
      have hfz6_1 := blk_frozen BK142.out 1
      have hfz6_2 := blk_frozen BK142.out 2
      have hfz6_3 := blk_frozen BK142.out 3
      have hfz6_4 := blk_frozen BK142.out 4
      go_wp2
      go_meet
      case rel => exact ⟨_, (decide (a0_0 > 2)), (by first | rfl | (simp; done) | (simp [*]; done)), H', ⟨by first | omega | exact Nat.le_refl _⟩, ⟨by (with_reducible repeat (first | refine blk_drewN ?_ _ | refine blk_drew ?_ | refine blk_alloc ?_ _)); exact BK142.out⟩, ⟨by repeat (first | (with_reducible first | exact HB.out | apply below_alloc | apply pw_below_drewN | apply below_drew1 | refine below_set ?_ GE142.out) | exact HB.out)⟩⟩
  case rest =>
    clear HC2
    try clear c2
    try clear p2
    try clear c4
    try clear c4b0
    try clear hcz5_0
    try clear hcz5_1
    try clear hcz5_2
    try clear hcz5_3
    try clear hcz5_4
    try clear hcz6_0
    try clear hcz6_1
    try clear hcz6_2
    try clear hcz6_3
    try clear hcz6_4
    try clear hfz5_0
    try clear hfz5_1
    try clear hfz5_2
    try clear hfz5_3
    try clear hfz5_4
    try clear hfz6_0
    try clear hfz6_1
    try clear hfz6_2
    try clear hfz6_3
    try clear hfz6_4
    obtain ⟨kq, x10_1, rfl, HA, HJ1, BK142, HB⟩ := hcut
    cases kq with
    | zero => exact absurd HA.out (by simp [jotterref04_Valid.j0])
    | succ kj1 =>
      have H := HA.out
      clear HA
      simp only [jotterref04_Valid.j0] at H
      by_cases c7 : x10_1 = true
      · subst c7
        have H1 : (some 40) = some r := by rw [if_pos rfl] at H; exact H
        clear H
        have H := H1
        clear H1
        obtain rfl := Option.some.inj H
        go_wp2
        go_ret
        exact ⟨by first | rfl | (simp [errW_none, errW_some] <;> rfl) | (simp [*, errW_none, errW_some] <;> rfl), by repeat (first | (with_reducible first | exact HB.out | apply below_alloc | apply pw_below_drewN | apply below_drew1 | refine below_set ?_ GE142.out) | exact HB.out)⟩
      · replace c7 := Bool.eq_false_iff.mpr c7
        subst c7
        have H1 : (if a0_3 < 1 then (jotterref04_Valid.j1 kj1 true a0_0 a0_1 a0_2 a0_3 a0_4) else (if a0_3 > 64 then (jotterref04_Valid.j1 kj1 true a0_0 a0_1 a0_2 a0_3 a0_4) else (if a0_4 < 1 then (jotterref04_Valid.j1 kj1 true a0_0 a0_1 a0_2 a0_3 a0_4) else (jotterref04_Valid.j1 kj1 (decide (a0_4 > 64)) a0_0 a0_1 a0_2 a0_3 a0_4)))) = some r := by rw [if_neg (show ¬ (false = true) by decide)] at H; exact H
        clear H
        have H := H1
        clear H1
        have HC8 := Aside0.mk H
        clear H
        go_upto_region 3 with (fail)
        go_cut [28] (fun v28 wc => ∃ (kq : Nat) (x28_7 : Bool), v28 = .bool x28_7 ∧ Aside0 (jotterref04_Valid.j1 kq x28_7 a0_0 a0_1 a0_2 a0_3 a0_4 = some r) ∧ Aside0 (kq ≤ kj1) ∧ Aside0 (wc.heap[gb142]? = some (.cells #[.int .i64 a0_0, .int .i64 a0_1, .int .u8 a0_2, .int .i64 a0_3, .int .i64 a0_4] 30 (0, 0))) ∧ Aside0 (Below w.heap.size w wc))
        case first =>
          have H := HC8.out
          clear HC8
          by_cases c9 : a0_3 < 1
          · rw [if_pos c9] at H
            have c9b0 : decide (a0_3 < 1) = true := decide_eq_true c9
            clear c9
            (first | rw [c9b0] | (simp only [i64_w, i32_w]; rw [c9b0]) | skip)
            have H' := Aside0.mk H
            clear H
            have hcz10_0 : wc.cell? ⟨gb142, 0, none⟩ = some (.int .i64 a0_0) := (blk_cell BK142.out 0).trans rfl
            have hcz10_1 : wc.cell? ⟨gb142, 1, none⟩ = some (.int .i64 a0_1) := (blk_cell BK142.out 1).trans rfl
            have hcz10_2 : wc.cell? ⟨gb142, 2, none⟩ = some (.int .u8 a0_2) := (blk_cell BK142.out 2).trans rfl
            have hcz10_3 : wc.cell? ⟨gb142, 3, none⟩ = some (.int .i64 a0_3) := (blk_cell BK142.out 3).trans rfl
            have hcz10_4 : wc.cell? ⟨gb142, 4, none⟩ = some (.int .i64 a0_4) := (blk_cell BK142.out 4).trans rfl
            have hfz10_0 := blk_frozen BK142.out 0
            have hfz10_1 := blk_frozen BK142.out 1
            have hfz10_2 := blk_frozen BK142.out 2
            have hfz10_3 := blk_frozen BK142.out 3
            have hfz10_4 := blk_frozen BK142.out 4
            go_wp2
            go_meet
            case rel => exact ⟨_, (true), (by first | rfl | (simp; done) | (simp [*]; done)), H', ⟨by have := HJ1.out; first | omega | exact Nat.le_refl _⟩, ⟨by (with_reducible repeat (first | refine blk_drewN ?_ _ | refine blk_drew ?_ | refine blk_alloc ?_ _)); exact BK142.out⟩, ⟨by repeat (first | (with_reducible first | exact HB.out | apply below_alloc | apply pw_below_drewN | apply below_drew1 | refine below_set ?_ GE142.out) | exact HB.out)⟩⟩
          · rw [if_neg c9] at H
            have c9b0 : decide (a0_3 < 1) = false := decide_eq_false c9
            clear c9
            (first | rw [c9b0] | (simp only [i64_w, i32_w]; rw [c9b0]) | skip)
            by_cases c11 : a0_3 > 64
            · rw [if_pos c11] at H
              have c11b0 : decide (64 < a0_3) = true := decide_eq_true c11
              clear c11
              have H' := Aside0.mk H
              clear H
              have hcz12_0 : wc.cell? ⟨gb142, 0, none⟩ = some (.int .i64 a0_0) := (blk_cell BK142.out 0).trans rfl
              have hcz12_1 : wc.cell? ⟨gb142, 1, none⟩ = some (.int .i64 a0_1) := (blk_cell BK142.out 1).trans rfl
              have hcz12_2 : wc.cell? ⟨gb142, 2, none⟩ = some (.int .u8 a0_2) := (blk_cell BK142.out 2).trans rfl
              have hcz12_3 : wc.cell? ⟨gb142, 3, none⟩ = some (.int .i64 a0_3) := (blk_cell BK142.out 3).trans rfl
              have hcz12_4 : wc.cell? ⟨gb142, 4, none⟩ = some (.int .i64 a0_4) := (blk_cell BK142.out 4).trans rfl
              have hfz12_0 := blk_frozen BK142.out 0
              have hfz12_1 := blk_frozen BK142.out 1
              have hfz12_2 := blk_frozen BK142.out 2
              have hfz12_3 := blk_frozen BK142.out 3
              have hfz12_4 := blk_frozen BK142.out 4
              go_wp2
              go_meet
              case rel => exact ⟨_, (true), (by first | rfl | (simp; done) | (simp [*]; done)), H', ⟨by have := HJ1.out; first | omega | exact Nat.le_refl _⟩, ⟨by (with_reducible repeat (first | refine blk_drewN ?_ _ | refine blk_drew ?_ | refine blk_alloc ?_ _)); exact BK142.out⟩, ⟨by repeat (first | (with_reducible first | exact HB.out | apply below_alloc | apply pw_below_drewN | apply below_drew1 | refine below_set ?_ GE142.out) | exact HB.out)⟩⟩
            · rw [if_neg c11] at H
              have c11b0 : decide (64 < a0_3) = false := decide_eq_false c11
              clear c11
              by_cases c13 : a0_4 < 1
              · rw [if_pos c13] at H
                have c13b0 : decide (a0_4 < 1) = true := decide_eq_true c13
                clear c13
                have H' := Aside0.mk H
                clear H
                have hcz14_0 : wc.cell? ⟨gb142, 0, none⟩ = some (.int .i64 a0_0) := (blk_cell BK142.out 0).trans rfl
                have hcz14_1 : wc.cell? ⟨gb142, 1, none⟩ = some (.int .i64 a0_1) := (blk_cell BK142.out 1).trans rfl
                have hcz14_2 : wc.cell? ⟨gb142, 2, none⟩ = some (.int .u8 a0_2) := (blk_cell BK142.out 2).trans rfl
                have hcz14_3 : wc.cell? ⟨gb142, 3, none⟩ = some (.int .i64 a0_3) := (blk_cell BK142.out 3).trans rfl
                have hcz14_4 : wc.cell? ⟨gb142, 4, none⟩ = some (.int .i64 a0_4) := (blk_cell BK142.out 4).trans rfl
                have hfz14_0 := blk_frozen BK142.out 0
                have hfz14_1 := blk_frozen BK142.out 1
                have hfz14_2 := blk_frozen BK142.out 2
                have hfz14_3 := blk_frozen BK142.out 3
                have hfz14_4 := blk_frozen BK142.out 4
                go_wp2
                go_meet
                case rel => exact ⟨_, (true), (by first | rfl | (simp; done) | (simp [*]; done)), H', ⟨by have := HJ1.out; first | omega | exact Nat.le_refl _⟩, ⟨by (with_reducible repeat (first | refine blk_drewN ?_ _ | refine blk_drew ?_ | refine blk_alloc ?_ _)); exact BK142.out⟩, ⟨by repeat (first | (with_reducible first | exact HB.out | apply below_alloc | apply pw_below_drewN | apply below_drew1 | refine below_set ?_ GE142.out) | exact HB.out)⟩⟩
              · rw [if_neg c13] at H
                have c13b0 : decide (a0_4 < 1) = false := decide_eq_false c13
                clear c13
                have H' := Aside0.mk H
                clear H
                have hcz15_0 : wc.cell? ⟨gb142, 0, none⟩ = some (.int .i64 a0_0) := (blk_cell BK142.out 0).trans rfl
                have hcz15_1 : wc.cell? ⟨gb142, 1, none⟩ = some (.int .i64 a0_1) := (blk_cell BK142.out 1).trans rfl
                have hcz15_2 : wc.cell? ⟨gb142, 2, none⟩ = some (.int .u8 a0_2) := (blk_cell BK142.out 2).trans rfl
                have hcz15_3 : wc.cell? ⟨gb142, 3, none⟩ = some (.int .i64 a0_3) := (blk_cell BK142.out 3).trans rfl
                have hcz15_4 : wc.cell? ⟨gb142, 4, none⟩ = some (.int .i64 a0_4) := (blk_cell BK142.out 4).trans rfl
                have hfz15_0 := blk_frozen BK142.out 0
                have hfz15_1 := blk_frozen BK142.out 1
                have hfz15_2 := blk_frozen BK142.out 2
                have hfz15_3 := blk_frozen BK142.out 3
                have hfz15_4 := blk_frozen BK142.out 4
                go_wp2
                go_meet
                case rel => exact ⟨_, (decide (a0_4 > 64)), (by first | rfl | (simp; done) | (simp [*]; done)), H', ⟨by have := HJ1.out; first | omega | exact Nat.le_refl _⟩, ⟨by (with_reducible repeat (first | refine blk_drewN ?_ _ | refine blk_drew ?_ | refine blk_alloc ?_ _)); exact BK142.out⟩, ⟨by repeat (first | (with_reducible first | exact HB.out | apply below_alloc | apply pw_below_drewN | apply below_drew1 | refine below_set ?_ GE142.out) | exact HB.out)⟩⟩
        case rest =>
          clear HC8
          try clear c1
          try clear c2
          try clear p2
          try clear c4
          try clear c4b0
          try clear c7
          try clear c9
          try clear c9b0
          try clear c11
          try clear c11b0
          try clear c13
          try clear c13b0
          try clear hcz10_0
          try clear hcz10_1
          try clear hcz10_2
          try clear hcz10_3
          try clear hcz10_4
          try clear hcz12_0
          try clear hcz12_1
          try clear hcz12_2
          try clear hcz12_3
          try clear hcz12_4
          try clear hcz14_0
          try clear hcz14_1
          try clear hcz14_2
          try clear hcz14_3
          try clear hcz14_4
          try clear hcz15_0
          try clear hcz15_1
          try clear hcz15_2
          try clear hcz15_3
          try clear hcz15_4
          try clear hcz5_0
          try clear hcz5_1
          try clear hcz5_2
          try clear hcz5_3
          try clear hcz5_4
          try clear hcz6_0
          try clear hcz6_1
          try clear hcz6_2
          try clear hcz6_3
          try clear hcz6_4
          try clear hfz10_0
          try clear hfz10_1
          try clear hfz10_2
          try clear hfz10_3
          try clear hfz10_4
          try clear hfz12_0
          try clear hfz12_1
          try clear hfz12_2
          try clear hfz12_3
          try clear hfz12_4
          try clear hfz14_0
          try clear hfz14_1
          try clear hfz14_2
          try clear hfz14_3
          try clear hfz14_4
          try clear hfz15_0
          try clear hfz15_1
          try clear hfz15_2
          try clear hfz15_3
          try clear hfz15_4
          try clear hfz5_0
          try clear hfz5_1
          try clear hfz5_2
          try clear hfz5_3
          try clear hfz5_4
          try clear hfz6_0
          try clear hfz6_1
          try clear hfz6_2
          try clear hfz6_3
          try clear hfz6_4
          try clear p2
          obtain ⟨kq, x28_7, rfl, HA, HJ7, BK142, HB⟩ := hcut
          cases kq with
          | zero => exact absurd HA.out (by simp [jotterref04_Valid.j1])
          | succ kj7 =>
            have H := HA.out
            clear HA
            simp only [jotterref04_Valid.j1] at H
            by_cases c16 : x28_7 = true
            · subst c16
              have H1 : (some 41) = some r := by rw [if_pos rfl] at H; exact H
              clear H
              have H := H1
              clear H1
              obtain rfl := Option.some.inj H
              go_wp2
              go_ret
              exact ⟨by first | rfl | (simp [errW_none, errW_some] <;> rfl) | (simp [*, errW_none, errW_some] <;> rfl), by repeat (first | (with_reducible first | exact HB.out | apply below_alloc | apply pw_below_drewN | apply below_drew1 | refine below_set ?_ GE142.out) | exact HB.out)⟩
            · replace c16 := Bool.eq_false_iff.mpr c16
              subst c16
              have H1 : (if a0_0 = 1 then (if a0_2 < 32 then (jotterref04_Valid.j2 kj7 true a0_0 a0_1 a0_2 a0_3 a0_4) else (jotterref04_Valid.j2 kj7 (decide (a0_2 > 126)) a0_0 a0_1 a0_2 a0_3 a0_4)) else (jotterref04_Valid.j2 kj7 false a0_0 a0_1 a0_2 a0_3 a0_4)) = some r := by rw [if_neg (show ¬ (false = true) by decide)] at H; exact H
              clear H
              have H := H1
              clear H1
              have HC17 := Aside0.mk H
              clear H
              go_upto_region 5 with (fail)
              go_cut [41] (fun v41 wc => ∃ (kq : Nat) (x41_16 : Bool), v41 = .bool x41_16 ∧ Aside0 (jotterref04_Valid.j2 kq x41_16 a0_0 a0_1 a0_2 a0_3 a0_4 = some r) ∧ Aside0 (kq ≤ kj7) ∧ Aside0 (wc.heap[gb142]? = some (.cells #[.int .i64 a0_0, .int .i64 a0_1, .int .u8 a0_2, .int .i64 a0_3, .int .i64 a0_4] 30 (0, 0))) ∧ Aside0 (Below w.heap.size w wc))
              case first =>
                have H := HC17.out
                clear HC17
                by_cases c18 : a0_0 = 1
                · rw [if_pos c18] at H
                  have c18b0 : (a0_0 == 1) = true := beq_iff_eq.mpr c18
                  have c18b1 : (a0_0 != 1) = false := bne_eq_false_iff_eq.mpr c18
                  clear c18
                  (first | rw [c18b0] | (simp only [i64_w, i32_w]; rw [c18b0]) | skip)
                  by_cases c19 : a0_2 < 32
                  · rw [if_pos c19] at H
                    have c19b0 : decide (a0_2 < 32) = true := decide_eq_true c19
                    clear c19
                    have H' := Aside0.mk H
                    clear H
                    have hcz20_0 : wc.cell? ⟨gb142, 0, none⟩ = some (.int .i64 a0_0) := (blk_cell BK142.out 0).trans rfl
                    have hcz20_1 : wc.cell? ⟨gb142, 1, none⟩ = some (.int .i64 a0_1) := (blk_cell BK142.out 1).trans rfl
                    have hcz20_2 : wc.cell? ⟨gb142, 2, none⟩ = some (.int .u8 a0_2) := (blk_cell BK142.out 2).trans rfl
                    have hcz20_3 : wc.cell? ⟨gb142, 3, none⟩ = some (.int .i64 a0_3) := (blk_cell BK142.out 3).trans rfl
                    have hcz20_4 : wc.cell? ⟨gb142, 4, none⟩ = some (.int .i64 a0_4) := (blk_cell BK142.out 4).trans rfl
                    have hfz20_0 := blk_frozen BK142.out 0
                    have hfz20_1 := blk_frozen BK142.out 1
                    have hfz20_2 := blk_frozen BK142.out 2
                    have hfz20_3 := blk_frozen BK142.out 3
                    have hfz20_4 := blk_frozen BK142.out 4
                    go_wp2
                    go_meet
                    case rel => exact ⟨_, (true), (by first | rfl | (simp; done) | (simp [*]; done)), H', ⟨by have := HJ1.out; have := HJ7.out; first | omega | exact Nat.le_refl _⟩, ⟨by (with_reducible repeat (first | refine blk_drewN ?_ _ | refine blk_drew ?_ | refine blk_alloc ?_ _)); exact BK142.out⟩, ⟨by repeat (first | (with_reducible first | exact HB.out | apply below_alloc | apply pw_below_drewN | apply below_drew1 | refine below_set ?_ GE142.out) | exact HB.out)⟩⟩
                  · rw [if_neg c19] at H
                    have c19b0 : decide (a0_2 < 32) = false := decide_eq_false c19
                    clear c19
                    have H' := Aside0.mk H
                    clear H
                    have hcz21_0 : wc.cell? ⟨gb142, 0, none⟩ = some (.int .i64 a0_0) := (blk_cell BK142.out 0).trans rfl
                    have hcz21_1 : wc.cell? ⟨gb142, 1, none⟩ = some (.int .i64 a0_1) := (blk_cell BK142.out 1).trans rfl
                    have hcz21_2 : wc.cell? ⟨gb142, 2, none⟩ = some (.int .u8 a0_2) := (blk_cell BK142.out 2).trans rfl
                    have hcz21_3 : wc.cell? ⟨gb142, 3, none⟩ = some (.int .i64 a0_3) := (blk_cell BK142.out 3).trans rfl
                    have hcz21_4 : wc.cell? ⟨gb142, 4, none⟩ = some (.int .i64 a0_4) := (blk_cell BK142.out 4).trans rfl
                    have hfz21_0 := blk_frozen BK142.out 0
                    have hfz21_1 := blk_frozen BK142.out 1
                    have hfz21_2 := blk_frozen BK142.out 2
                    have hfz21_3 := blk_frozen BK142.out 3
                    have hfz21_4 := blk_frozen BK142.out 4
                    go_wp2
                    go_meet
                    case rel => exact ⟨_, (decide (a0_2 > 126)), (by first | rfl | (simp; done) | (simp [*]; done)), H', ⟨by have := HJ1.out; have := HJ7.out; first | omega | exact Nat.le_refl _⟩, ⟨by (with_reducible repeat (first | refine blk_drewN ?_ _ | refine blk_drew ?_ | refine blk_alloc ?_ _)); exact BK142.out⟩, ⟨by repeat (first | (with_reducible first | exact HB.out | apply below_alloc | apply pw_below_drewN | apply below_drew1 | refine below_set ?_ GE142.out) | exact HB.out)⟩⟩
                · rw [if_neg c18] at H
                  have c18b0 : (a0_0 == 1) = false := beq_eq_false_iff_ne.mpr c18
                  have c18b1 : (a0_0 != 1) = true := bne_iff_ne.mpr c18
                  (first | rw [c18b0] | (simp only [i64_w, i32_w]; rw [c18b0]) | skip)
                  have H' := Aside0.mk H
                  clear H
                  have hcz22_0 : wc.cell? ⟨gb142, 0, none⟩ = some (.int .i64 a0_0) := (blk_cell BK142.out 0).trans rfl
                  have hcz22_1 : wc.cell? ⟨gb142, 1, none⟩ = some (.int .i64 a0_1) := (blk_cell BK142.out 1).trans rfl
                  have hcz22_2 : wc.cell? ⟨gb142, 2, none⟩ = some (.int .u8 a0_2) := (blk_cell BK142.out 2).trans rfl
                  have hcz22_3 : wc.cell? ⟨gb142, 3, none⟩ = some (.int .i64 a0_3) := (blk_cell BK142.out 3).trans rfl
                  have hcz22_4 : wc.cell? ⟨gb142, 4, none⟩ = some (.int .i64 a0_4) := (blk_cell BK142.out 4).trans rfl
                  have hfz22_0 := blk_frozen BK142.out 0
                  have hfz22_1 := blk_frozen BK142.out 1
                  have hfz22_2 := blk_frozen BK142.out 2
                  have hfz22_3 := blk_frozen BK142.out 3
                  have hfz22_4 := blk_frozen BK142.out 4
                  go_wp2
                  go_meet
                  case rel => exact ⟨_, (false), (by first | rfl | (simp; done) | (simp [*]; done)), H', ⟨by have := HJ1.out; have := HJ7.out; first | omega | exact Nat.le_refl _⟩, ⟨by (with_reducible repeat (first | refine blk_drewN ?_ _ | refine blk_drew ?_ | refine blk_alloc ?_ _)); exact BK142.out⟩, ⟨by repeat (first | (with_reducible first | exact HB.out | apply below_alloc | apply pw_below_drewN | apply below_drew1 | refine below_set ?_ GE142.out) | exact HB.out)⟩⟩
              case rest =>
                clear HC17
                try clear c1
                try clear c2
                try clear p2
                try clear c4
                try clear c4b0
                try clear c7
                try clear c9
                try clear c9b0
                try clear c11
                try clear c11b0
                try clear c13
                try clear c13b0
                try clear c16
                try clear c18
                try clear c18b0
                try clear c18b1
                try clear c19
                try clear c19b0
                try clear c20
                try clear hcz10_0
                try clear hcz10_1
                try clear hcz10_2
                try clear hcz10_3
                try clear hcz10_4
                try clear hcz12_0
                try clear hcz12_1
                try clear hcz12_2
                try clear hcz12_3
                try clear hcz12_4
                try clear hcz14_0
                try clear hcz14_1
                try clear hcz14_2
                try clear hcz14_3
                try clear hcz14_4
                try clear hcz15_0
                try clear hcz15_1
                try clear hcz15_2
                try clear hcz15_3
                try clear hcz15_4
                try clear hcz20_0
                try clear hcz20_1
                try clear hcz20_2
                try clear hcz20_3
                try clear hcz20_4
                try clear hcz21_0
                try clear hcz21_1
                try clear hcz21_2
                try clear hcz21_3
                try clear hcz21_4
                try clear hcz22_0
                try clear hcz22_1
                try clear hcz22_2
                try clear hcz22_3
                try clear hcz22_4
                try clear hcz5_0
                try clear hcz5_1
                try clear hcz5_2
                try clear hcz5_3
                try clear hcz5_4
                try clear hcz6_0
                try clear hcz6_1
                try clear hcz6_2
                try clear hcz6_3
                try clear hcz6_4
                try clear hfz10_0
                try clear hfz10_1
                try clear hfz10_2
                try clear hfz10_3
                try clear hfz10_4
                try clear hfz12_0
                try clear hfz12_1
                try clear hfz12_2
                try clear hfz12_3
                try clear hfz12_4
                try clear hfz14_0
                try clear hfz14_1
                try clear hfz14_2
                try clear hfz14_3
                try clear hfz14_4
                try clear hfz15_0
                try clear hfz15_1
                try clear hfz15_2
                try clear hfz15_3
                try clear hfz15_4
                try clear hfz20_0
                try clear hfz20_1
                try clear hfz20_2
                try clear hfz20_3
                try clear hfz20_4
                try clear hfz21_0
                try clear hfz21_1
                try clear hfz21_2
                try clear hfz21_3
                try clear hfz21_4
                try clear hfz22_0
                try clear hfz22_1
                try clear hfz22_2
                try clear hfz22_3
                try clear hfz22_4
                try clear hfz5_0
                try clear hfz5_1
                try clear hfz5_2
                try clear hfz5_3
                try clear hfz5_4
                try clear hfz6_0
                try clear hfz6_1
                try clear hfz6_2
                try clear hfz6_3
                try clear hfz6_4
                try clear p2
                obtain ⟨kq, x41_16, rfl, HA, HJ16, BK142, HB⟩ := hcut
                cases kq with
                | zero => exact absurd HA.out (by simp [jotterref04_Valid.j2])
                | succ kj16 =>
                  have H := HA.out
                  clear HA
                  simp only [jotterref04_Valid.j2] at H
                  by_cases c23 : x41_16 = true
                  · subst c23
                    have H1 : (some 42) = some r := by rw [if_pos rfl] at H; exact H
                    clear H
                    have H := H1
                    clear H1
                    obtain rfl := Option.some.inj H
                    go_wp2
                    go_ret
                    exact ⟨by first | rfl | (simp [errW_none, errW_some] <;> rfl) | (simp [*, errW_none, errW_some] <;> rfl), by repeat (first | (with_reducible first | exact HB.out | apply below_alloc | apply pw_below_drewN | apply below_drew1 | refine below_set ?_ GE142.out) | exact HB.out)⟩
                  · replace c23 := Bool.eq_false_iff.mpr c23
                    subst c23
                    have H1 : (if a0_0 = 1 then (jotterref04_Valid.j3 kj16 false a0_0 a0_1 a0_2 a0_3 a0_4) else (jotterref04_Valid.j3 kj16 (a0_2 != 0) a0_0 a0_1 a0_2 a0_3 a0_4)) = some r := by rw [if_neg (show ¬ (false = true) by decide)] at H; exact H
                    clear H
                    have H := H1
                    clear H1
                    have HC24 := Aside0.mk H
                    clear H
                    go_upto_region 7 with (fail)
                    go_cut [49] (fun v49 wc => ∃ (kq : Nat) (x49_23 : Bool), v49 = .bool x49_23 ∧ Aside0 (jotterref04_Valid.j3 kq x49_23 a0_0 a0_1 a0_2 a0_3 a0_4 = some r) ∧ Aside0 (kq ≤ kj16) ∧ Aside0 (wc.heap[gb142]? = some (.cells #[.int .i64 a0_0, .int .i64 a0_1, .int .u8 a0_2, .int .i64 a0_3, .int .i64 a0_4] 30 (0, 0))) ∧ Aside0 (Below w.heap.size w wc))
                    case first =>
                      have H := HC24.out
                      clear HC24
                      by_cases c25 : a0_0 = 1
                      · rw [if_pos c25] at H
                        have c25b0 : (a0_0 == 1) = true := beq_iff_eq.mpr c25
                        have c25b1 : (a0_0 != 1) = false := bne_eq_false_iff_eq.mpr c25
                        clear c25
                        (first | rw [c25b0] | (simp only [i64_w, i32_w]; rw [c25b0]) | skip)
                        have H' := Aside0.mk H
                        clear H
                        have hcz26_0 : wc.cell? ⟨gb142, 0, none⟩ = some (.int .i64 a0_0) := (blk_cell BK142.out 0).trans rfl
                        have hcz26_1 : wc.cell? ⟨gb142, 1, none⟩ = some (.int .i64 a0_1) := (blk_cell BK142.out 1).trans rfl
                        have hcz26_2 : wc.cell? ⟨gb142, 2, none⟩ = some (.int .u8 a0_2) := (blk_cell BK142.out 2).trans rfl
                        have hcz26_3 : wc.cell? ⟨gb142, 3, none⟩ = some (.int .i64 a0_3) := (blk_cell BK142.out 3).trans rfl
                        have hcz26_4 : wc.cell? ⟨gb142, 4, none⟩ = some (.int .i64 a0_4) := (blk_cell BK142.out 4).trans rfl
                        have hfz26_0 := blk_frozen BK142.out 0
                        have hfz26_1 := blk_frozen BK142.out 1
                        have hfz26_2 := blk_frozen BK142.out 2
                        have hfz26_3 := blk_frozen BK142.out 3
                        have hfz26_4 := blk_frozen BK142.out 4
                        go_wp2
                        go_meet
                        case rel => exact ⟨_, (false), (by first | rfl | (simp; done) | (simp [*]; done)), H', ⟨by have := HJ1.out; have := HJ7.out; have := HJ16.out; first | omega | exact Nat.le_refl _⟩, ⟨by (with_reducible repeat (first | refine blk_drewN ?_ _ | refine blk_drew ?_ | refine blk_alloc ?_ _)); exact BK142.out⟩, ⟨by repeat (first | (with_reducible first | exact HB.out | apply below_alloc | apply pw_below_drewN | apply below_drew1 | refine below_set ?_ GE142.out) | exact HB.out)⟩⟩
                      · rw [if_neg c25] at H
                        have c25b0 : (a0_0 == 1) = false := beq_eq_false_iff_ne.mpr c25
                        have c25b1 : (a0_0 != 1) = true := bne_iff_ne.mpr c25
                        (first | rw [c25b0] | (simp only [i64_w, i32_w]; rw [c25b0]) | skip)
                        have H' := Aside0.mk H
                        clear H
                        have hcz27_0 : wc.cell? ⟨gb142, 0, none⟩ = some (.int .i64 a0_0) := (blk_cell BK142.out 0).trans rfl
                        have hcz27_1 : wc.cell? ⟨gb142, 1, none⟩ = some (.int .i64 a0_1) := (blk_cell BK142.out 1).trans rfl
                        have hcz27_2 : wc.cell? ⟨gb142, 2, none⟩ = some (.int .u8 a0_2) := (blk_cell BK142.out 2).trans rfl
                        have hcz27_3 : wc.cell? ⟨gb142, 3, none⟩ = some (.int .i64 a0_3) := (blk_cell BK142.out 3).trans rfl
                        have hcz27_4 : wc.cell? ⟨gb142, 4, none⟩ = some (.int .i64 a0_4) := (blk_cell BK142.out 4).trans rfl
                        have hfz27_0 := blk_frozen BK142.out 0
                        have hfz27_1 := blk_frozen BK142.out 1
                        have hfz27_2 := blk_frozen BK142.out 2
                        have hfz27_3 := blk_frozen BK142.out 3
                        have hfz27_4 := blk_frozen BK142.out 4
                        go_wp2
                        go_meet
                        case rel => exact ⟨_, ((a0_2 != 0)), (by first | rfl | (simp; done) | (simp [*]; done)), H', ⟨by have := HJ1.out; have := HJ7.out; have := HJ16.out; first | omega | exact Nat.le_refl _⟩, ⟨by (with_reducible repeat (first | refine blk_drewN ?_ _ | refine blk_drew ?_ | refine blk_alloc ?_ _)); exact BK142.out⟩, ⟨by repeat (first | (with_reducible first | exact HB.out | apply below_alloc | apply pw_below_drewN | apply below_drew1 | refine below_set ?_ GE142.out) | exact HB.out)⟩⟩
                    case rest =>
                      clear HC24
                      try clear c1
                      try clear c2
                      try clear p2
                      try clear c4
                      try clear c4b0
                      try clear c7
                      try clear c9
                      try clear c9b0
                      try clear c11
                      try clear c11b0
                      try clear c13
                      try clear c13b0
                      try clear c16
                      try clear c18
                      try clear c18b0
                      try clear c18b1
                      try clear c19
                      try clear c19b0
                      try clear c20
                      try clear c23
                      try clear c25
                      try clear c25b0
                      try clear c25b1
                      try clear hcz10_0
                      try clear hcz10_1
                      try clear hcz10_2
                      try clear hcz10_3
                      try clear hcz10_4
                      try clear hcz12_0
                      try clear hcz12_1
                      try clear hcz12_2
                      try clear hcz12_3
                      try clear hcz12_4
                      try clear hcz14_0
                      try clear hcz14_1
                      try clear hcz14_2
                      try clear hcz14_3
                      try clear hcz14_4
                      try clear hcz15_0
                      try clear hcz15_1
                      try clear hcz15_2
                      try clear hcz15_3
                      try clear hcz15_4
                      try clear hcz20_0
                      try clear hcz20_1
                      try clear hcz20_2
                      try clear hcz20_3
                      try clear hcz20_4
                      try clear hcz21_0
                      try clear hcz21_1
                      try clear hcz21_2
                      try clear hcz21_3
                      try clear hcz21_4
                      try clear hcz22_0
                      try clear hcz22_1
                      try clear hcz22_2
                      try clear hcz22_3
                      try clear hcz22_4
                      try clear hcz26_0
                      try clear hcz26_1
                      try clear hcz26_2
                      try clear hcz26_3
                      try clear hcz26_4
                      try clear hcz27_0
                      try clear hcz27_1
                      try clear hcz27_2
                      try clear hcz27_3
                      try clear hcz27_4
                      try clear hcz5_0
                      try clear hcz5_1
                      try clear hcz5_2
                      try clear hcz5_3
                      try clear hcz5_4
                      try clear hcz6_0
                      try clear hcz6_1
                      try clear hcz6_2
                      try clear hcz6_3
                      try clear hcz6_4
                      try clear hfz10_0
                      try clear hfz10_1
                      try clear hfz10_2
                      try clear hfz10_3
                      try clear hfz10_4
                      try clear hfz12_0
                      try clear hfz12_1
                      try clear hfz12_2
                      try clear hfz12_3
                      try clear hfz12_4
                      try clear hfz14_0
                      try clear hfz14_1
                      try clear hfz14_2
                      try clear hfz14_3
                      try clear hfz14_4
                      try clear hfz15_0
                      try clear hfz15_1
                      try clear hfz15_2
                      try clear hfz15_3
                      try clear hfz15_4
                      try clear hfz20_0
                      try clear hfz20_1
                      try clear hfz20_2
                      try clear hfz20_3
                      try clear hfz20_4
                      try clear hfz21_0
                      try clear hfz21_1
                      try clear hfz21_2
                      try clear hfz21_3
                      try clear hfz21_4
                      try clear hfz22_0
                      try clear hfz22_1
                      try clear hfz22_2
                      try clear hfz22_3
                      try clear hfz22_4
                      try clear hfz26_0
                      try clear hfz26_1
                      try clear hfz26_2
                      try clear hfz26_3
                      try clear hfz26_4
                      try clear hfz27_0
                      try clear hfz27_1
                      try clear hfz27_2
                      try clear hfz27_3
                      try clear hfz27_4
                      try clear hfz5_0
                      try clear hfz5_1
                      try clear hfz5_2
                      try clear hfz5_3
                      try clear hfz5_4
                      try clear hfz6_0
                      try clear hfz6_1
                      try clear hfz6_2
                      try clear hfz6_3
                      try clear hfz6_4
                      try clear p2
                      obtain ⟨kq, x49_23, rfl, HA, HJ23, BK142, HB⟩ := hcut
                      cases kq with
                      | zero => exact absurd HA.out (by simp [jotterref04_Valid.j3])
                      | succ kj23 =>
                        have H := HA.out
                        clear HA
                        simp only [jotterref04_Valid.j3] at H
                        by_cases c28 : x49_23 = true
                        · subst c28
                          have H1 : (some 42) = some r := by rw [if_pos rfl] at H; exact H
                          clear H
                          have H := H1
                          clear H1
                          obtain rfl := Option.some.inj H
                          go_wp2
                          go_ret
                          exact ⟨by first | rfl | (simp [errW_none, errW_some] <;> rfl) | (simp [*, errW_none, errW_some] <;> rfl), by repeat (first | (with_reducible first | exact HB.out | apply below_alloc | apply pw_below_drewN | apply below_drew1 | refine below_set ?_ GE142.out) | exact HB.out)⟩
                        · replace c28 := Bool.eq_false_iff.mpr c28
                          subst c28
                          have H1 : (if a0_0 = 0 then (jotterref04_Valid.j4 kj23 (a0_1 != 0) a0_0 a0_1 a0_2 a0_3 a0_4) else (jotterref04_Valid.j4 kj23 false a0_0 a0_1 a0_2 a0_3 a0_4)) = some r := by rw [if_neg (show ¬ (false = true) by decide)] at H; exact H
                          clear H
                          have H := H1
                          clear H1
                          have HC29 := Aside0.mk H
                          clear H
                          go_upto_region 9 with (fail)
                          go_cut [57] (fun v57 wc => ∃ (kq : Nat) (x57_28 : Bool), v57 = .bool x57_28 ∧ Aside0 (jotterref04_Valid.j4 kq x57_28 a0_0 a0_1 a0_2 a0_3 a0_4 = some r) ∧ Aside0 (kq ≤ kj23) ∧ Aside0 (wc.heap[gb142]? = some (.cells #[.int .i64 a0_0, .int .i64 a0_1, .int .u8 a0_2, .int .i64 a0_3, .int .i64 a0_4] 30 (0, 0))) ∧ Aside0 (Below w.heap.size w wc))
                          case first =>
                            have H := HC29.out
                            clear HC29
                            by_cases c30 : a0_0 = 0
                            · rw [if_pos c30] at H
                              have c30b0 : (a0_0 == 0) = true := beq_iff_eq.mpr c30
                              have c30b1 : (a0_0 != 0) = false := bne_eq_false_iff_eq.mpr c30
                              clear c30
                              (first | rw [c30b0] | (simp only [i64_w, i32_w]; rw [c30b0]) | skip)
                              have H' := Aside0.mk H
                              clear H
                              have hcz31_0 : wc.cell? ⟨gb142, 0, none⟩ = some (.int .i64 a0_0) := (blk_cell BK142.out 0).trans rfl
                              have hcz31_1 : wc.cell? ⟨gb142, 1, none⟩ = some (.int .i64 a0_1) := (blk_cell BK142.out 1).trans rfl
                              have hcz31_2 : wc.cell? ⟨gb142, 2, none⟩ = some (.int .u8 a0_2) := (blk_cell BK142.out 2).trans rfl
                              have hcz31_3 : wc.cell? ⟨gb142, 3, none⟩ = some (.int .i64 a0_3) := (blk_cell BK142.out 3).trans rfl
                              have hcz31_4 : wc.cell? ⟨gb142, 4, none⟩ = some (.int .i64 a0_4) := (blk_cell BK142.out 4).trans rfl
                              have hfz31_0 := blk_frozen BK142.out 0
                              have hfz31_1 := blk_frozen BK142.out 1
                              have hfz31_2 := blk_frozen BK142.out 2
                              have hfz31_3 := blk_frozen BK142.out 3
                              have hfz31_4 := blk_frozen BK142.out 4
                              go_wp2
                              go_meet
                              case rel => exact ⟨_, ((a0_1 != 0)), (by first | rfl | (simp; done) | (simp [*]; done)), H', ⟨by have := HJ1.out; have := HJ7.out; have := HJ16.out; have := HJ23.out; first | omega | exact Nat.le_refl _⟩, ⟨by (with_reducible repeat (first | refine blk_drewN ?_ _ | refine blk_drew ?_ | refine blk_alloc ?_ _)); exact BK142.out⟩, ⟨by repeat (first | (with_reducible first | exact HB.out | apply below_alloc | apply pw_below_drewN | apply below_drew1 | refine below_set ?_ GE142.out) | exact HB.out)⟩⟩
                            · rw [if_neg c30] at H
                              have c30b0 : (a0_0 == 0) = false := beq_eq_false_iff_ne.mpr c30
                              have c30b1 : (a0_0 != 0) = true := bne_iff_ne.mpr c30
                              (first | rw [c30b0] | (simp only [i64_w, i32_w]; rw [c30b0]) | skip)
                              have H' := Aside0.mk H
                              clear H
                              have hcz32_0 : wc.cell? ⟨gb142, 0, none⟩ = some (.int .i64 a0_0) := (blk_cell BK142.out 0).trans rfl
                              have hcz32_1 : wc.cell? ⟨gb142, 1, none⟩ = some (.int .i64 a0_1) := (blk_cell BK142.out 1).trans rfl
                              have hcz32_2 : wc.cell? ⟨gb142, 2, none⟩ = some (.int .u8 a0_2) := (blk_cell BK142.out 2).trans rfl
                              have hcz32_3 : wc.cell? ⟨gb142, 3, none⟩ = some (.int .i64 a0_3) := (blk_cell BK142.out 3).trans rfl
                              have hcz32_4 : wc.cell? ⟨gb142, 4, none⟩ = some (.int .i64 a0_4) := (blk_cell BK142.out 4).trans rfl
                              have hfz32_0 := blk_frozen BK142.out 0
                              have hfz32_1 := blk_frozen BK142.out 1
                              have hfz32_2 := blk_frozen BK142.out 2
                              have hfz32_3 := blk_frozen BK142.out 3
                              have hfz32_4 := blk_frozen BK142.out 4
                              go_wp2
                              go_meet
                              case rel => exact ⟨_, (false), (by first | rfl | (simp; done) | (simp [*]; done)), H', ⟨by have := HJ1.out; have := HJ7.out; have := HJ16.out; have := HJ23.out; first | omega | exact Nat.le_refl _⟩, ⟨by (with_reducible repeat (first | refine blk_drewN ?_ _ | refine blk_drew ?_ | refine blk_alloc ?_ _)); exact BK142.out⟩, ⟨by repeat (first | (with_reducible first | exact HB.out | apply below_alloc | apply pw_below_drewN | apply below_drew1 | refine below_set ?_ GE142.out) | exact HB.out)⟩⟩
                          case rest =>
                            clear HC29
                            try clear c1
                            try clear c2
                            try clear p2
                            try clear c3
                            try clear c4
                            try clear c4b0
                            try clear c7
                            try clear c9
                            try clear c9b0
                            try clear c11
                            try clear c11b0
                            try clear c13
                            try clear c13b0
                            try clear c16
                            try clear c18
                            try clear c18b0
                            try clear c18b1
                            try clear c19
                            try clear c19b0
                            try clear c20
                            try clear c23
                            try clear c25
                            try clear c25b0
                            try clear c25b1
                            try clear c28
                            try clear c30
                            try clear c30b0
                            try clear c30b1
                            try clear hcz10_0
                            try clear hcz10_1
                            try clear hcz10_2
                            try clear hcz10_3
                            try clear hcz10_4
                            try clear hcz12_0
                            try clear hcz12_1
                            try clear hcz12_2
                            try clear hcz12_3
                            try clear hcz12_4
                            try clear hcz14_0
                            try clear hcz14_1
                            try clear hcz14_2
                            try clear hcz14_3
                            try clear hcz14_4
                            try clear hcz15_0
                            try clear hcz15_1
                            try clear hcz15_2
                            try clear hcz15_3
                            try clear hcz15_4
                            try clear hcz20_0
                            try clear hcz20_1
                            try clear hcz20_2
                            try clear hcz20_3
                            try clear hcz20_4
                            try clear hcz21_0
                            try clear hcz21_1
                            try clear hcz21_2
                            try clear hcz21_3
                            try clear hcz21_4
                            try clear hcz22_0
                            try clear hcz22_1
                            try clear hcz22_2
                            try clear hcz22_3
                            try clear hcz22_4
                            try clear hcz26_0
                            try clear hcz26_1
                            try clear hcz26_2
                            try clear hcz26_3
                            try clear hcz26_4
                            try clear hcz27_0
                            try clear hcz27_1
                            try clear hcz27_2
                            try clear hcz27_3
                            try clear hcz27_4
                            try clear hcz31_0
                            try clear hcz31_1
                            try clear hcz31_2
                            try clear hcz31_3
                            try clear hcz31_4
                            try clear hcz32_0
                            try clear hcz32_1
                            try clear hcz32_2
                            try clear hcz32_3
                            try clear hcz32_4
                            try clear hcz5_0
                            try clear hcz5_1
                            try clear hcz5_2
                            try clear hcz5_3
                            try clear hcz5_4
                            try clear hcz6_0
                            try clear hcz6_1
                            try clear hcz6_2
                            try clear hcz6_3
                            try clear hcz6_4
                            try clear hfz10_0
                            try clear hfz10_1
                            try clear hfz10_2
                            try clear hfz10_3
                            try clear hfz10_4
                            try clear hfz12_0
                            try clear hfz12_1
                            try clear hfz12_2
                            try clear hfz12_3
                            try clear hfz12_4
                            try clear hfz14_0
                            try clear hfz14_1
                            try clear hfz14_2
                            try clear hfz14_3
                            try clear hfz14_4
                            try clear hfz15_0
                            try clear hfz15_1
                            try clear hfz15_2
                            try clear hfz15_3
                            try clear hfz15_4
                            try clear hfz20_0
                            try clear hfz20_1
                            try clear hfz20_2
                            try clear hfz20_3
                            try clear hfz20_4
                            try clear hfz21_0
                            try clear hfz21_1
                            try clear hfz21_2
                            try clear hfz21_3
                            try clear hfz21_4
                            try clear hfz22_0
                            try clear hfz22_1
                            try clear hfz22_2
                            try clear hfz22_3
                            try clear hfz22_4
                            try clear hfz26_0
                            try clear hfz26_1
                            try clear hfz26_2
                            try clear hfz26_3
                            try clear hfz26_4
                            try clear hfz27_0
                            try clear hfz27_1
                            try clear hfz27_2
                            try clear hfz27_3
                            try clear hfz27_4
                            try clear hfz31_0
                            try clear hfz31_1
                            try clear hfz31_2
                            try clear hfz31_3
                            try clear hfz31_4
                            try clear hfz32_0
                            try clear hfz32_1
                            try clear hfz32_2
                            try clear hfz32_3
                            try clear hfz32_4
                            try clear hfz5_0
                            try clear hfz5_1
                            try clear hfz5_2
                            try clear hfz5_3
                            try clear hfz5_4
                            try clear hfz6_0
                            try clear hfz6_1
                            try clear hfz6_2
                            try clear hfz6_3
                            try clear hfz6_4
                            try clear p2
                            obtain ⟨kq, x57_28, rfl, HA, HJ28, BK142, HB⟩ := hcut
                            cases kq with
                            | zero => exact absurd HA.out (by simp [jotterref04_Valid.j4])
                            | succ kj28 =>
                              have H := HA.out
                              clear HA
                              simp only [jotterref04_Valid.j4] at H
                              by_cases c33 : x57_28 = true
                              · subst c33
                                have H1 : (some 43) = some r := by rw [if_pos rfl] at H; exact H
                                clear H
                                have H := H1
                                clear H1
                                obtain rfl := Option.some.inj H
                                go_wp2
                                go_ret
                                exact ⟨by first | rfl | (simp [errW_none, errW_some] <;> rfl) | (simp [*, errW_none, errW_some] <;> rfl), by repeat (first | (with_reducible first | exact HB.out | apply below_alloc | apply pw_below_drewN | apply below_drew1 | refine below_set ?_ GE142.out) | exact HB.out)⟩
                              · replace c33 := Bool.eq_false_iff.mpr c33
                                subst c33
                                have H1 : (if a0_1 < 0 then (some 43) else (if a0_1 ≥ 4096 then (some 43) else (some 0))) = some r := by rw [if_neg (show ¬ (false = true) by decide)] at H; exact H
                                clear H
                                have H := H1
                                clear H1
                                by_cases c34 : a0_1 < 0
                                · rw [if_pos c34] at H
                                  have c34b0 : decide (a0_1 < 0) = true := decide_eq_true c34
                                  clear c34
                                  obtain rfl := Option.some.inj H
                                  have hcz35_0 : wc.cell? ⟨gb142, 0, none⟩ = some (.int .i64 a0_0) := (blk_cell BK142.out 0).trans rfl
                                  have hcz35_1 : wc.cell? ⟨gb142, 1, none⟩ = some (.int .i64 a0_1) := (blk_cell BK142.out 1).trans rfl
                                  have hcz35_2 : wc.cell? ⟨gb142, 2, none⟩ = some (.int .u8 a0_2) := (blk_cell BK142.out 2).trans rfl
                                  have hcz35_3 : wc.cell? ⟨gb142, 3, none⟩ = some (.int .i64 a0_3) := (blk_cell BK142.out 3).trans rfl
                                  have hcz35_4 : wc.cell? ⟨gb142, 4, none⟩ = some (.int .i64 a0_4) := (blk_cell BK142.out 4).trans rfl
                                  have hfz35_0 := blk_frozen BK142.out 0
                                  have hfz35_1 := blk_frozen BK142.out 1
                                  have hfz35_2 := blk_frozen BK142.out 2
                                  have hfz35_3 := blk_frozen BK142.out 3
                                  have hfz35_4 := blk_frozen BK142.out 4
                                  go_wp2
                                  go_ret
                                  exact ⟨by first | rfl | (simp [errW_none, errW_some] <;> rfl) | (simp [*, errW_none, errW_some] <;> rfl), by repeat (first | (with_reducible first | exact HB.out | apply below_alloc | apply pw_below_drewN | apply below_drew1 | refine below_set ?_ GE142.out) | exact HB.out)⟩
                                · rw [if_neg c34] at H
                                  have c34b0 : decide (a0_1 < 0) = false := decide_eq_false c34
                                  clear c34
                                  by_cases c36 : a0_1 ≥ 4096
                                  · rw [if_pos c36] at H
                                    have c36b0 : decide (4096 ≤ a0_1) = true := decide_eq_true c36
                                    clear c36
                                    obtain rfl := Option.some.inj H
                                    have hcz37_0 : wc.cell? ⟨gb142, 0, none⟩ = some (.int .i64 a0_0) := (blk_cell BK142.out 0).trans rfl
                                    have hcz37_1 : wc.cell? ⟨gb142, 1, none⟩ = some (.int .i64 a0_1) := (blk_cell BK142.out 1).trans rfl
                                    have hcz37_2 : wc.cell? ⟨gb142, 2, none⟩ = some (.int .u8 a0_2) := (blk_cell BK142.out 2).trans rfl
                                    have hcz37_3 : wc.cell? ⟨gb142, 3, none⟩ = some (.int .i64 a0_3) := (blk_cell BK142.out 3).trans rfl
                                    have hcz37_4 : wc.cell? ⟨gb142, 4, none⟩ = some (.int .i64 a0_4) := (blk_cell BK142.out 4).trans rfl
                                    have hfz37_0 := blk_frozen BK142.out 0
                                    have hfz37_1 := blk_frozen BK142.out 1
                                    have hfz37_2 := blk_frozen BK142.out 2
                                    have hfz37_3 := blk_frozen BK142.out 3
                                    have hfz37_4 := blk_frozen BK142.out 4
                                    go_wp2
                                    go_ret
                                    exact ⟨by first | rfl | (simp [errW_none, errW_some] <;> rfl) | (simp [*, errW_none, errW_some] <;> rfl), by repeat (first | (with_reducible first | exact HB.out | apply below_alloc | apply pw_below_drewN | apply below_drew1 | refine below_set ?_ GE142.out) | exact HB.out)⟩
                                  · rw [if_neg c36] at H
                                    have c36b0 : decide (4096 ≤ a0_1) = false := decide_eq_false c36
                                    clear c36
                                    obtain rfl := Option.some.inj H
                                    have hcz38_0 : wc.cell? ⟨gb142, 0, none⟩ = some (.int .i64 a0_0) := (blk_cell BK142.out 0).trans rfl
                                    have hcz38_1 : wc.cell? ⟨gb142, 1, none⟩ = some (.int .i64 a0_1) := (blk_cell BK142.out 1).trans rfl
                                    have hcz38_2 : wc.cell? ⟨gb142, 2, none⟩ = some (.int .u8 a0_2) := (blk_cell BK142.out 2).trans rfl
                                    have hcz38_3 : wc.cell? ⟨gb142, 3, none⟩ = some (.int .i64 a0_3) := (blk_cell BK142.out 3).trans rfl
                                    have hcz38_4 : wc.cell? ⟨gb142, 4, none⟩ = some (.int .i64 a0_4) := (blk_cell BK142.out 4).trans rfl
                                    have hfz38_0 := blk_frozen BK142.out 0
                                    have hfz38_1 := blk_frozen BK142.out 1
                                    have hfz38_2 := blk_frozen BK142.out 2
                                    have hfz38_3 := blk_frozen BK142.out 3
                                    have hfz38_4 := blk_frozen BK142.out 4
                                    go_wp2
                                    go_ret
                                    exact ⟨by first | rfl | (simp [errW_none, errW_some] <;> rfl) | (simp [*, errW_none, errW_some] <;> rfl), by repeat (first | (with_reducible first | exact HB.out | apply below_alloc | apply pw_below_drewN | apply below_drew1 | refine below_set ?_ GE142.out) | exact HB.out)⟩

end Go.Proofs.Ytjdhoipaanlipaa.Q
