/- Go functions of the seat, each as a Lean function that tells its answer, and the proof that the call gives it. Condition: the arguments are read as lists. Laid by a program of this session. -/
import Derived.Test.YtjnciljimacblaaQx0
namespace Go.Proofs.Ytjnciljimacblaa.Q
open Go.RowKit Go.Proofs.YtjnciljimacblaaW.PrintWords Go.Proofs.YtjnciljimacblaaW.PrintLast Go.Proofs.YtjnciljimacblaaW.PrintMore
attribute [local go_sem] max2_int min2_int max_two min_two max_three min_three max_four min_four   -- for this text's walks alone
set_option linter.unusedVariables false
set_option linter.unusedSimpArgs false

/-! ### jotterlaw17_old: function 27 -/
def jotterlaw17_old.l0 : Nat → List (S83) → List (S83) → Int → Option ((List (S83)))
  | 0, _, _, _ => none
  | k + 1, x0, x3, x4 => if x4 < (x0.length : Int) then (if 0 ≤ x4 then (if ((rd_T83 x0 x4).f1) = 64 then (jotterlaw17_old.l0 k x0 x3 (wrap64 (x4 + 1))) else (if x3.length < 5864062014805 then (jotterlaw17_old.l0 k x0 (x3 ++ [(⟨(rd_T83 x0 x4).f0, (rd_T83 x0 x4).f1, (rd_T83 x0 x4).f2⟩ : S83)]) (wrap64 (x4 + 1))) else (none))) else (none)) else (some x3)
def jotterlaw17_old.f (k : Nat) (l0 : List (S83)) : Option ((List (S83))) := jotterlaw17_old.l0 k l0 ([] : List (S83)) 0
theorem jotterlaw17_old.mono_l : ∀ k, (∀ y0 y1 y2, LeO (jotterlaw17_old.l0 k y0 y1 y2) (jotterlaw17_old.l0 (k + 1) y0 y1 y2))
  | 0 => fun _ _ _ r h => by simp [jotterlaw17_old.l0] at h
  | k + 1 => by
    have ih0 := jotterlaw17_old.mono_l k
    · intro y0 y1 y2
      unfold jotterlaw17_old.l0
      repeat' first
      | (with_reducible exact ih0 _ _ _)
      | (with_reducible exact LeO.refl _)
      | (with_reducible exact LeO.none _)
      | (with_reducible refine LeO.ite ?_ ?_)
      | (with_reducible refine LeO.bind ?_ (fun _ => ?_))
      | exact ih0 _ _ _
      | exact LeO.none _
      | refine LeO.ite ?_ ?_
      | refine LeO.bind ?_ (fun _ => ?_)
theorem jotterlaw17_old.mono : ∀ a0 k, LeO (jotterlaw17_old.f k a0) (jotterlaw17_old.f (k + 1) a0) := by
  intro a0 k
  have ih0 := jotterlaw17_old.mono_l k
  unfold jotterlaw17_old.f
  repeat' first
      | (with_reducible exact ih0 _ _ _)
      | (with_reducible exact LeO.refl _)
      | (with_reducible exact LeO.none _)
      | (with_reducible refine LeO.ite ?_ ?_)
      | (with_reducible refine LeO.bind ?_ (fun _ => ?_))
      | exact ih0 _ _ _
      | exact LeO.none _
      | refine LeO.ite ?_ ?_
      | refine LeO.bind ?_ (fun _ => ?_)
set_option maxHeartbeats 8000000 in
set_option maxRecDepth 100000 in
theorem jotterlaw17_old.calls (k : Nat) (A0 : Option Addr) (c0 : Nat) (l0 : List (S83)) (r : List (S83)) (w : World) (hr0 : Kd.C k83 w A0 l0.length l0) (hc0 : l0.length ≤ c0) (h : jotterlaw17_old.f k l0 = some r) :
    Calls Try.prog 27 #[.slice A0 l0.length c0] w fun e w' => ∃ v0_ : Value, e = .returned (v0_) ∧ Kd.R k83 83 w' w.heap.size (fun _ => True) v0_ r ∧ Below w.heap.size w w' := by
  have hu83 := Try.underlying83
  have HR0 := Aside0.mk hr0
  have HC0 := Aside0.mk hc0
  clear hr0 hc0
  have HB := Aside0.mk (Below.refl w.heap.size w)
  have H : (jotterlaw17_old.l0 k l0 ([] : List (S83)) 0) = some r := h
  clear h
  have H' := Aside0.mk H
  clear H
  go_enter Try.func27, Try.ntmps27
  go_wp2
  go_loopg [3, 4] k (fun kq v3 v4 w' => ∃ (x3_1 : List (S83)) (x4_1 : Int), v4 = .int .i64 x4_1 ∧ Aside0 (jotterlaw17_old.l0 kq l0 x3_1 x4_1 = some r) ∧ Aside0 (kq ≤ k) ∧ Aside0 (Kd.R k83 83 w' w.heap.size (fun _ => True) v3 x3_1) ∧ Aside0 (Below w.heap.size w w'))
  case atStart => exact ⟨(([] : List (S83))), (0), (by first | rfl | (simp; done) | (simp [*]; done)), H', ⟨Nat.le_refl _⟩, ⟨by first | exact Kd.R_nil _ _ _ _ _ | exact Kd.N_nil _ _ _ _ _ | exact Kd.V_nil _ _ _ _ _ | exact Kd.Q_nil _ _ _ _ _ | exact Kd.S_nil _ _ _ _ _⟩, ⟨by repeat (first | (with_reducible first | exact HB.out | apply below_alloc | apply pw_below_drewN | apply below_drew1) | exact HB.out)⟩⟩
  case round =>
    clear H'
    obtain ⟨x3_1, x4_1, rfl, HA, HK1, HO_3, HB⟩ := hrel
    cases gk with
    | zero => exact absurd HA.out (by simp [jotterlaw17_old.l0])
    | succ k1 =>
      have H := HA.out
      clear HA
      simp only [jotterlaw17_old.l0] at H
      by_cases c2 : x4_1 < (l0.length : Int)
      · rw [if_pos c2] at H
        have c2b0 : decide (x4_1 < (l0.length : Int)) = true := decide_eq_true c2
        clear c2
        by_cases c3 : 0 ≤ x4_1
        · rw [if_pos c3] at H
          have c3b0 : decide (0 ≤ x4_1) = true := decide_eq_true c3
          clear c3
          by_cases c4 : ((rd_T83 l0 x4_1).f1) = 64
          · rw [if_pos c4] at H
            have c4b0 : (((rd_T83 l0 x4_1).f1) == 64) = true := beq_iff_eq.mpr c4
            have c4b1 : (((rd_T83 l0 x4_1).f1) != 64) = false := bne_eq_false_iff_eq.mpr c4
            clear c4
            have H' := Aside0.mk H
            clear H
            have p333 : 0 ≤ (x4_1 : Int) := of_decide_eq_true (by first | (with_reducible assumption) | assumption)
            have q333 : x4_1 < (l0.length : Int) := of_decide_eq_true (by first | (with_reducible assumption) | assumption)
            obtain ⟨ad333, e333, hx333_0, hx333_1, hx333_2⟩ := at_T83 HR0.out x4_1 p333 q333
            cases e333
            replace hx333_0 := (HB.out.cell (World.block_lt_of_cell? w _ hx333_0)).trans hx333_0
            replace hx333_1 := (HB.out.cell (World.block_lt_of_cell? w _ hx333_1)).trans hx333_1
            replace hx333_2 := (HB.out.cell (World.block_lt_of_cell? w _ hx333_2)).trans hx333_2
            replace p333 := eq_true p333
            replace q333 := eq_true q333
            go_wp2
            go_roundg k1
            case measure => have := HK1.out; omega
            case rel => exact ⟨(x3_1), (wrap64 (x4_1 + 1)), (by first | rfl | (simp; done) | (simp [*]; done)), H', ⟨by have := HK1.out; omega⟩, ⟨by (with_reducible repeat (first | apply Kd.R_alloc | apply Kd.R_drewN | apply Kd.R_drew)); exact HO_3.out⟩, ⟨by repeat (first | (with_reducible first | exact HB.out | apply below_alloc | apply pw_below_drewN | apply below_drew1) | exact HB.out)⟩⟩
          · rw [if_neg c4] at H
            have c4b0 : (((rd_T83 l0 x4_1).f1) == 64) = false := beq_eq_false_iff_ne.mpr c4
            have c4b1 : (((rd_T83 l0 x4_1).f1) != 64) = true := bne_iff_ne.mpr c4
            by_cases c5 : x3_1.length < 5864062014805
            · rw [if_pos c5] at H
              have LMc5 := Aside0.mk c5
              clear c5
              obtain ⟨y335, hy335⟩ : ∃ y_ : List (S83), y_ = (x3_1 ++ [(⟨(rd_T83 l0 x4_1).f0, (rd_T83 l0 x4_1).f1, (rd_T83 l0 x4_1).f2⟩ : S83)]) := ⟨_, rfl⟩
              replace H : (jotterlaw17_old.l0 k1 l0 y335 (wrap64 (x4_1 + 1))) = some r := by first | (rw [hy335]; with_reducible exact H) | (have H2_ := (Option.bind_some _ _).symm.trans H; rw [hy335]; with_reducible exact H2_) | (have H2_ := (Option.bind_some _ _).symm.trans H; with_reducible exact H2_) | with_reducible exact H | (rw [hy335]; exact H) | exact H
              have Ny335 := Aside0.mk hy335
              clear hy335
              have H' := Aside0.mk H
              clear H
              have p333 : 0 ≤ (x4_1 : Int) := of_decide_eq_true (by first | (with_reducible assumption) | assumption)
              have q333 : x4_1 < (l0.length : Int) := of_decide_eq_true (by first | (with_reducible assumption) | assumption)
              obtain ⟨ad333, e333, hx333_0, hx333_1, hx333_2⟩ := at_T83 HR0.out x4_1 p333 q333
              cases e333
              replace hx333_0 := (HB.out.cell (World.block_lt_of_cell? w _ hx333_0)).trans hx333_0
              replace hx333_1 := (HB.out.cell (World.block_lt_of_cell? w _ hx333_1)).trans hx333_1
              replace hx333_2 := (HB.out.cell (World.block_lt_of_cell? w _ hx333_2)).trans hx333_2
              replace p333 := eq_true p333
              replace q333 := eq_true q333
              have p334 : 0 ≤ (x4_1 : Int) := of_decide_eq_true (by first | (with_reducible assumption) | assumption)
              have q334 : x4_1 < (l0.length : Int) := of_decide_eq_true (by first | (with_reducible assumption) | assumption)
              obtain ⟨ad334, e334, hx334_0, hx334_1, hx334_2⟩ := at_T83 HR0.out x4_1 p334 q334
              obtain rfl : ad333 = ad334 := (by injection e334)
              replace hx334_0 := (HB.out.cell (World.block_lt_of_cell? w _ hx334_0)).trans hx334_0
              replace hx334_1 := (HB.out.cell (World.block_lt_of_cell? w _ hx334_1)).trans hx334_1
              replace hx334_2 := (HB.out.cell (World.block_lt_of_cell? w _ hx334_2)).trans hx334_2
              replace p334 := eq_true p334
              replace q334 := eq_true q334
              go_wp2_with (first | ((with_reducible refine gate_builtin (b := .append) (xs := #[.tmp 17, .tmp 22]) rfl ?_); at_builtin; refine Kd.R_append k83 (w0 := w) w.heap.size rfl (.tmp 17) (.tmp 22) 53 83 (.agg #[(.int .u8 0), (.int .i64 0), (.int .i64 0)]) 24 rfl Try.underlying53 info83 rfl (by decide) (by omega) u3 x3_1 (⟨(rd_T83 l0 x4_1).f0, (rd_T83 l0 x4_1).f1, (rd_T83 l0 x4_1).f2⟩ : S83) [.int .u8 ((rd_T83 l0 x4_1).f0), .int .i64 ((rd_T83 l0 x4_1).f1), .int .i64 ((rd_T83 l0 x4_1).f2)] (fun _ => True) (fun _ => False) rfl rfl ?aP (fun _ hk => hk.elim) ?aF ?aO ?aB ?aS ?aL ?_; (case aP => exact k83_mkM _ _ _ (⟨(rd_T83 l0 x4_1).f0, (rd_T83 l0 x4_1).f1, (rd_T83 l0 x4_1).f2⟩ : S83)); (case aB => exact (by repeat (first | (with_reducible first | exact HB.out | apply below_alloc | apply pw_below_drewN | apply below_drew1) | exact HB.out))); (case aF => exact (fun _ _ => trivial)); (case aO => exact (by (with_reducible repeat (first | apply Kd.R_alloc | apply Kd.R_drewN | apply Kd.R_drew)); exact HO_3.out)); (case aS => exact (below_size (by repeat (first | (with_reducible first | exact HB.out | apply below_alloc | apply pw_below_drewN | apply below_drew1) | exact HB.out)))); (case aL => have := LMc5.out; omega); intro v336 w6 ho hb hg hat; rw [← Ny335.out] at ho; have n0_ := Aside0.mk (hb); have n1_ := Aside0.mk (ho); clear HB; clear HO_3; have HB := n0_; have HO337 := n1_; clear n0_ n1_; clear ho hb hg hat))
              go_roundg k1
              case measure => have := HK1.out; omega
              case rel => exact ⟨(y335), (wrap64 (x4_1 + 1)), (by first | rfl | (simp; done) | (simp [*]; done)), H', ⟨by have := HK1.out; omega⟩, ⟨by (with_reducible repeat (first | apply Kd.R_alloc | apply Kd.R_drewN | apply Kd.R_drew)); exact HO337.out⟩, ⟨by repeat (first | (with_reducible first | exact HB.out | apply below_alloc | apply pw_below_drewN | apply below_drew1) | exact HB.out)⟩⟩
            · rw [if_neg c5] at H
              exact absurd H (by simp)
        · rw [if_neg c3] at H
          exact absurd H (by simp)
      · rw [if_neg c2] at H
        have c2b0 : decide (x4_1 < (l0.length : Int)) = false := decide_eq_false c2
        clear c2
        obtain rfl := Option.some.inj H
        go_wp2
        go_ret
        exact ⟨_, by first | rfl | (simp [errW_none, errW_some] <;> rfl) | (simp [*, errW_none, errW_some] <;> rfl), by (with_reducible repeat (first | apply Kd.R_alloc | apply Kd.R_drewN | apply Kd.R_drew)); exact HO_3.out, by repeat (first | (with_reducible first | exact HB.out | apply below_alloc | apply pw_below_drewN | apply below_drew1) | exact HB.out)⟩

end Go.Proofs.Ytjnciljimacblaa.Q
