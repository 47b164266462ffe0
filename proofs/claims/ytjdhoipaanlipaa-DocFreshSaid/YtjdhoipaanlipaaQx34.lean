/- Go functions of the seat, each as a Lean function that tells its answer, and the proof that the call gives it. Condition: the arguments are read as lists. Laid by a program of this session. -/
import Derived.Test.YtjdhoipaanlipaaQx0
namespace Go.Proofs.Ytjdhoipaanlipaa.Q
open Go.RowKit Go.Proofs.YtjdhoipaanlipaaW.PrintWords Go.Proofs.YtjdhoipaanlipaaW.PrintLast Go.Proofs.YtjdhoipaanlipaaW.PrintMore
attribute [local go_sem] max2_int min2_int max_two min_two max_three min_three max_four min_four   -- for this text's walks alone
set_option linter.unusedVariables false
set_option linter.unusedSimpArgs false

/-! ### jotterlaw04_roomy: function 33 -/
mutual
def jotterlaw04_roomy.l0 : Nat → List (S24) → List (S24) → Int → Option ((List (S24)))
  | 0, _, _, _ => none
  | k + 1, x0, x3, x4 => if x4 < (x3.length : Int) then (if 0 ≤ x4 then (jotterlaw04_roomy.l0 k x0 (x3.set (x4 : Int).toNat (⟨1, (-1), x4⟩ : S24)) (wrap64 (x4 + 1))) else (none)) else (jotterlaw04_roomy.l1 k x0 x3 0)
def jotterlaw04_roomy.l1 : Nat → List (S24) → List (S24) → Int → Option ((List (S24)))
  | 0, _, _, _ => none
  | k + 1, x0, x3, x5 => if x5 < (x0.length : Int) then (if 0 ≤ x5 then (if x5 < (x3.length : Int) then (jotterlaw04_roomy.l1 k x0 (x3.set (x5 : Int).toNat (⟨(rd_T24 x0 x5).f0, (rd_T24 x0 x5).f1, (rd_T24 x0 x5).f2⟩ : S24)) (wrap64 (x5 + 1))) else (none)) else (none)) else (some x3)
end
def jotterlaw04_roomy.f (k : Nat) (l0 : List (S24)) : Option ((List (S24))) := if 0 ≤ (wrap64 ((l0.length : Int) + 4)) then (if (wrap64 ((l0.length : Int) + 4) : Int).toNat ≤ 11728124029610 then (jotterlaw04_roomy.l0 k l0 (List.replicate (wrap64 ((l0.length : Int) + 4) : Int).toNat z24) 0) else (none)) else (none)
theorem jotterlaw04_roomy.mono_l : ∀ k, (∀ y0 y1 y2, LeO (jotterlaw04_roomy.l0 k y0 y1 y2) (jotterlaw04_roomy.l0 (k + 1) y0 y1 y2)) ∧ (∀ y0 y1 y2, LeO (jotterlaw04_roomy.l1 k y0 y1 y2) (jotterlaw04_roomy.l1 (k + 1) y0 y1 y2))
  | 0 => ⟨fun _ _ _ r h => by simp [jotterlaw04_roomy.l0] at h, fun _ _ _ r h => by simp [jotterlaw04_roomy.l1] at h⟩
  | k + 1 => by
    obtain ⟨ih0, ih1⟩ := jotterlaw04_roomy.mono_l k
    refine ⟨?_, ?_⟩
    · intro y0 y1 y2
      unfold jotterlaw04_roomy.l0
      repeat' first
      | (with_reducible exact ih0 _ _ _)
      | (with_reducible exact ih1 _ _ _)
      | (with_reducible exact LeO.refl _)
      | (with_reducible exact LeO.none _)
      | (with_reducible refine LeO.ite ?_ ?_)
      | (with_reducible refine LeO.bind ?_ (fun _ => ?_))
      | exact ih0 _ _ _
      | exact ih1 _ _ _
      | exact LeO.none _
      | refine LeO.ite ?_ ?_
      | refine LeO.bind ?_ (fun _ => ?_)
    · intro y0 y1 y2
      unfold jotterlaw04_roomy.l1
      repeat' first
      | (with_reducible exact ih0 _ _ _)
      | (with_reducible exact ih1 _ _ _)
      | (with_reducible exact LeO.refl _)
      | (with_reducible exact LeO.none _)
      | (with_reducible refine LeO.ite ?_ ?_)
      | (with_reducible refine LeO.bind ?_ (fun _ => ?_))
      | exact ih0 _ _ _
      | exact ih1 _ _ _
      | exact LeO.none _
      | refine LeO.ite ?_ ?_
      | refine LeO.bind ?_ (fun _ => ?_)
theorem jotterlaw04_roomy.mono : ∀ a0 k, LeO (jotterlaw04_roomy.f k a0) (jotterlaw04_roomy.f (k + 1) a0) := by
  intro a0 k
  obtain ⟨ih0, ih1⟩ := jotterlaw04_roomy.mono_l k
  unfold jotterlaw04_roomy.f
  repeat' first
      | (with_reducible exact ih0 _ _ _)
      | (with_reducible exact ih1 _ _ _)
      | (with_reducible exact LeO.refl _)
      | (with_reducible exact LeO.none _)
      | (with_reducible refine LeO.ite ?_ ?_)
      | (with_reducible refine LeO.bind ?_ (fun _ => ?_))
      | exact ih0 _ _ _
      | exact ih1 _ _ _
      | exact LeO.none _
      | refine LeO.ite ?_ ?_
      | refine LeO.bind ?_ (fun _ => ?_)
set_option maxHeartbeats 8000000 in
set_option maxRecDepth 100000 in
theorem jotterlaw04_roomy.calls (k : Nat) (A0 : Option Addr) (c0 : Nat) (l0 : List (S24)) (r : List (S24)) (w : World) (hr0 : Kd.C k24 w A0 l0.length l0) (hc0 : l0.length ≤ c0) (h : jotterlaw04_roomy.f k l0 = some r) :
    Calls Try.prog 33 #[.slice A0 l0.length c0] w fun e w' => ∃ v0_ : Value, e = .returned (v0_) ∧ Kd.R k24 24 w' w.heap.size (fun _ => True) v0_ r ∧ Below w.heap.size w w' := by
  have hu24 := Try.underlying24
  have HR0 := Aside0.mk hr0
  have HC0 := Aside0.mk hc0
  clear hr0 hc0
  have HB := Aside0.mk (Below.refl w.heap.size w)
  have H : (if 0 ≤ (wrap64 ((l0.length : Int) + 4)) then (if (wrap64 ((l0.length : Int) + 4) : Int).toNat ≤ 11728124029610 then (jotterlaw04_roomy.l0 k l0 (List.replicate (wrap64 ((l0.length : Int) + 4) : Int).toNat z24) 0) else (none)) else (none)) = some r := h
  clear h
  obtain ⟨ji2, hji2⟩ : ∃ j_ : Int, (wrap64 ((l0.length : Int) + 4)) = j_ := ⟨_, rfl⟩
  replace H : (if 0 ≤ (ji2) then (if (ji2 : Int).toNat ≤ 11728124029610 then (jotterlaw04_roomy.l0 k l0 (List.replicate (ji2 : Int).toNat z24) 0) else (none)) else (none)) = some r := by first | (rw [hji2] at H; exact H) | (simp only [hji2] at H ⊢; exact H)
  have hji2w : (IntKind.i64.wrap ((l0.length : Int) + 4)) = ji2 := (i64_w _).trans hji2
  by_cases c3 : 0 ≤ (ji2)
  · rw [if_pos c3] at H
    have c3b0 := eq_true c3
    have c3b1 : decide (0 ≤ (ji2)) = true := decide_eq_true c3
    clear c3
    by_cases c4 : (ji2 : Int).toNat ≤ 11728124029610
    · rw [if_pos c4] at H
      have c4b0 := eq_true c4
      have c4b1 : decide ((ji2 : Int).toNat ≤ 11728124029610) = true := decide_eq_true c4
      clear c4
      obtain ⟨y451, hy451⟩ : ∃ y_ : List (S24), y_ = (List.replicate (ji2 : Int).toNat z24) := ⟨_, rfl⟩
      replace H : (jotterlaw04_roomy.l0 k l0 y451 0) = some r := by first | (rw [hy451]; with_reducible exact H) | (have H2_ := (Option.bind_some _ _).symm.trans H; rw [hy451]; with_reducible exact H2_) | (have H2_ := (Option.bind_some _ _).symm.trans H; with_reducible exact H2_) | with_reducible exact H | (rw [hy451]; exact H) | exact H
      have Ny451 := Aside0.mk hy451
      clear hy451
      have H' := Aside0.mk H
      clear H
      go_enter Try.func33, Try.ntmps33
      go_wp2_with (first | ((with_reducible refine gate_dst (N := 9) rfl ?_); refine Kd.R_make k24 _ 24 rfl (N := 9) rfl 22 _ _ rfl ji2 rfl rfl Try.underlying22 (.agg #[(.int .u8 0), (.int .i64 0), (.int .i64 0)]) 24 info24 rfl (by decide) (by omega) z24 (ok := fun _ => True) (okp := fun _ => True) (k24_mkM _ _ _ z24 ) (fun _ hk => hk) trivial (of_decide_eq_true (by first | (with_reducible assumption) | assumption)) (Nat.le_trans (Nat.mul_le_mul_right _ (of_decide_eq_true (by first | (with_reducible assumption) | assumption) : ji2.toNat ≤ 11728124029610)) (by omega)) (Below.refl _ _) (Nat.le_refl _) ?_; intro v452 w5 ho6 hb hg_ hnew_; clear hg_ hnew_; (first | rw [← Ny451.out] at ho6 | (simp only [Int.reduceToNat] at ho6; rw [← Ny451.out] at ho6)); have n0_ := Aside0.mk (Kd.R_lower ho6 (below_size (by repeat (first | (with_reducible first | exact HB.out | apply below_alloc | apply pw_below_drewN | apply below_drew1) | exact HB.out)))); have n1_ := Aside0.mk (below_step (by repeat (first | (with_reducible first | exact HB.out | apply below_alloc | apply pw_below_drewN | apply below_drew1) | exact HB.out)) hb); clear HB; have HO453 := n0_; have HB := n1_; clear n0_ n1_; clear hb ho6))
      go_loopg [4] k (fun kq v4 w' => ∃ (x3_1 : List (S24)) (x4_1 : Int), v4 = .int .i64 x4_1 ∧ Aside0 (jotterlaw04_roomy.l0 kq l0 x3_1 x4_1 = some r) ∧ Aside0 (kq ≤ k) ∧ Aside0 (Kd.R k24 24 w' w.heap.size (fun _ => True) v452 x3_1) ∧ Aside0 (Below w.heap.size w w'))
      case atStart => exact ⟨(y451), (0), (by first | rfl | (simp; done) | (simp [*]; done)), H', ⟨Nat.le_refl _⟩, ⟨by (with_reducible repeat (first | apply Kd.R_alloc | apply Kd.R_drewN | apply Kd.R_drew)); exact HO453.out⟩, ⟨by repeat (first | (with_reducible first | exact HB.out | apply below_alloc | apply pw_below_drewN | apply below_drew1) | exact HB.out)⟩⟩
      case round =>
        clear H'
        try clear p2
        try clear c3
        try clear c3b0
        try clear c3b1
        try clear c4
        try clear c4b0
        try clear c4b1
        try clear p6
        obtain ⟨x3_1, x4_1, rfl, HA, HK1, HO_3, HB⟩ := hrel
        cases gk with
        | zero => exact absurd HA.out (by simp [jotterlaw04_roomy.l0])
        | succ k1 =>
          have H := HA.out
          clear HA
          simp only [jotterlaw04_roomy.l0] at H
          by_cases c7 : x4_1 < (x3_1.length : Int)
          · rw [if_pos c7] at H
            have c7b0 : decide (x4_1 < (x3_1.length : Int)) = true := decide_eq_true c7
            clear c7
            by_cases c8 : 0 ≤ x4_1
            · rw [if_pos c8] at H
              have c8b0 : decide (0 ≤ x4_1) = true := decide_eq_true c8
              clear c8
              obtain ⟨y454, hy454⟩ : ∃ y_ : List (S24), y_ = (x3_1.set (x4_1 : Int).toNat (⟨1, (-1), x4_1⟩ : S24)) := ⟨_, rfl⟩
              replace H : (jotterlaw04_roomy.l0 k1 l0 y454 (wrap64 (x4_1 + 1))) = some r := by first | (rw [hy454]; with_reducible exact H) | (have H2_ := (Option.bind_some _ _).symm.trans H; rw [hy454]; with_reducible exact H2_) | (have H2_ := (Option.bind_some _ _).symm.trans H; with_reducible exact H2_) | with_reducible exact H | (rw [hy454]; exact H) | exact H
              have Ny454 := Aside0.mk hy454
              clear hy454
              have H' := Aside0.mk H
              clear H
              obtain ⟨Ao10, co10, eo10⟩ := Kd.R_slice HO_3.out
              subst eo10
              have p9 : 0 ≤ (x4_1 : Int) := of_decide_eq_true (by first | (with_reducible assumption) | assumption)
              have q9 : (x4_1 : Int) < ((x3_1.length : Int) : Int) := of_decide_eq_true (by first | (with_reducible assumption) | assumption)
              obtain ⟨go9, co9, eo9, gb9, gl9, cl9, HG9⟩ := Kd.R_form HO_3.out (by omega)
              (first | cases eo9 | (injection eo9 with ea_ en_ ec_; (first | subst ea_ | (injection ea_ with ea_; subst ea_)); subst ec_; clear en_))
              have GB9 := Aside0.mk gb9
              have GG9 := Aside0.mk HG9
              clear gb9 gl9 HG9
              obtain ⟨ce9, hcl9, hM9, hcc9, hfr9⟩ := Kd.R_elem HO_3.out z24 (x4_1 : Int) p9 q9
              obtain rfl := k24_openM hM9
              have hx9_0 : wr.cell? ⟨go9, (x4_1 : Int).toNat * 3, none⟩ = some (.int .u8 ((rd_T24 x3_1 x4_1).f0)) := hcc9 0 _ rfl
              have hx9_1 : wr.cell? ⟨go9, (x4_1 : Int).toNat * 3 + 1, none⟩ = some (.int .i64 ((rd_T24 x3_1 x4_1).f1)) := hcc9 1 _ rfl
              have hx9_2 : wr.cell? ⟨go9, (x4_1 : Int).toNat * 3 + 2, none⟩ = some (.int .i64 ((rd_T24 x3_1 x4_1).f2)) := hcc9 2 _ rfl
              have hf9_0 : wr.frozen? ⟨go9, (x4_1 : Int).toNat * 3, none⟩ = false := hfr9 0
              have hf9_1 : wr.frozen? ⟨go9, (x4_1 : Int).toNat * 3 + 1, none⟩ = false := hfr9 1
              have hf9_2 : wr.frozen? ⟨go9, (x4_1 : Int).toNat * 3 + 2, none⟩ = false := hfr9 2
              clear hcl9 hcc9 hfr9 hM9
              replace p9 := eq_true p9
              replace q9 := eq_true q9
              have HX11 := Aside0.mk (show Kd.R k24 24 wr w.heap.size (fun _ => True) (.slice (some ⟨go9, 0, none⟩) x3_1.length co10) x3_1 from (by (with_reducible repeat (first | apply Kd.R_alloc | apply Kd.R_drewN | apply Kd.R_drew)); exact HO_3.out))
              obtain ⟨ce11, hcl11, hM11, hcc11, hfr11⟩ := Kd.R_elem HX11.out z24 (x4_1 : Int) (of_decide_eq_true (by first | (with_reducible assumption) | assumption)) (by have h_ : (x4_1 : Int) < ((x3_1.length : Int) : Int) := of_decide_eq_true (by first | (with_reducible assumption) | assumption); first | exact h_ | (have e_ := (Kd.R_reads' HO_3.out).1; omega) | simpa using h_)
              obtain rfl := k24_openM hM11
              have HP11 := Kd.R_seg HX11.out (x4_1 : Int) (of_decide_eq_true (by first | (with_reducible assumption) | assumption)) (by have h_ : (x4_1 : Int) < ((x3_1.length : Int) : Int) := of_decide_eq_true (by first | (with_reducible assumption) | assumption); first | exact h_ | (have e_ := (Kd.R_reads' HO_3.out).1; omega) | simpa using h_) (seg := [.int .u8 1, .int .i64 (-1), .int .i64 x4_1]) (j := 0) hcl11 hcc11 (show 3 ≤ 3 from by decide) (x' := (⟨1, (-1), x4_1⟩ : S24)) (k24_mkM _ _ _ (⟨1, (-1), x4_1⟩ : S24) ) (fun _ hk => hk)
              have hx11_0 := hcc11 0 _ rfl
              (try simp only [show (k24).sz = 3 from rfl, Nat.mul_one, Nat.add_zero] at hx11_0)
              have hf11_0 := hfr11 0
              (try simp only [show (k24).sz = 3 from rfl, Nat.mul_one, Nat.add_zero] at hf11_0)
              have hx11_1 := hcc11 1 _ rfl
              (try simp only [show (k24).sz = 3 from rfl, Nat.mul_one, Nat.add_zero] at hx11_1)
              have hf11_1 := hfr11 1
              (try simp only [show (k24).sz = 3 from rfl, Nat.mul_one, Nat.add_zero] at hf11_1)
              have hx11_2 := hcc11 2 _ rfl
              (try simp only [show (k24).sz = 3 from rfl, Nat.mul_one, Nat.add_zero] at hx11_2)
              have hf11_2 := hfr11 2
              (try simp only [show (k24).sz = 3 from rfl, Nat.mul_one, Nat.add_zero] at hf11_2)
              clear hcl11 hcc11 hfr11 hM11
              go_wp2_with (first | ((with_reducible refine gate_store (t := 24) (p := 20) rfl ?_); refine store_event (t := 24) (p := 20) (v := ?vo_w12) (w1 := (((wr.setCell ⟨go9, (x4_1 : Int).toNat * 3, none⟩ (.int .u8 1)).setCell ⟨go9, (x4_1 : Int).toNat * 3 + 1, none⟩ (.int .i64 (-1))).setCell ⟨go9, (x4_1 : Int).toNat * 3 + 2, none⟩ (.int .i64 x4_1))) ?hg ?ho ?hn ?hr ?_; (case ho => rfl); (case hg => rfl); (case hn => rfl); (case hr => first | (go_simp; done) | (go_simp; rfl)); intro w12 hw; have hg : wr.grownBy w12 (some go9) := (by rw [hw]; exact HP11.2); have hp_ : Kd.R k24 24 w12 w.heap.size (fun _ => True) (.slice (some ⟨go9, 0, none⟩) x3_1.length co10) y454 := (by rw [hw, Ny454.out]; exact HP11.1); clear HP11; have n0_ := Aside0.mk (hp_); have n1_ := Aside0.mk ((by rw [hw]; exact below_set (below_set (below_set (HB.out) GB9.out) GB9.out) GB9.out : Below w.heap.size w w12)); clear HO_3; clear HB; have HO_3 := n0_; have HB := n1_; clear n0_ n1_; clear hg hw hp_))
              go_roundg k1
              case measure => have := HK1.out; omega
              case rel => exact ⟨(y454), (wrap64 (x4_1 + 1)), (by first | rfl | (simp; done) | (simp [*]; done)), H', ⟨by have := HK1.out; omega⟩, ⟨by (with_reducible repeat (first | apply Kd.R_alloc | apply Kd.R_drewN | apply Kd.R_drew)); exact HO_3.out⟩, ⟨by repeat (first | (with_reducible first | exact HB.out | apply below_alloc | apply pw_below_drewN | apply below_drew1) | exact HB.out)⟩⟩
            · rw [if_neg c8] at H
              exact absurd H (by simp)
          · rw [if_neg c7] at H
            have c7b0 : decide (x4_1 < (x3_1.length : Int)) = false := decide_eq_false c7
            clear c7
            have H' := Aside0.mk H
            clear H
            obtain ⟨Ao13, co13, eo13⟩ := Kd.R_slice HO_3.out
            subst eo13
            go_wp2
            go_loopg [5] k1 (fun kq v5 w' => ∃ (x3_2 : List (S24)) (x5_2 : Int), v5 = .int .i64 x5_2 ∧ Aside0 (jotterlaw04_roomy.l1 kq l0 x3_2 x5_2 = some r) ∧ Aside0 (kq ≤ k1) ∧ Aside0 (Kd.R k24 24 w' w.heap.size (fun _ => True) (.slice Ao13 x3_1.length co13) x3_2) ∧ Aside0 (Below w.heap.size w w'))
            case atStart => exact ⟨(x3_1), (0), (by first | rfl | (simp; done) | (simp [*]; done)), H', ⟨Nat.le_refl _⟩, ⟨by (with_reducible repeat (first | apply Kd.R_alloc | apply Kd.R_drewN | apply Kd.R_drew)); exact HO_3.out⟩, ⟨by repeat (first | (with_reducible first | exact HB.out | apply below_alloc | apply pw_below_drewN | apply below_drew1) | exact HB.out)⟩⟩
            case round =>
              clear H'
              try clear c1
              try clear hx1
              try clear hf1
              try clear p2
              try clear c3
              try clear c3b0
              try clear c3b1
              try clear c4
              try clear c4b0
              try clear c4b1
              try clear p6
              try clear c7
              try clear c7b0
              try clear c8
              try clear c8b0
              try clear c9
              try clear p9
              try clear q9
              try clear hx9
              try clear hf9
              try clear c11
              try clear hx11
              try clear hf11
              try clear hx11_0
              try clear hx11_1
              try clear hx11_2
              try clear hx9_0
              try clear hx9_1
              try clear hx9_2
              try clear p2
              try clear p6
              try clear p9
              try clear q9
              obtain ⟨x3_2, x5_2, rfl, HA, HK2, HO_3, HB⟩ := hrel
              have hl3_2 := (Kd.R_reads' HO_3.out).1
              rw [hl3_2] at HO_3
              (try simp only [hl3_2])
              cases gk with
              | zero => exact absurd HA.out (by simp [jotterlaw04_roomy.l1])
              | succ k2 =>
                have H := HA.out
                clear HA
                simp only [jotterlaw04_roomy.l1] at H
                by_cases c14 : x5_2 < (l0.length : Int)
                · rw [if_pos c14] at H
                  have c14b0 : decide (x5_2 < (l0.length : Int)) = true := decide_eq_true c14
                  clear c14
                  by_cases c15 : 0 ≤ x5_2
                  · rw [if_pos c15] at H
                    have c15b0 : decide (0 ≤ x5_2) = true := decide_eq_true c15
                    clear c15
                    by_cases c16 : x5_2 < (x3_2.length : Int)
                    · rw [if_pos c16] at H
                      have c16b0 : decide (x5_2 < (x3_2.length : Int)) = true := decide_eq_true c16
                      clear c16
                      obtain ⟨y456, hy456⟩ : ∃ y_ : List (S24), y_ = (x3_2.set (x5_2 : Int).toNat (⟨(rd_T24 l0 x5_2).f0, (rd_T24 l0 x5_2).f1, (rd_T24 l0 x5_2).f2⟩ : S24)) := ⟨_, rfl⟩
                      replace H : (jotterlaw04_roomy.l1 k2 l0 y456 (wrap64 (x5_2 + 1))) = some r := by first | (rw [hy456]; with_reducible exact H) | (have H2_ := (Option.bind_some _ _).symm.trans H; rw [hy456]; with_reducible exact H2_) | (have H2_ := (Option.bind_some _ _).symm.trans H; with_reducible exact H2_) | with_reducible exact H | (rw [hy456]; exact H) | exact H
                      have Ny456 := Aside0.mk hy456
                      clear hy456
                      have H' := Aside0.mk H
                      clear H
                      have p455 : 0 ≤ (x5_2 : Int) := of_decide_eq_true (by first | (with_reducible assumption) | assumption)
                      have q455 : x5_2 < (l0.length : Int) := of_decide_eq_true (by first | (with_reducible assumption) | assumption)
                      obtain ⟨ad455, e455, hx455_0, hx455_1, hx455_2⟩ := at_T24 HR0.out x5_2 p455 q455
                      cases e455
                      replace hx455_0 := (HB.out.cell (World.block_lt_of_cell? w _ hx455_0)).trans hx455_0
                      replace hx455_1 := (HB.out.cell (World.block_lt_of_cell? w _ hx455_1)).trans hx455_1
                      replace hx455_2 := (HB.out.cell (World.block_lt_of_cell? w _ hx455_2)).trans hx455_2
                      replace p455 := eq_true p455
                      replace q455 := eq_true q455
                      have p17 : 0 ≤ (x5_2 : Int) := of_decide_eq_true (by first | (with_reducible assumption) | assumption)
                      have q17 : (x5_2 : Int) < ((x3_2.length : Int) : Int) := of_decide_eq_true (by first | (with_reducible assumption) | assumption)
                      obtain ⟨go17, co17, eo17, gb17, gl17, cl17, HG17⟩ := Kd.R_form HO_3.out (by omega)
                      (first | cases eo17 | (injection eo17 with ea_ en_ ec_; (first | subst ea_ | (injection ea_ with ea_; subst ea_)); subst ec_; clear en_))
                      have GB17 := Aside0.mk gb17
                      have GG17 := Aside0.mk HG17
                      clear gb17 gl17 HG17
                      obtain ⟨ce17, hcl17, hM17, hcc17, hfr17⟩ := Kd.R_elem HO_3.out z24 (x5_2 : Int) p17 q17
                      obtain rfl := k24_openM hM17
                      have hx17_0 : wr.cell? ⟨go17, (x5_2 : Int).toNat * 3, none⟩ = some (.int .u8 ((rd_T24 x3_2 x5_2).f0)) := hcc17 0 _ rfl
                      have hx17_1 : wr.cell? ⟨go17, (x5_2 : Int).toNat * 3 + 1, none⟩ = some (.int .i64 ((rd_T24 x3_2 x5_2).f1)) := hcc17 1 _ rfl
                      have hx17_2 : wr.cell? ⟨go17, (x5_2 : Int).toNat * 3 + 2, none⟩ = some (.int .i64 ((rd_T24 x3_2 x5_2).f2)) := hcc17 2 _ rfl
                      have hf17_0 : wr.frozen? ⟨go17, (x5_2 : Int).toNat * 3, none⟩ = false := hfr17 0
                      have hf17_1 : wr.frozen? ⟨go17, (x5_2 : Int).toNat * 3 + 1, none⟩ = false := hfr17 1
                      have hf17_2 : wr.frozen? ⟨go17, (x5_2 : Int).toNat * 3 + 2, none⟩ = false := hfr17 2
                      clear hcl17 hcc17 hfr17 hM17
                      replace p17 := eq_true p17
                      replace q17 := eq_true q17
                      have HX18 := Aside0.mk (show Kd.R k24 24 wr w.heap.size (fun _ => True) (.slice (some ⟨go17, 0, none⟩) x3_2.length co13) x3_2 from (by (with_reducible repeat (first | apply Kd.R_alloc | apply Kd.R_drewN | apply Kd.R_drew)); exact HO_3.out))
                      obtain ⟨ce18, hcl18, hM18, hcc18, hfr18⟩ := Kd.R_elem HX18.out z24 (x5_2 : Int) (of_decide_eq_true (by first | (with_reducible assumption) | assumption)) (by have h_ : (x5_2 : Int) < ((x3_2.length : Int) : Int) := of_decide_eq_true (by first | (with_reducible assumption) | assumption); first | exact h_ | (have e_ := (Kd.R_reads' HO_3.out).1; omega) | simpa using h_)
                      obtain rfl := k24_openM hM18
                      have HP18 := Kd.R_seg HX18.out (x5_2 : Int) (of_decide_eq_true (by first | (with_reducible assumption) | assumption)) (by have h_ : (x5_2 : Int) < ((x3_2.length : Int) : Int) := of_decide_eq_true (by first | (with_reducible assumption) | assumption); first | exact h_ | (have e_ := (Kd.R_reads' HO_3.out).1; omega) | simpa using h_) (seg := [.int .u8 ((rd_T24 l0 x5_2).f0), .int .i64 ((rd_T24 l0 x5_2).f1), .int .i64 ((rd_T24 l0 x5_2).f2)]) (j := 0) hcl18 hcc18 (show 3 ≤ 3 from by decide) (x' := (⟨(rd_T24 l0 x5_2).f0, (rd_T24 l0 x5_2).f1, (rd_T24 l0 x5_2).f2⟩ : S24)) (k24_mkM _ _ _ (⟨(rd_T24 l0 x5_2).f0, (rd_T24 l0 x5_2).f1, (rd_T24 l0 x5_2).f2⟩ : S24) ) (fun _ hk => hk)
                      have hx18_0 := hcc18 0 _ rfl
                      (try simp only [show (k24).sz = 3 from rfl, Nat.mul_one, Nat.add_zero] at hx18_0)
                      have hf18_0 := hfr18 0
                      (try simp only [show (k24).sz = 3 from rfl, Nat.mul_one, Nat.add_zero] at hf18_0)
                      have hx18_1 := hcc18 1 _ rfl
                      (try simp only [show (k24).sz = 3 from rfl, Nat.mul_one, Nat.add_zero] at hx18_1)
                      have hf18_1 := hfr18 1
                      (try simp only [show (k24).sz = 3 from rfl, Nat.mul_one, Nat.add_zero] at hf18_1)
                      have hx18_2 := hcc18 2 _ rfl
                      (try simp only [show (k24).sz = 3 from rfl, Nat.mul_one, Nat.add_zero] at hx18_2)
                      have hf18_2 := hfr18 2
                      (try simp only [show (k24).sz = 3 from rfl, Nat.mul_one, Nat.add_zero] at hf18_2)
                      clear hcl18 hcc18 hfr18 hM18
                      go_wp2_with (first | ((with_reducible refine gate_store (t := 24) (p := 33) rfl ?_); refine store_event (t := 24) (p := 33) (v := ?vo_w19) (w1 := (((wr.setCell ⟨go17, (x5_2 : Int).toNat * 3, none⟩ (.int .u8 ((rd_T24 l0 x5_2).f0))).setCell ⟨go17, (x5_2 : Int).toNat * 3 + 1, none⟩ (.int .i64 ((rd_T24 l0 x5_2).f1))).setCell ⟨go17, (x5_2 : Int).toNat * 3 + 2, none⟩ (.int .i64 ((rd_T24 l0 x5_2).f2)))) ?hg ?ho ?hn ?hr ?_; (case ho => rfl); (case hg => rfl); (case hn => rfl); (case hr => first | (go_simp; done) | (go_simp; rfl)); intro w19 hw; have hg : wr.grownBy w19 (some go17) := (by rw [hw]; exact HP18.2); have hp_ : Kd.R k24 24 w19 w.heap.size (fun _ => True) (.slice (some ⟨go17, 0, none⟩) x3_2.length co13) y456 := (by rw [hw, Ny456.out]; exact HP18.1); clear HP18; have n0_ := Aside0.mk (hp_); have n1_ := Aside0.mk ((by rw [hw]; exact below_set (below_set (below_set (HB.out) GB17.out) GB17.out) GB17.out : Below w.heap.size w w19)); clear HO_3; clear HB; have HO_3 := n0_; have HB := n1_; clear n0_ n1_; clear hg hw hp_))
                      (try simp only [← hl3_2])
                      go_roundg k2
                      case measure => have := HK1.out; have := HK2.out; omega
                      case rel => exact ⟨(y456), (wrap64 (x5_2 + 1)), (by first | rfl | (simp; done) | (simp [*]; done)), H', ⟨by have := HK1.out; have := HK2.out; omega⟩, ⟨by (try simp only [hl3_2]); (with_reducible repeat (first | apply Kd.R_alloc | apply Kd.R_drewN | apply Kd.R_drew)); exact HO_3.out⟩, ⟨by repeat (first | (with_reducible first | exact HB.out | apply below_alloc | apply pw_below_drewN | apply below_drew1) | exact HB.out)⟩⟩
                    · rw [if_neg c16] at H
                      exact absurd H (by simp)
                  · rw [if_neg c15] at H
                    exact absurd H (by simp)
                · rw [if_neg c14] at H
                  have c14b0 : decide (x5_2 < (l0.length : Int)) = false := decide_eq_false c14
                  clear c14
                  obtain rfl := Option.some.inj H
                  go_wp2
                  go_ret
                  exact ⟨_, by first | rfl | (simp [errW_none, errW_some] <;> rfl) | (simp only [← hji2]; first | rfl | (simp [errW_none, errW_some] <;> rfl)) | (simp [*, errW_none, errW_some] <;> rfl), by (with_reducible repeat (first | apply Kd.R_alloc | apply Kd.R_drewN | apply Kd.R_drew)); exact HO_3.out, by repeat (first | (with_reducible first | exact HB.out | apply below_alloc | apply pw_below_drewN | apply below_drew1) | exact HB.out)⟩
    · rw [if_neg c4] at H
      exact absurd H (by simp)
  · rw [if_neg c3] at H
    exact absurd H (by simp)

end Go.Proofs.Ytjdhoipaanlipaa.Q
