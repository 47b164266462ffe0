/- Go functions of the seat, each as a Lean function that tells its answer, and the proof that the call gives it. Condition: the arguments are read as lists. Laid by a program of this session. -/
import Derived.Test.YtjdhoipaanlipaaQx0
import Derived.Test.YtjdhoipaanlipaaQx20
import Derived.Test.YtjdhoipaanlipaaQx23
namespace Go.Proofs.Ytjdhoipaanlipaa.Q
open Go.RowKit Go.Proofs.YtjdhoipaanlipaaW.PrintWords Go.Proofs.YtjdhoipaanlipaaW.PrintLast Go.Proofs.YtjdhoipaanlipaaW.PrintMore
attribute [local go_sem] max2_int min2_int max_two min_two max_three min_three max_four min_four   -- for this text's walks alone
set_option linter.unusedVariables false
set_option linter.unusedSimpArgs false

/-! ### jotterlaw04_DocFull: function 7 -/
mutual
def jotterlaw04_DocFull.l0 : Nat → Int → Int → List (S24) → Int → Option (Bool)
  | 0, _, _, _, _ => none
  | k + 1, x0, x1, x5, x6 => if x6 < 4096 then (if 0 ≤ x6 then (if x6 < (x5.length : Int) then (jotterlaw04_DocFull.l0 k x0 x1 (x5.set (x6 : Int).toNat (⟨120, wrap64 (1 + (wrap64 (Int.tdiv x6 64))), wrap64 (1 + (Int.tmod x6 64))⟩ : S24)) (wrap64 (x6 + 1))) else (none)) else (none)) else ((jotterlaw04_place.f x0 4096).bind fun t281 => ((doc_Apply.f k x5 1 t281 ((32 + (Int.tmod x1 95)) % 256) 3 3).bind fun bt283 => (if bt283.2 = 44 then (jotterlaw04_DocFull.j1 k x5 t281 ((bt283.1.length : Int) != 0) 1 t281 ((32 + (Int.tmod x1 95)) % 256) 3 3) else (jotterlaw04_DocFull.j1 k x5 t281 true 1 t281 ((32 + (Int.tmod x1 95)) % 256) 3 3))))
def jotterlaw04_DocFull.j1 : Nat → List (S24) → Int → Bool → Int → Int → Int → Int → Int → Option (Bool)
  | 0, _, _, _, _, _, _, _, _ => none
  | k + 1, x5, x7, x47, x283000, x283001, x283002, x283003, x283004 => if x47 = true then (some false) else ((doc_Apply.f k x5 2 x7 0 3 4).bind fun bt287 => (if bt287.2 = 0 then (jotterlaw04_DocFull.j2 k x7 bt287.1 ((bt287.1.length : Int) != 4095) x283000 x283001 x283002 x283003 x283004) else (jotterlaw04_DocFull.j2 k x7 bt287.1 true x283000 x283001 x283002 x283003 x283004)))
def jotterlaw04_DocFull.j2 : Nat → Int → List (S24) → Bool → Int → Int → Int → Int → Int → Option (Bool)
  | 0, _, _, _, _, _, _, _, _ => none
  | k + 1, x7, x9, x61, x283000, x283001, x283002, x283003, x283004 => if x61 = true then (some false) else ((doc_Apply.f k x9 2 4095 0 3 5).bind fun bt291 => (if bt291.2 = 43 then (if (bt291.1.length : Int) = 0 then ((doc_Apply.f k x9 x283000 x283001 x283002 x283003 x283004).bind fun bt295 => (if bt295.2 = 0 then (if (bt295.1.length : Int) = 4096 then (if 0 ≤ x7 then (if x7 < (bt295.1.length : Int) then (if ((rd_T24 bt295.1 x7).f1) = 3 then (some (((rd_T24 bt295.1 x7).f2) == 3)) else (some false)) else (none)) else (none)) else (some false)) else (some false))) else (some false)) else (some false)))
end
def jotterlaw04_DocFull.f (k : Nat) (a0 : Int) (a1 : Int) : Option (Bool) := if 4096 ≤ 11728124029610 then (jotterlaw04_DocFull.l0 k a0 a1 (List.replicate 4096 z24) 0) else (none)
theorem jotterlaw04_DocFull.mono_l : ∀ k, (∀ y0 y1 y2 y3, LeO (jotterlaw04_DocFull.l0 k y0 y1 y2 y3) (jotterlaw04_DocFull.l0 (k + 1) y0 y1 y2 y3)) ∧ (∀ y0 y1 y2 y3 y4 y5 y6 y7, LeO (jotterlaw04_DocFull.j1 k y0 y1 y2 y3 y4 y5 y6 y7) (jotterlaw04_DocFull.j1 (k + 1) y0 y1 y2 y3 y4 y5 y6 y7)) ∧ (∀ y0 y1 y2 y3 y4 y5 y6 y7, LeO (jotterlaw04_DocFull.j2 k y0 y1 y2 y3 y4 y5 y6 y7) (jotterlaw04_DocFull.j2 (k + 1) y0 y1 y2 y3 y4 y5 y6 y7))
  | 0 => ⟨fun _ _ _ _ r h => by simp [jotterlaw04_DocFull.l0] at h, fun _ _ _ _ _ _ _ _ r h => by simp [jotterlaw04_DocFull.j1] at h, fun _ _ _ _ _ _ _ _ r h => by simp [jotterlaw04_DocFull.j2] at h⟩
  | k + 1 => by
    obtain ⟨ih0, ih1, ih2⟩ := jotterlaw04_DocFull.mono_l k
    refine ⟨?_, ?_, ?_⟩
    · intro y0 y1 y2 y3
      unfold jotterlaw04_DocFull.l0
      repeat' first
      | (with_reducible exact ih0 _ _ _ _)
      | (with_reducible exact ih1 _ _ _ _ _ _ _ _)
      | (with_reducible exact ih2 _ _ _ _ _ _ _ _)
      | (with_reducible exact doc_Apply.mono _ _ _ _ _ _ _)
      | (with_reducible exact LeO.refl _)
      | (with_reducible exact LeO.none _)
      | (with_reducible refine LeO.ite ?_ ?_)
      | (with_reducible refine LeO.bind ?_ (fun _ => ?_))
      | exact ih0 _ _ _ _
      | exact ih1 _ _ _ _ _ _ _ _
      | exact ih2 _ _ _ _ _ _ _ _
      | exact doc_Apply.mono _ _ _ _ _ _ _
      | exact LeO.none _
      | refine LeO.ite ?_ ?_
      | refine LeO.bind ?_ (fun _ => ?_)
    · intro y0 y1 y2 y3 y4 y5 y6 y7
      unfold jotterlaw04_DocFull.j1
      repeat' first
      | (with_reducible exact ih0 _ _ _ _)
      | (with_reducible exact ih1 _ _ _ _ _ _ _ _)
      | (with_reducible exact ih2 _ _ _ _ _ _ _ _)
      | (with_reducible exact doc_Apply.mono _ _ _ _ _ _ _)
      | (with_reducible exact LeO.refl _)
      | (with_reducible exact LeO.none _)
      | (with_reducible refine LeO.ite ?_ ?_)
      | (with_reducible refine LeO.bind ?_ (fun _ => ?_))
      | exact ih0 _ _ _ _
      | exact ih1 _ _ _ _ _ _ _ _
      | exact ih2 _ _ _ _ _ _ _ _
      | exact doc_Apply.mono _ _ _ _ _ _ _
      | exact LeO.none _
      | refine LeO.ite ?_ ?_
      | refine LeO.bind ?_ (fun _ => ?_)
    · intro y0 y1 y2 y3 y4 y5 y6 y7
      unfold jotterlaw04_DocFull.j2
      repeat' first
      | (with_reducible exact ih0 _ _ _ _)
      | (with_reducible exact ih1 _ _ _ _ _ _ _ _)
      | (with_reducible exact ih2 _ _ _ _ _ _ _ _)
      | (with_reducible exact doc_Apply.mono _ _ _ _ _ _ _)
      | (with_reducible exact LeO.refl _)
      | (with_reducible exact LeO.none _)
      | (with_reducible refine LeO.ite ?_ ?_)
      | (with_reducible refine LeO.bind ?_ (fun _ => ?_))
      | exact ih0 _ _ _ _
      | exact ih1 _ _ _ _ _ _ _ _
      | exact ih2 _ _ _ _ _ _ _ _
      | exact doc_Apply.mono _ _ _ _ _ _ _
      | exact LeO.none _
      | refine LeO.ite ?_ ?_
      | refine LeO.bind ?_ (fun _ => ?_)
theorem jotterlaw04_DocFull.mono : ∀ a0 a1 k, LeO (jotterlaw04_DocFull.f k a0 a1) (jotterlaw04_DocFull.f (k + 1) a0 a1) := by
  intro a0 a1 k
  obtain ⟨ih0, ih1, ih2⟩ := jotterlaw04_DocFull.mono_l k
  unfold jotterlaw04_DocFull.f
  repeat' first
      | (with_reducible exact ih0 _ _ _ _)
      | (with_reducible exact ih1 _ _ _ _ _ _ _ _)
      | (with_reducible exact ih2 _ _ _ _ _ _ _ _)
      | (with_reducible exact doc_Apply.mono _ _ _ _ _ _ _)
      | (with_reducible exact LeO.refl _)
      | (with_reducible exact LeO.none _)
      | (with_reducible refine LeO.ite ?_ ?_)
      | (with_reducible refine LeO.bind ?_ (fun _ => ?_))
      | exact ih0 _ _ _ _
      | exact ih1 _ _ _ _ _ _ _ _
      | exact ih2 _ _ _ _ _ _ _ _
      | exact doc_Apply.mono _ _ _ _ _ _ _
      | exact LeO.none _
      | refine LeO.ite ?_ ?_
      | refine LeO.bind ?_ (fun _ => ?_)
set_option maxHeartbeats 8000000 in
set_option maxRecDepth 100000 in
theorem jotterlaw04_DocFull.calls (k : Nat) (a0 : Int) (a1 : Int) (r : Bool) (w : World) (h : jotterlaw04_DocFull.f k a0 a1 = some r) :
    Calls Try.prog 7 #[.int .i64 a0, .int .u8 a1] w fun e w' => e = .returned (.bool r) ∧ Below w.heap.size w w' := by
  have hu24 := Try.underlying24
  have hu30 := Try.underlying30
  have HB := Aside0.mk (Below.refl w.heap.size w)
  have H : (if 4096 ≤ 11728124029610 then (jotterlaw04_DocFull.l0 k a0 a1 (List.replicate 4096 z24) 0) else (none)) = some r := h
  clear h
  by_cases c3 : 4096 ≤ 11728124029610
  · rw [if_pos c3] at H
    have c3b0 := eq_true c3
    have c3b1 : decide (4096 ≤ 11728124029610) = true := decide_eq_true c3
    clear c3
    obtain ⟨y277, hy277⟩ : ∃ y_ : List (S24), y_ = (List.replicate 4096 z24) := ⟨_, rfl⟩
    replace H : (jotterlaw04_DocFull.l0 k a0 a1 y277 0) = some r := by first | (rw [hy277]; with_reducible exact H) | (have H2_ := (Option.bind_some _ _).symm.trans H; rw [hy277]; with_reducible exact H2_) | (have H2_ := (Option.bind_some _ _).symm.trans H; with_reducible exact H2_) | with_reducible exact H | (rw [hy277]; exact H) | exact H
    have Ny277 := Aside0.mk hy277
    clear hy277
    have H' := Aside0.mk H
    clear H
    go_enter Try.func7, Try.ntmps7
    go_wp2_with (first | ((with_reducible refine gate_dst (N := 13) rfl ?_); (try (refine gate_guard (by rfl) ?_; dsimp only)); refine Kd.R_make k24 _ 24 rfl (N := 13) rfl 22 _ _ rfl 4096 rfl rfl Try.underlying22 (.agg #[(.int .u8 0), (.int .i64 0), (.int .i64 0)]) 24 info24 rfl (by decide) (by omega) z24 (ok := fun _ => True) (okp := fun _ => True) (k24_mkM _ _ _ z24 ) (fun _ hk => hk) trivial (by omega) (by omega) (Below.refl _ _) (Nat.le_refl _) ?_; intro v278 w4 ho5 hb hg_ hnew_; clear hg_ hnew_; (first | rw [← Ny277.out] at ho5 | (simp only [Int.reduceToNat] at ho5; rw [← Ny277.out] at ho5)); have n0_ := Aside0.mk (Kd.R_lower ho5 (below_size (by repeat (first | (with_reducible first | exact HB.out | apply below_alloc | apply pw_below_drewN | apply below_drew1) | exact HB.out)))); have n1_ := Aside0.mk (below_step (by repeat (first | (with_reducible first | exact HB.out | apply below_alloc | apply pw_below_drewN | apply below_drew1) | exact HB.out)) hb); clear HB; have HO279 := n0_; have HB := n1_; clear n0_ n1_; clear hb ho5))
    go_loopg [6] k (fun kq v6 w' => ∃ (x5_1 : List (S24)) (x6_1 : Int), v6 = .int .i64 x6_1 ∧ Aside0 (jotterlaw04_DocFull.l0 kq a0 a1 x5_1 x6_1 = some r) ∧ Aside0 (kq ≤ k) ∧ Aside0 (Kd.R k24 24 w' w.heap.size (fun _ => True) v278 x5_1) ∧ Aside0 (Below w.heap.size w w'))
    case atStart => exact ⟨(y277), (0), (by first | rfl | (simp; done) | (simp [*]; done)), H', ⟨Nat.le_refl _⟩, ⟨by (with_reducible repeat (first | apply Kd.R_alloc | apply Kd.R_drewN | apply Kd.R_drew)); exact HO279.out⟩, ⟨by repeat (first | (with_reducible first | exact HB.out | apply below_alloc | apply pw_below_drewN | apply below_drew1) | exact HB.out)⟩⟩
    case round =>
      clear H'
      try clear p2
      try clear c3
      try clear c3b0
      try clear c3b1
      obtain ⟨x5_1, x6_1, rfl, HA, HK1, HO_5, HB⟩ := hrel
      cases gk with
      | zero => exact absurd HA.out (by simp [jotterlaw04_DocFull.l0])
      | succ k1 =>
        have H := HA.out
        clear HA
        simp only [jotterlaw04_DocFull.l0] at H
        by_cases c6 : x6_1 < 4096
        · rw [if_pos c6] at H
          have c6b0 : decide (x6_1 < 4096) = true := decide_eq_true c6
          clear c6
          by_cases c7 : 0 ≤ x6_1
          · rw [if_pos c7] at H
            have c7b0 : decide (0 ≤ x6_1) = true := decide_eq_true c7
            clear c7
            by_cases c8 : x6_1 < (x5_1.length : Int)
            · rw [if_pos c8] at H
              have c8b0 : decide (x6_1 < (x5_1.length : Int)) = true := decide_eq_true c8
              clear c8
              obtain ⟨y280, hy280⟩ : ∃ y_ : List (S24), y_ = (x5_1.set (x6_1 : Int).toNat (⟨120, wrap64 (1 + (wrap64 (Int.tdiv x6_1 64))), wrap64 (1 + (Int.tmod x6_1 64))⟩ : S24)) := ⟨_, rfl⟩
              replace H : (jotterlaw04_DocFull.l0 k1 a0 a1 y280 (wrap64 (x6_1 + 1))) = some r := by first | (rw [hy280]; with_reducible exact H) | (have H2_ := (Option.bind_some _ _).symm.trans H; rw [hy280]; with_reducible exact H2_) | (have H2_ := (Option.bind_some _ _).symm.trans H; with_reducible exact H2_) | with_reducible exact H | (rw [hy280]; exact H) | exact H
              have Ny280 := Aside0.mk hy280
              clear hy280
              have H' := Aside0.mk H
              clear H
              have p9 : 0 ≤ (x6_1 : Int) := of_decide_eq_true (by first | (with_reducible assumption) | assumption)
              have q9 : (x6_1 : Int) < ((x5_1.length : Int) : Int) := of_decide_eq_true (by first | (with_reducible assumption) | assumption)
              obtain ⟨go9, co9, eo9, gb9, gl9, cl9, HG9⟩ := Kd.R_form HO_5.out (by omega)
              (first | cases eo9 | (injection eo9 with ea_ en_ ec_; (first | subst ea_ | (injection ea_ with ea_; subst ea_)); subst ec_; clear en_))
              have GB9 := Aside0.mk gb9
              have GG9 := Aside0.mk HG9
              clear gb9 gl9 HG9
              obtain ⟨ce9, hcl9, hM9, hcc9, hfr9⟩ := Kd.R_elem HO_5.out z24 (x6_1 : Int) p9 q9
              obtain rfl := k24_openM hM9
              have hx9_0 : wr.cell? ⟨go9, (x6_1 : Int).toNat * 3, none⟩ = some (.int .u8 ((rd_T24 x5_1 x6_1).f0)) := hcc9 0 _ rfl
              have hx9_1 : wr.cell? ⟨go9, (x6_1 : Int).toNat * 3 + 1, none⟩ = some (.int .i64 ((rd_T24 x5_1 x6_1).f1)) := hcc9 1 _ rfl
              have hx9_2 : wr.cell? ⟨go9, (x6_1 : Int).toNat * 3 + 2, none⟩ = some (.int .i64 ((rd_T24 x5_1 x6_1).f2)) := hcc9 2 _ rfl
              have hf9_0 : wr.frozen? ⟨go9, (x6_1 : Int).toNat * 3, none⟩ = false := hfr9 0
              have hf9_1 : wr.frozen? ⟨go9, (x6_1 : Int).toNat * 3 + 1, none⟩ = false := hfr9 1
              have hf9_2 : wr.frozen? ⟨go9, (x6_1 : Int).toNat * 3 + 2, none⟩ = false := hfr9 2
              clear hcl9 hcc9 hfr9 hM9
              replace p9 := eq_true p9
              replace q9 := eq_true q9
              have HX10 := Aside0.mk (show Kd.R k24 24 wr w.heap.size (fun _ => True) (.slice (some ⟨go9, 0, none⟩) x5_1.length co9) x5_1 from (by (with_reducible repeat (first | apply Kd.R_alloc | apply Kd.R_drewN | apply Kd.R_drew)); exact HO_5.out))
              obtain ⟨ce10, hcl10, hM10, hcc10, hfr10⟩ := Kd.R_elem HX10.out z24 (x6_1 : Int) (of_decide_eq_true (by first | (with_reducible assumption) | assumption)) (by have h_ : (x6_1 : Int) < ((x5_1.length : Int) : Int) := of_decide_eq_true (by first | (with_reducible assumption) | assumption); first | exact h_ | (have e_ := (Kd.R_reads' HO_5.out).1; omega) | simpa using h_)
              obtain rfl := k24_openM hM10
              have HP10 := Kd.R_seg HX10.out (x6_1 : Int) (of_decide_eq_true (by first | (with_reducible assumption) | assumption)) (by have h_ : (x6_1 : Int) < ((x5_1.length : Int) : Int) := of_decide_eq_true (by first | (with_reducible assumption) | assumption); first | exact h_ | (have e_ := (Kd.R_reads' HO_5.out).1; omega) | simpa using h_) (seg := [.int .u8 120, .int .i64 (wrap64 (1 + (wrap64 (Int.tdiv x6_1 64)))), .int .i64 (wrap64 (1 + (Int.tmod x6_1 64)))]) (j := 0) hcl10 hcc10 (show 3 ≤ 3 from by decide) (x' := (⟨120, wrap64 (1 + (wrap64 (Int.tdiv x6_1 64))), wrap64 (1 + (Int.tmod x6_1 64))⟩ : S24)) (k24_mkM _ _ _ (⟨120, wrap64 (1 + (wrap64 (Int.tdiv x6_1 64))), wrap64 (1 + (Int.tmod x6_1 64))⟩ : S24) ) (fun _ hk => hk)
              have hx10_0 := hcc10 0 _ rfl
              (try simp only [show (k24).sz = 3 from rfl, Nat.mul_one, Nat.add_zero] at hx10_0)
              have hf10_0 := hfr10 0
              (try simp only [show (k24).sz = 3 from rfl, Nat.mul_one, Nat.add_zero] at hf10_0)
              have hx10_1 := hcc10 1 _ rfl
              (try simp only [show (k24).sz = 3 from rfl, Nat.mul_one, Nat.add_zero] at hx10_1)
              have hf10_1 := hfr10 1
              (try simp only [show (k24).sz = 3 from rfl, Nat.mul_one, Nat.add_zero] at hf10_1)
              have hx10_2 := hcc10 2 _ rfl
              (try simp only [show (k24).sz = 3 from rfl, Nat.mul_one, Nat.add_zero] at hx10_2)
              have hf10_2 := hfr10 2
              (try simp only [show (k24).sz = 3 from rfl, Nat.mul_one, Nat.add_zero] at hf10_2)
              clear hcl10 hcc10 hfr10 hM10
              go_wp2_with (first | ((with_reducible refine gate_store (t := 24) (p := 27) rfl ?_); refine store_event (t := 24) (p := 27) (v := ?vo_w11) (w1 := (((wr.setCell ⟨go9, (x6_1 : Int).toNat * 3, none⟩ (.int .u8 120)).setCell ⟨go9, (x6_1 : Int).toNat * 3 + 1, none⟩ (.int .i64 (wrap64 (1 + (wrap64 (Int.tdiv x6_1 64)))))).setCell ⟨go9, (x6_1 : Int).toNat * 3 + 2, none⟩ (.int .i64 (wrap64 (1 + (Int.tmod x6_1 64)))))) ?hg ?ho ?hn ?hr ?_; (case ho => rfl); (case hg => rfl); (case hn => rfl); (case hr => first | (go_simp; done) | (go_simp; rfl)); intro w11 hw; have hg : wr.grownBy w11 (some go9) := (by rw [hw]; exact HP10.2); have hp_ : Kd.R k24 24 w11 w.heap.size (fun _ => True) (.slice (some ⟨go9, 0, none⟩) x5_1.length co9) y280 := (by rw [hw, Ny280.out]; exact HP10.1); clear HP10; have n0_ := Aside0.mk (hp_); have n1_ := Aside0.mk ((by rw [hw]; exact below_set (below_set (below_set (HB.out) GB9.out) GB9.out) GB9.out : Below w.heap.size w w11)); clear HO_5; clear HB; have HO_5 := n0_; have HB := n1_; clear n0_ n1_; clear hg hw hp_))
              go_roundg k1
              case measure => have := HK1.out; omega
              case rel => exact ⟨(y280), (wrap64 (x6_1 + 1)), (by first | rfl | (simp; done) | (simp [*]; done)), H', ⟨by have := HK1.out; omega⟩, ⟨by (with_reducible repeat (first | apply Kd.R_alloc | apply Kd.R_drewN | apply Kd.R_drew)); exact HO_5.out⟩, ⟨by repeat (first | (with_reducible first | exact HB.out | apply below_alloc | apply pw_below_drewN | apply below_drew1) | exact HB.out)⟩⟩
            · rw [if_neg c8] at H
              exact absurd H (by simp)
          · rw [if_neg c7] at H
            exact absurd H (by simp)
        · rw [if_neg c6] at H
          have c6b0 : decide (x6_1 < 4096) = false := decide_eq_false c6
          clear c6
          replace H := Option.bind_eq_some_iff.mp H
          obtain ⟨t281, A120, H⟩ := H
          replace H : ((doc_Apply.f k1 x5_1 1 t281 ((32 + (Int.tmod a1 95)) % 256) 3 3).bind fun bt283 => (if bt283.2 = 44 then (jotterlaw04_DocFull.j1 k1 x5_1 t281 ((bt283.1.length : Int) != 0) 1 t281 ((32 + (Int.tmod a1 95)) % 256) 3 3) else (jotterlaw04_DocFull.j1 k1 x5_1 t281 true 1 t281 ((32 + (Int.tmod a1 95)) % 256) 3 3))) = some r := H
          have A12 := Aside0.mk A120
          clear A120
          replace H := Option.bind_eq_some_iff.mp H
          obtain ⟨⟨t283, t286⟩, A130, H⟩ := H
          replace H : (if t286 = 44 then (jotterlaw04_DocFull.j1 k1 x5_1 t281 ((t283.length : Int) != 0) 1 t281 ((32 + (Int.tmod a1 95)) % 256) 3 3) else (jotterlaw04_DocFull.j1 k1 x5_1 t281 true 1 t281 ((32 + (Int.tmod a1 95)) % 256) 3 3)) = some r := H
          have A13 := Aside0.mk A130
          clear A130
          have HC14 := Aside0.mk H
          clear H
          go_upto_region 9 with (first | ((with_reducible refine gate_callee (f := 27) rfl ?_); refine goesL_ (some 29) rfl rfl Try.func27 (by kernel_rfl) rfl #[.int .i64 a0, .int .i64 4096] rfl (by (try simp only [List.map_toArray, List.map_cons, List.map_nil]); first | done | rfl | (simp only [List.length_drop, List.length_take]; rfl)) ?_; (with_reducible refine (jotterlaw04_place.calls a0 4096 t281 _ A12.out).mono ?_); rintro e w' ⟨rfl, ⟨nd, rfl⟩⟩; refine ⟨_, rfl, ?_⟩; (try (rw [drewN_self wr]; generalize hq_ : World.drewN wr _ = wr; have n0_ : Aside0 (Kd.R k24 24 wr w.heap.size (fun _ => True) v278 x5_1) := ⟨by rw [← hq_]; exact (by (with_reducible repeat (first | apply Kd.R_alloc | apply Kd.R_drewN | apply Kd.R_drew)); exact HO_5.out)⟩; have n1_ : Aside0 (Below w.heap.size w wr) := ⟨by rw [← hq_]; exact (by repeat (first | (with_reducible first | exact HB.out | apply below_alloc | apply pw_below_drewN | apply below_drew1) | exact HB.out))⟩; clear HO_5 HB hq_; have HO_5 := n0_; have HB := n1_; clear n0_ n1_))) | ((with_reducible refine gate_dst (N := 8) rfl ?_); (try (refine gate_guard (by rfl) ?_; dsimp only)); refine box_event ?hg (N := 8) ?hd (cs := #[.int .i64 0, .int .i64 0, .int .u8 0, .int .i64 0, .int .i64 0]) (t := 30) ?hr ?_; (case hd => rfl); (case hg => rfl); (case hr => first | (go_simp; done) | (go_simp; rfl)); intro gb282 hg w15 hbox hb; have n0_ := Aside0.mk (Kd.R_below (by (with_reducible repeat (first | apply Kd.R_alloc | apply Kd.R_drewN | apply Kd.R_drew)); exact HO_5.out) hb); have n1_ := Aside0.mk (below_step (by repeat (first | (with_reducible first | exact HB.out | apply below_alloc | apply pw_below_drewN | apply below_drew1) | exact HB.out)) hb); have n2_ := Aside0.mk (hbox); have n3_ := Aside0.mk ((by rw [hg]; exact (below_size (by repeat (first | (with_reducible first | exact HB.out | apply below_alloc | apply pw_below_drewN | apply below_drew1) | exact HB.out))) : w.heap.size ≤ gb282)); have n4_ := Aside0.mk ((by rw [hg]; exact (below_size (by repeat (first | (with_reducible first | exact HB.out | apply below_alloc | apply pw_below_drewN | apply below_drew1) | exact HB.out))) : w.heap.size ≤ gb282)); clear HO_5; clear HB; have HO_5 := n0_; have HB := n1_; have BK282 := n2_; have GW282 := n3_; have GE282 := n4_; clear n0_ n1_ n2_ n3_ n4_; clear hb hbox hg; have hcz16_0 : w15.cell? ⟨gb282, 0, none⟩ = some (.int .i64 0) := (blk_cell BK282.out 0).trans rfl; have hcz16_1 : w15.cell? ⟨gb282, 1, none⟩ = some (.int .i64 0) := (blk_cell BK282.out 1).trans rfl; have hcz16_2 : w15.cell? ⟨gb282, 2, none⟩ = some (.int .u8 0) := (blk_cell BK282.out 2).trans rfl; have hcz16_3 : w15.cell? ⟨gb282, 3, none⟩ = some (.int .i64 0) := (blk_cell BK282.out 3).trans rfl; have hcz16_4 : w15.cell? ⟨gb282, 4, none⟩ = some (.int .i64 0) := (blk_cell BK282.out 4).trans rfl; have hfz16_0 := blk_frozen BK282.out 0; have hfz16_1 := blk_frozen BK282.out 1; have hfz16_2 := blk_frozen BK282.out 2; have hfz16_3 := blk_frozen BK282.out 3; have hfz16_4 := blk_frozen BK282.out 4; obtain ⟨Ao17, co17, eo17⟩ := Kd.R_slice HO_5.out; subst eo17) | ((with_reducible refine gate_callee (f := 25) rfl ?_); refine goesL_ (some 38) rfl rfl Try.func25 (by kernel_rfl) rfl #[.slice Ao17 x5_1.length co17, .agg #[.int .i64 1, .int .i64 t281, .int .u8 ((32 + (Int.tmod a1 95)) % 256), .int .i64 3, .int .i64 3]] rfl (by (try simp only [List.map_toArray, List.map_cons, List.map_nil]); first | done | rfl | (simp only [List.length_drop, List.length_take]; rfl)) ?_; (with_reducible refine (doc_Apply.calls k1 _ _ x5_1 1 t281 ((32 + (Int.tmod a1 95)) % 256) 3 3 t283 t286 _ ?side1 ?side2 A13.out).mono ?_); (case side1 => refine (Kd.R_reads' (e := 24) (base := w.heap.size) (ok := fun k_ => True) (n := x5_1.length) (c := co17) ?_).2.2; exact (by (with_reducible repeat (first | apply Kd.R_alloc | apply Kd.R_drewN | apply Kd.R_drew)); exact (Kd.R_mono (Kd.R_far (p := ⟨gb282, 4, none⟩) (Kd.R_far (p := ⟨gb282, 3, none⟩) (Kd.R_far (p := ⟨gb282, 2, none⟩) (Kd.R_far (p := ⟨gb282, 1, none⟩) (Kd.R_far (p := ⟨gb282, 0, none⟩) (Kd.R_types HO_5.out BK282.out (by decide)) (fun _ hk => hk.2) (.int .i64 1)) (fun _ hk => hk.2) (.int .i64 t281)) (fun _ hk => hk.2) (.int .u8 ((32 + (Int.tmod a1 95)) % 256))) (fun _ hk => hk.2) (.int .i64 3)) (fun _ hk => hk.2) (.int .i64 3)) (fun _ h_ => h_.1)))); (case side2 => exact (Kd.R_reads' HO_5.out).2.1); rintro e w18 ⟨v284, rfl, ho0, hb⟩; refine ⟨_, rfl, ?_⟩; have n0_ := Aside0.mk (Kd.R_elder' (by (with_reducible repeat (first | apply Kd.R_alloc | apply Kd.R_drewN | apply Kd.R_drew)); exact (Kd.R_mono (Kd.R_far (p := ⟨gb282, 4, none⟩) (Kd.R_far (p := ⟨gb282, 3, none⟩) (Kd.R_far (p := ⟨gb282, 2, none⟩) (Kd.R_far (p := ⟨gb282, 1, none⟩) (Kd.R_far (p := ⟨gb282, 0, none⟩) (Kd.R_types HO_5.out BK282.out (by decide)) (fun _ hk => hk.2) (.int .i64 1)) (fun _ hk => hk.2) (.int .i64 t281)) (fun _ hk => hk.2) (.int .u8 ((32 + (Int.tmod a1 95)) % 256))) (fun _ hk => hk.2) (.int .i64 3)) (fun _ hk => hk.2) (.int .i64 3)) (fun _ h_ => h_.1))) (Kd.R_base ho0) hb); have n1_ := Aside0.mk (Kd.R_lower (Kd.R_new' ho0 (Kd.R_lt (by (with_reducible repeat (first | apply Kd.R_alloc | apply Kd.R_drewN | apply Kd.R_drew)); exact (Kd.R_mono (Kd.R_far (p := ⟨gb282, 4, none⟩) (Kd.R_far (p := ⟨gb282, 3, none⟩) (Kd.R_far (p := ⟨gb282, 2, none⟩) (Kd.R_far (p := ⟨gb282, 1, none⟩) (Kd.R_far (p := ⟨gb282, 0, none⟩) (Kd.R_types HO_5.out BK282.out (by decide)) (fun _ hk => hk.2) (.int .i64 1)) (fun _ hk => hk.2) (.int .i64 t281)) (fun _ hk => hk.2) (.int .u8 ((32 + (Int.tmod a1 95)) % 256))) (fun _ hk => hk.2) (.int .i64 3)) (fun _ hk => hk.2) (.int .i64 3)) (fun _ h_ => h_.1))))) (below_size (by repeat (first | (with_reducible first | exact HB.out | apply below_alloc | apply pw_below_drewN | apply below_drew1 | refine below_set ?_ GE282.out) | exact HB.out)))); have n2_ := Aside0.mk (blk_below (g := gb282) (o := .cells #[.int .i64 1, .int .i64 t281, .int .u8 ((32 + (Int.tmod a1 95)) % 256), .int .i64 3, .int .i64 3] 30 (0, 0)) (by (with_reducible repeat (first | refine blk_drewN ?_ _ | refine blk_drew ?_ | refine blk_alloc ?_ _)); refine blk_put (cs := #[.int .i64 1, .int .i64 t281, .int .u8 ((32 + (Int.tmod a1 95)) % 256), .int .i64 3, .int .i64 0]) ?_ 4 _ rfl; (with_reducible repeat (first | refine blk_drewN ?_ _ | refine blk_drew ?_ | refine blk_alloc ?_ _)); refine blk_put (cs := #[.int .i64 1, .int .i64 t281, .int .u8 ((32 + (Int.tmod a1 95)) % 256), .int .i64 0, .int .i64 0]) ?_ 3 _ rfl; (with_reducible repeat (first | refine blk_drewN ?_ _ | refine blk_drew ?_ | refine blk_alloc ?_ _)); refine blk_put (cs := #[.int .i64 1, .int .i64 t281, .int .u8 0, .int .i64 0, .int .i64 0]) ?_ 2 _ rfl; (with_reducible repeat (first | refine blk_drewN ?_ _ | refine blk_drew ?_ | refine blk_alloc ?_ _)); refine blk_put (cs := #[.int .i64 1, .int .i64 0, .int .u8 0, .int .i64 0, .int .i64 0]) ?_ 1 _ rfl; (with_reducible repeat (first | refine blk_drewN ?_ _ | refine blk_drew ?_ | refine blk_alloc ?_ _)); refine blk_put (cs := #[.int .i64 0, .int .i64 0, .int .u8 0, .int .i64 0, .int .i64 0]) ?_ 0 _ rfl; (with_reducible repeat (first | refine blk_drewN ?_ _ | refine blk_drew ?_ | refine blk_alloc ?_ _)); exact BK282.out) hb); have n3_ := Aside0.mk (below_step (by repeat (first | (with_reducible first | exact HB.out | apply below_alloc | apply pw_below_drewN | apply below_drew1 | refine below_set ?_ GE282.out) | exact HB.out)) hb); clear HO_5; clear BK282; clear HB; have HO_5 := n0_; have HO285 := n1_; have BK282 := n2_; have HB := n3_; clear n0_ n1_ n2_ n3_; (try clear hb); (try clear hb2); (try clear hk); (try clear hi); (try clear ho0)))
          (try simp only [Act.put, List.setIfInBounds_toArray, List.set_cons_zero, List.set_cons_succ])
          go_cut [47] (fun v47 wc => ∃ (kq : Nat) (x47_13 : Bool), v47 = .bool x47_13 ∧ Aside0 (jotterlaw04_DocFull.j1 kq x5_1 t281 x47_13 1 t281 ((32 + (Int.tmod a1 95)) % 256) 3 3 = some r) ∧ Aside0 (kq ≤ k1) ∧ Aside0 (Kd.R k24 24 wc w.heap.size (fun _ => True) (.slice Ao17 x5_1.length co17) x5_1) ∧ Aside0 (wc.heap[gb282]? = some (.cells #[.int .i64 1, .int .i64 t281, .int .u8 ((32 + (Int.tmod a1 95)) % 256), .int .i64 3, .int .i64 3] 30 (0, 0))) ∧ Aside0 (Below w.heap.size w wc))
          case first =>
            have H := HC14.out
            clear HC14
            by_cases c19 : t286 = 44
            · rw [if_pos c19] at H
              have c19b0 : (t286 == 44) = true := beq_iff_eq.mpr c19
              have c19b1 : (t286 != 44) = false := bne_eq_false_iff_eq.mpr c19
              clear c19
              (first | rw [c19b0] | (simp only [i64_w, i32_w]; rw [c19b0]) | skip)
              have H' := Aside0.mk H
              clear H
              obtain ⟨Ao20, co20, eo20⟩ := Kd.R_slice HO285.out
              subst eo20
              go_wp2
              go_meet
              case rel => exact ⟨_, (((t283.length : Int) != 0)), (by first | rfl | (simp; done) | (simp [*]; done)), H', ⟨by have := HK1.out; first | omega | exact Nat.le_refl _⟩, ⟨by (with_reducible repeat (first | apply Kd.R_alloc | apply Kd.R_drewN | apply Kd.R_drew)); exact Kd.R_mono HO_5.out (fun _ hk => trivial)⟩, ⟨by (with_reducible repeat (first | refine blk_drewN ?_ _ | refine blk_drew ?_ | refine blk_alloc ?_ _)); exact BK282.out⟩, ⟨by repeat (first | (with_reducible first | exact HB.out | apply below_alloc | apply pw_below_drewN | apply below_drew1 | refine below_set ?_ GE282.out) | exact HB.out)⟩⟩
            · rw [if_neg c19] at H
              have c19b0 : (t286 == 44) = false := beq_eq_false_iff_ne.mpr c19
              have c19b1 : (t286 != 44) = true := bne_iff_ne.mpr c19
              (first | rw [c19b0] | (simp only [i64_w, i32_w]; rw [c19b0]) | skip)
              have H' := Aside0.mk H
              clear H
              go_wp2
              go_meet
              case rel => exact ⟨_, (true), (by first | rfl | (simp; done) | (simp [*]; done)), H', ⟨by have := HK1.out; first | omega | exact Nat.le_refl _⟩, ⟨by (with_reducible repeat (first | apply Kd.R_alloc | apply Kd.R_drewN | apply Kd.R_drew)); exact Kd.R_mono HO_5.out (fun _ hk => trivial)⟩, ⟨by (with_reducible repeat (first | refine blk_drewN ?_ _ | refine blk_drew ?_ | refine blk_alloc ?_ _)); exact BK282.out⟩, ⟨by repeat (first | (with_reducible first | exact HB.out | apply below_alloc | apply pw_below_drewN | apply below_drew1 | refine below_set ?_ GE282.out) | exact HB.out)⟩⟩
          case rest =>
            clear HC14
            try clear c1
            try clear hx1
            try clear c2
            try clear p2
            try clear c3
            try clear c3b0
            try clear c3b1
            try clear c6
            try clear c6b0
            try clear p6
            try clear c7
            try clear c7b0
            try clear c8
            try clear c8b0
            try clear c9
            try clear p9
            try clear q9
            try clear hx9
            try clear hf9
            try clear c10
            try clear hx10
            try clear hf10
            try clear c19
            try clear c19b0
            try clear c19b1
            try clear hcz16_0
            try clear hcz16_1
            try clear hcz16_2
            try clear hcz16_3
            try clear hcz16_4
            try clear hfz16_0
            try clear hfz16_1
            try clear hfz16_2
            try clear hfz16_3
            try clear hfz16_4
            try clear hx10_0
            try clear hx10_1
            try clear hx10_2
            try clear hx9_0
            try clear hx9_1
            try clear hx9_2
            try clear p2
            try clear p9
            try clear q9
            obtain ⟨kq, x47_13, rfl, HA, HJ13, HO_5, BK282, HB⟩ := hcut
            cases kq with
            | zero => exact absurd HA.out (by simp [jotterlaw04_DocFull.j1])
            | succ kj13 =>
              have H := HA.out
              clear HA
              simp only [jotterlaw04_DocFull.j1] at H
              by_cases c21 : x47_13 = true
              · subst c21
                have H1 : (some false) = some r := by rw [if_pos rfl] at H; exact H
                clear H
                have H := H1
                clear H1
                obtain rfl := Option.some.inj H
                go_wp2
                go_ret
                exact ⟨by first | rfl | (simp [errW_none, errW_some] <;> rfl) | (simp [*, errW_none, errW_some] <;> rfl), by repeat (first | (with_reducible first | exact HB.out | apply below_alloc | apply pw_below_drewN | apply below_drew1 | refine below_set ?_ GE282.out) | exact HB.out)⟩
              · replace c21 := Bool.eq_false_iff.mpr c21
                subst c21
                have H1 : ((doc_Apply.f kj13 x5_1 2 t281 0 3 4).bind fun bt287 => (if bt287.2 = 0 then (jotterlaw04_DocFull.j2 kj13 t281 bt287.1 ((bt287.1.length : Int) != 4095) 1 t281 ((32 + (Int.tmod a1 95)) % 256) 3 3) else (jotterlaw04_DocFull.j2 kj13 t281 bt287.1 true 1 t281 ((32 + (Int.tmod a1 95)) % 256) 3 3))) = some r := by rw [if_neg (show ¬ (false = true) by decide)] at H; exact H
                clear H
                have H := H1
                clear H1
                replace H := Option.bind_eq_some_iff.mp H
                obtain ⟨⟨t287, t290⟩, A220, H⟩ := H
                replace H : (if t290 = 0 then (jotterlaw04_DocFull.j2 kj13 t281 t287 ((t287.length : Int) != 4095) 1 t281 ((32 + (Int.tmod a1 95)) % 256) 3 3) else (jotterlaw04_DocFull.j2 kj13 t281 t287 true 1 t281 ((32 + (Int.tmod a1 95)) % 256) 3 3)) = some r := H
                have A22 := Aside0.mk A220
                clear A220
                have HC23 := Aside0.mk H
                clear H
                go_upto_region 12 with (first | ((with_reducible refine gate_callee (f := 25) rfl ?_); refine goesL_ (some 52) rfl rfl Try.func25 (by kernel_rfl) rfl #[.slice Ao17 x5_1.length co17, .agg #[.int .i64 2, .int .i64 t281, .int .u8 0, .int .i64 3, .int .i64 4]] rfl (by (try simp only [List.map_toArray, List.map_cons, List.map_nil]); first | done | rfl | (simp only [List.length_drop, List.length_take]; rfl)) ?_; (with_reducible refine (doc_Apply.calls kj13 _ _ x5_1 2 t281 0 3 4 t287 t290 _ ?side1 ?side2 A22.out).mono ?_); (case side1 => repeat (first | exact (Kd.R_reads' HO_5.out).2.2 | (with_reducible refine Kd.C_alloc ?_ _) | (with_reducible refine Kd.C_drewN ?_ _) | (with_reducible refine Kd.C_drew ?_))); (case side2 => exact (Kd.R_reads' HO_5.out).2.1); rintro e w24 ⟨v288, rfl, ho0, hb⟩; refine ⟨_, rfl, ?_⟩; have n0_ := Aside0.mk (Kd.R_elder' (by (with_reducible repeat (first | apply Kd.R_alloc | apply Kd.R_drewN | apply Kd.R_drew)); exact HO_5.out) (Kd.R_base ho0) hb); have n1_ := Aside0.mk (Kd.R_lower (Kd.R_new' ho0 (Kd.R_lt (by (with_reducible repeat (first | apply Kd.R_alloc | apply Kd.R_drewN | apply Kd.R_drew)); exact HO_5.out))) (below_size (by repeat (first | (with_reducible first | exact HB.out | apply below_alloc | apply pw_below_drewN | apply below_drew1 | refine below_set ?_ GE282.out) | exact HB.out)))); have n2_ := Aside0.mk (blk_below (g := gb282) (o := .cells #[.int .i64 1, .int .i64 t281, .int .u8 ((32 + (Int.tmod a1 95)) % 256), .int .i64 3, .int .i64 3] 30 (0, 0)) (by (with_reducible repeat (first | refine blk_drewN ?_ _ | refine blk_drew ?_ | refine blk_alloc ?_ _)); exact BK282.out) hb); have n3_ := Aside0.mk (below_step (by repeat (first | (with_reducible first | exact HB.out | apply below_alloc | apply pw_below_drewN | apply below_drew1 | refine below_set ?_ GE282.out) | exact HB.out)) hb); clear HO_5; clear BK282; clear HB; have HO_5 := n0_; have HO289 := n1_; have BK282 := n2_; have HB := n3_; clear n0_ n1_ n2_ n3_; (try clear hb); (try clear hb2); (try clear hk); (try clear hi); (try clear ho0)))
                (try simp only [Act.put, List.setIfInBounds_toArray, List.set_cons_zero, List.set_cons_succ])
                go_cut [61] (fun v61 wc => ∃ (kq : Nat) (x61_22 : Bool), v61 = .bool x61_22 ∧ Aside0 (jotterlaw04_DocFull.j2 kq t281 t287 x61_22 1 t281 ((32 + (Int.tmod a1 95)) % 256) 3 3 = some r) ∧ Aside0 (kq ≤ kj13) ∧ Aside0 (Kd.R k24 24 wc w.heap.size (fun _ => True) v288 t287) ∧ Aside0 (wc.heap[gb282]? = some (.cells #[.int .i64 1, .int .i64 t281, .int .u8 ((32 + (Int.tmod a1 95)) % 256), .int .i64 3, .int .i64 3] 30 (0, 0))) ∧ Aside0 (Below w.heap.size w wc))
                case first =>
                  have H := HC23.out
                  clear HC23
                  by_cases c25 : t290 = 0
                  · rw [if_pos c25] at H
                    have c25b0 : (t290 == 0) = true := beq_iff_eq.mpr c25
                    have c25b1 : (t290 != 0) = false := bne_eq_false_iff_eq.mpr c25
                    clear c25
                    (first | rw [c25b0] | (simp only [i64_w, i32_w]; rw [c25b0]) | skip)
                    have H' := Aside0.mk H
                    clear H
                    obtain ⟨Ao26, co26, eo26⟩ := Kd.R_slice HO289.out
                    subst eo26
                    go_wp2
                    go_meet
                    case rel => exact ⟨_, (((t287.length : Int) != 4095)), (by first | rfl | (simp; done) | (simp [*]; done)), H', ⟨by have := HK1.out; have := HJ13.out; first | omega | exact Nat.le_refl _⟩, ⟨by (with_reducible repeat (first | apply Kd.R_alloc | apply Kd.R_drewN | apply Kd.R_drew)); exact Kd.R_mono HO289.out (fun _ hk => trivial)⟩, ⟨by (with_reducible repeat (first | refine blk_drewN ?_ _ | refine blk_drew ?_ | refine blk_alloc ?_ _)); exact BK282.out⟩, ⟨by repeat (first | (with_reducible first | exact HB.out | apply below_alloc | apply pw_below_drewN | apply below_drew1 | refine below_set ?_ GE282.out) | exact HB.out)⟩⟩
                  · rw [if_neg c25] at H
                    have c25b0 : (t290 == 0) = false := beq_eq_false_iff_ne.mpr c25
                    have c25b1 : (t290 != 0) = true := bne_iff_ne.mpr c25
                    (first | rw [c25b0] | (simp only [i64_w, i32_w]; rw [c25b0]) | skip)
                    have H' := Aside0.mk H
                    clear H
                    go_wp2
                    go_meet
                    case rel => exact ⟨_, (true), (by first | rfl | (simp; done) | (simp [*]; done)), H', ⟨by have := HK1.out; have := HJ13.out; first | omega | exact Nat.le_refl _⟩, ⟨by (with_reducible repeat (first | apply Kd.R_alloc | apply Kd.R_drewN | apply Kd.R_drew)); exact Kd.R_mono HO289.out (fun _ hk => trivial)⟩, ⟨by (with_reducible repeat (first | refine blk_drewN ?_ _ | refine blk_drew ?_ | refine blk_alloc ?_ _)); exact BK282.out⟩, ⟨by repeat (first | (with_reducible first | exact HB.out | apply below_alloc | apply pw_below_drewN | apply below_drew1 | refine below_set ?_ GE282.out) | exact HB.out)⟩⟩
                case rest =>
                  clear HC23
                  try clear c1
                  try clear hx1
                  try clear c2
                  try clear p2
                  try clear c3
                  try clear c3b0
                  try clear c3b1
                  try clear c6
                  try clear c6b0
                  try clear p6
                  try clear c7
                  try clear c7b0
                  try clear c8
                  try clear c8b0
                  try clear c9
                  try clear p9
                  try clear q9
                  try clear hx9
                  try clear hf9
                  try clear c10
                  try clear hx10
                  try clear hf10
                  try clear c19
                  try clear c19b0
                  try clear c19b1
                  try clear c21
                  try clear c25
                  try clear c25b0
                  try clear c25b1
                  try clear hcz16_0
                  try clear hcz16_1
                  try clear hcz16_2
                  try clear hcz16_3
                  try clear hcz16_4
                  try clear hfz16_0
                  try clear hfz16_1
                  try clear hfz16_2
                  try clear hfz16_3
                  try clear hfz16_4
                  try clear hx10_0
                  try clear hx10_1
                  try clear hx10_2
                  try clear hx9_0
                  try clear hx9_1
                  try clear hx9_2
                  try clear p2
                  try clear p6
                  try clear p9
                  try clear q9
                  obtain ⟨kq, x61_22, rfl, HA, HJ22, HO_9, BK282, HB⟩ := hcut
                  cases kq with
                  | zero => exact absurd HA.out (by simp [jotterlaw04_DocFull.j2])
                  | succ kj22 =>
                    have H := HA.out
                    clear HA
                    simp only [jotterlaw04_DocFull.j2] at H
                    by_cases c27 : x61_22 = true
                    · subst c27
                      have H1 : (some false) = some r := by rw [if_pos rfl] at H; exact H
                      clear H
                      have H := H1
                      clear H1
                      obtain rfl := Option.some.inj H
                      go_wp2
                      go_ret
                      exact ⟨by first | rfl | (simp [errW_none, errW_some] <;> rfl) | (simp [*, errW_none, errW_some] <;> rfl), by repeat (first | (with_reducible first | exact HB.out | apply below_alloc | apply pw_below_drewN | apply below_drew1 | refine below_set ?_ GE282.out) | exact HB.out)⟩
                    · replace c27 := Bool.eq_false_iff.mpr c27
                      subst c27
                      have H1 : ((doc_Apply.f kj22 t287 2 4095 0 3 5).bind fun bt291 => (if bt291.2 = 43 then (if (bt291.1.length : Int) = 0 then ((doc_Apply.f kj22 t287 1 t281 ((32 + (Int.tmod a1 95)) % 256) 3 3).bind fun bt295 => (if bt295.2 = 0 then (if (bt295.1.length : Int) = 4096 then (if 0 ≤ t281 then (if t281 < (bt295.1.length : Int) then (if ((rd_T24 bt295.1 t281).f1) = 3 then (some (((rd_T24 bt295.1 t281).f2) == 3)) else (some false)) else (none)) else (none)) else (some false)) else (some false))) else (some false)) else (some false))) = some r := by rw [if_neg (show ¬ (false = true) by decide)] at H; exact H
                      clear H
                      have H := H1
                      clear H1
                      replace H := Option.bind_eq_some_iff.mp H
                      obtain ⟨⟨t291, t294⟩, A280, H⟩ := H
                      replace H : (if t294 = 43 then (if (t291.length : Int) = 0 then ((doc_Apply.f kj22 t287 1 t281 ((32 + (Int.tmod a1 95)) % 256) 3 3).bind fun bt295 => (if bt295.2 = 0 then (if (bt295.1.length : Int) = 4096 then (if 0 ≤ t281 then (if t281 < (bt295.1.length : Int) then (if ((rd_T24 bt295.1 t281).f1) = 3 then (some (((rd_T24 bt295.1 t281).f2) == 3)) else (some false)) else (none)) else (none)) else (some false)) else (some false))) else (some false)) else (some false)) = some r := H
                      have A28 := Aside0.mk A280
                      clear A280
                      by_cases c29 : t294 = 43
                      · rw [if_pos c29] at H
                        have c29b0 : (t294 == 43) = true := beq_iff_eq.mpr c29
                        have c29b1 : (t294 != 43) = false := bne_eq_false_iff_eq.mpr c29
                        clear c29
                        by_cases c30 : (t291.length : Int) = 0
                        · rw [if_pos c30] at H
                          have c30b0 : ((t291.length : Int) == 0) = true := beq_iff_eq.mpr c30
                          have c30b1 : ((t291.length : Int) != 0) = false := bne_eq_false_iff_eq.mpr c30
                          clear c30
                          replace H := Option.bind_eq_some_iff.mp H
                          obtain ⟨⟨t295, t298⟩, A310, H⟩ := H
                          replace H : (if t298 = 0 then (if (t295.length : Int) = 4096 then (if 0 ≤ t281 then (if t281 < (t295.length : Int) then (if ((rd_T24 t295 t281).f1) = 3 then (some (((rd_T24 t295 t281).f2) == 3)) else (some false)) else (none)) else (none)) else (some false)) else (some false)) = some r := H
                          have A31 := Aside0.mk A310
                          clear A310
                          by_cases c32 : t298 = 0
                          · rw [if_pos c32] at H
                            have c32b0 : (t298 == 0) = true := beq_iff_eq.mpr c32
                            have c32b1 : (t298 != 0) = false := bne_eq_false_iff_eq.mpr c32
                            clear c32
                            by_cases c33 : (t295.length : Int) = 4096
                            · rw [if_pos c33] at H
                              have c33b0 : ((t295.length : Int) == 4096) = true := beq_iff_eq.mpr c33
                              have c33b1 : ((t295.length : Int) != 4096) = false := bne_eq_false_iff_eq.mpr c33
                              clear c33
                              by_cases c34 : 0 ≤ t281
                              · rw [if_pos c34] at H
                                have c34b0 : decide (0 ≤ t281) = true := decide_eq_true c34
                                clear c34
                                by_cases c35 : t281 < (t295.length : Int)
                                · rw [if_pos c35] at H
                                  have c35b0 : decide (t281 < (t295.length : Int)) = true := decide_eq_true c35
                                  clear c35
                                  by_cases c36 : ((rd_T24 t295 t281).f1) = 3
                                  · rw [if_pos c36] at H
                                    have c36b0 : (((rd_T24 t295 t281).f1) == 3) = true := beq_iff_eq.mpr c36
                                    have c36b1 : (((rd_T24 t295 t281).f1) != 3) = false := bne_eq_false_iff_eq.mpr c36
                                    clear c36
                                    obtain rfl := Option.some.inj H
                                    obtain ⟨Ao37, co37, eo37⟩ := Kd.R_slice HO_9.out
                                    subst eo37
                                    go_wp2_with (first | ((with_reducible refine gate_callee (f := 25) rfl ?_); refine goesL_ (some 65) rfl rfl Try.func25 (by kernel_rfl) rfl #[.slice Ao37 t287.length co37, .agg #[.int .i64 2, .int .i64 4095, .int .u8 0, .int .i64 3, .int .i64 5]] rfl (by (try simp only [List.map_toArray, List.map_cons, List.map_nil]); first | done | rfl | (simp only [List.length_drop, List.length_take]; rfl)) ?_; (with_reducible refine (doc_Apply.calls kj22 _ _ t287 2 4095 0 3 5 t291 t294 _ ?side1 ?side2 A28.out).mono ?_); (case side1 => repeat (first | exact (Kd.R_reads' HO_9.out).2.2 | (with_reducible refine Kd.C_alloc ?_ _) | (with_reducible refine Kd.C_drewN ?_ _) | (with_reducible refine Kd.C_drew ?_))); (case side2 => exact (Kd.R_reads' HO_9.out).2.1); rintro e w38 ⟨v292, rfl, ho0, hb⟩; refine ⟨_, rfl, ?_⟩; have n0_ := Aside0.mk (Kd.R_elder' (by (with_reducible repeat (first | apply Kd.R_alloc | apply Kd.R_drewN | apply Kd.R_drew)); exact HO_9.out) (Kd.R_base ho0) hb); have n1_ := Aside0.mk (Kd.R_lower (Kd.R_new' ho0 (Kd.R_lt (by (with_reducible repeat (first | apply Kd.R_alloc | apply Kd.R_drewN | apply Kd.R_drew)); exact HO_9.out))) (below_size (by repeat (first | (with_reducible first | exact HB.out | apply below_alloc | apply pw_below_drewN | apply below_drew1 | refine below_set ?_ GE282.out) | exact HB.out)))); have n2_ := Aside0.mk (blk_below (g := gb282) (o := .cells #[.int .i64 1, .int .i64 t281, .int .u8 ((32 + (Int.tmod a1 95)) % 256), .int .i64 3, .int .i64 3] 30 (0, 0)) (by (with_reducible repeat (first | refine blk_drewN ?_ _ | refine blk_drew ?_ | refine blk_alloc ?_ _)); exact BK282.out) hb); have n3_ := Aside0.mk (below_step (by repeat (first | (with_reducible first | exact HB.out | apply below_alloc | apply pw_below_drewN | apply below_drew1 | refine below_set ?_ GE282.out) | exact HB.out)) hb); clear HO_9; clear BK282; clear HB; have HO_9 := n0_; have HO293 := n1_; have BK282 := n2_; have HB := n3_; clear n0_ n1_ n2_ n3_; (try clear hb); (try clear hb2); (try clear hk); (try clear hi); (try clear ho0); obtain ⟨Ao39, co39, eo39⟩ := Kd.R_slice HO293.out; subst eo39; have hcz40_0 : w38.cell? ⟨gb282, 0, none⟩ = some (.int .i64 1) := (blk_cell BK282.out 0).trans rfl; have hcz40_1 : w38.cell? ⟨gb282, 1, none⟩ = some (.int .i64 t281) := (blk_cell BK282.out 1).trans rfl; have hcz40_2 : w38.cell? ⟨gb282, 2, none⟩ = some (.int .u8 ((32 + (Int.tmod a1 95)) % 256)) := (blk_cell BK282.out 2).trans rfl; have hcz40_3 : w38.cell? ⟨gb282, 3, none⟩ = some (.int .i64 3) := (blk_cell BK282.out 3).trans rfl; have hcz40_4 : w38.cell? ⟨gb282, 4, none⟩ = some (.int .i64 3) := (blk_cell BK282.out 4).trans rfl; have hfz40_0 := blk_frozen BK282.out 0; have hfz40_1 := blk_frozen BK282.out 1; have hfz40_2 := blk_frozen BK282.out 2; have hfz40_3 := blk_frozen BK282.out 3; have hfz40_4 := blk_frozen BK282.out 4) | ((with_reducible refine gate_callee (f := 25) rfl ?_); refine goesL_ (some 78) rfl rfl Try.func25 (by kernel_rfl) rfl #[.slice Ao37 t287.length co37, .agg #[.int .i64 1, .int .i64 t281, .int .u8 ((32 + (Int.tmod a1 95)) % 256), .int .i64 3, .int .i64 3]] rfl (by (try simp only [List.map_toArray, List.map_cons, List.map_nil]); first | done | rfl | (simp only [List.length_drop, List.length_take]; rfl)) ?_; (with_reducible refine (doc_Apply.calls kj22 _ _ t287 1 t281 ((32 + (Int.tmod a1 95)) % 256) 3 3 t295 t298 _ ?side1 ?side2 A31.out).mono ?_); (case side1 => repeat (first | exact (Kd.R_reads' HO_9.out).2.2 | (with_reducible refine Kd.C_alloc ?_ _) | (with_reducible refine Kd.C_drewN ?_ _) | (with_reducible refine Kd.C_drew ?_))); (case side2 => exact (Kd.R_reads' HO_9.out).2.1); rintro e w41 ⟨v296, rfl, ho0, hb⟩; refine ⟨_, rfl, ?_⟩; have n0_ := Aside0.mk (Kd.R_elder' (by (with_reducible repeat (first | apply Kd.R_alloc | apply Kd.R_drewN | apply Kd.R_drew)); exact HO_9.out) (Kd.R_base ho0) hb); have n1_ := Aside0.mk (Kd.R_elder' (by (with_reducible repeat (first | apply Kd.R_alloc | apply Kd.R_drewN | apply Kd.R_drew)); exact HO293.out) (Kd.R_base ho0) hb); have n2_ := Aside0.mk (Kd.R_lower (Kd.R_new' (Kd.R_new' ho0 (Kd.R_lt (by (with_reducible repeat (first | apply Kd.R_alloc | apply Kd.R_drewN | apply Kd.R_drew)); exact HO_9.out))) (Kd.R_lt (by (with_reducible repeat (first | apply Kd.R_alloc | apply Kd.R_drewN | apply Kd.R_drew)); exact HO293.out))) (below_size (by repeat (first | (with_reducible first | exact HB.out | apply below_alloc | apply pw_below_drewN | apply below_drew1 | refine below_set ?_ GE282.out) | exact HB.out)))); have n3_ := Aside0.mk (blk_below (g := gb282) (o := .cells #[.int .i64 1, .int .i64 t281, .int .u8 ((32 + (Int.tmod a1 95)) % 256), .int .i64 3, .int .i64 3] 30 (0, 0)) (by (with_reducible repeat (first | refine blk_drewN ?_ _ | refine blk_drew ?_ | refine blk_alloc ?_ _)); exact BK282.out) hb); have n4_ := Aside0.mk (below_step (by repeat (first | (with_reducible first | exact HB.out | apply below_alloc | apply pw_below_drewN | apply below_drew1 | refine below_set ?_ GE282.out) | exact HB.out)) hb); clear HO_9; clear HO293; clear BK282; clear HB; have HO_9 := n0_; have HO293 := n1_; have HO297 := n2_; have BK282 := n3_; have HB := n4_; clear n0_ n1_ n2_ n3_ n4_; (try clear hb); (try clear hb2); (try clear hk); (try clear hi); (try clear ho0); obtain ⟨Ao42, co42, eo42⟩ := Kd.R_slice HO297.out; subst eo42; have p299 : 0 ≤ (t281 : Int) := of_decide_eq_true (by first | (with_reducible assumption) | assumption); have q299 : t281 < (t295.length : Int) := of_decide_eq_true (by first | (with_reducible assumption) | assumption); obtain ⟨ad299, e299, hx299_0, hx299_1, hx299_2⟩ := at_T24 (Kd.R_reads' HO297.out).2.2 t281 p299 q299; cases e299; replace p299 := eq_true p299; replace q299 := eq_true q299; have p300 : 0 ≤ (t281 : Int) := of_decide_eq_true (by first | (with_reducible assumption) | assumption); have q300 : t281 < (t295.length : Int) := of_decide_eq_true (by first | (with_reducible assumption) | assumption); obtain ⟨ad300, e300, hx300_0, hx300_1, hx300_2⟩ := at_T24 (Kd.R_reads' HO297.out).2.2 t281 p300 q300; obtain rfl : ad299 = ad300 := (by injection e300); replace p300 := eq_true p300; replace q300 := eq_true q300))
                                    go_ret
                                    exact ⟨by first | rfl | (simp [errW_none, errW_some] <;> rfl) | (simp [*, errW_none, errW_some] <;> rfl), by repeat (first | (with_reducible first | exact HB.out | apply below_alloc | apply pw_below_drewN | apply below_drew1 | refine below_set ?_ GE282.out) | exact HB.out)⟩
                                  · rw [if_neg c36] at H
                                    have c36b0 : (((rd_T24 t295 t281).f1) == 3) = false := beq_eq_false_iff_ne.mpr c36
                                    have c36b1 : (((rd_T24 t295 t281).f1) != 3) = true := bne_iff_ne.mpr c36
                                    obtain rfl := Option.some.inj H
                                    obtain ⟨Ao43, co43, eo43⟩ := Kd.R_slice HO_9.out
                                    subst eo43
                                    go_wp2_with (first | ((with_reducible refine gate_callee (f := 25) rfl ?_); refine goesL_ (some 65) rfl rfl Try.func25 (by kernel_rfl) rfl #[.slice Ao43 t287.length co43, .agg #[.int .i64 2, .int .i64 4095, .int .u8 0, .int .i64 3, .int .i64 5]] rfl (by (try simp only [List.map_toArray, List.map_cons, List.map_nil]); first | done | rfl | (simp only [List.length_drop, List.length_take]; rfl)) ?_; (with_reducible refine (doc_Apply.calls kj22 _ _ t287 2 4095 0 3 5 t291 t294 _ ?side1 ?side2 A28.out).mono ?_); (case side1 => repeat (first | exact (Kd.R_reads' HO_9.out).2.2 | (with_reducible refine Kd.C_alloc ?_ _) | (with_reducible refine Kd.C_drewN ?_ _) | (with_reducible refine Kd.C_drew ?_))); (case side2 => exact (Kd.R_reads' HO_9.out).2.1); rintro e w44 ⟨v292, rfl, ho0, hb⟩; refine ⟨_, rfl, ?_⟩; have n0_ := Aside0.mk (Kd.R_elder' (by (with_reducible repeat (first | apply Kd.R_alloc | apply Kd.R_drewN | apply Kd.R_drew)); exact HO_9.out) (Kd.R_base ho0) hb); have n1_ := Aside0.mk (Kd.R_lower (Kd.R_new' ho0 (Kd.R_lt (by (with_reducible repeat (first | apply Kd.R_alloc | apply Kd.R_drewN | apply Kd.R_drew)); exact HO_9.out))) (below_size (by repeat (first | (with_reducible first | exact HB.out | apply below_alloc | apply pw_below_drewN | apply below_drew1 | refine below_set ?_ GE282.out) | exact HB.out)))); have n2_ := Aside0.mk (blk_below (g := gb282) (o := .cells #[.int .i64 1, .int .i64 t281, .int .u8 ((32 + (Int.tmod a1 95)) % 256), .int .i64 3, .int .i64 3] 30 (0, 0)) (by (with_reducible repeat (first | refine blk_drewN ?_ _ | refine blk_drew ?_ | refine blk_alloc ?_ _)); exact BK282.out) hb); have n3_ := Aside0.mk (below_step (by repeat (first | (with_reducible first | exact HB.out | apply below_alloc | apply pw_below_drewN | apply below_drew1 | refine below_set ?_ GE282.out) | exact HB.out)) hb); clear HO_9; clear BK282; clear HB; have HO_9 := n0_; have HO293 := n1_; have BK282 := n2_; have HB := n3_; clear n0_ n1_ n2_ n3_; (try clear hb); (try clear hb2); (try clear hk); (try clear hi); (try clear ho0); obtain ⟨Ao45, co45, eo45⟩ := Kd.R_slice HO293.out; subst eo45; have hcz46_0 : w44.cell? ⟨gb282, 0, none⟩ = some (.int .i64 1) := (blk_cell BK282.out 0).trans rfl; have hcz46_1 : w44.cell? ⟨gb282, 1, none⟩ = some (.int .i64 t281) := (blk_cell BK282.out 1).trans rfl; have hcz46_2 : w44.cell? ⟨gb282, 2, none⟩ = some (.int .u8 ((32 + (Int.tmod a1 95)) % 256)) := (blk_cell BK282.out 2).trans rfl; have hcz46_3 : w44.cell? ⟨gb282, 3, none⟩ = some (.int .i64 3) := (blk_cell BK282.out 3).trans rfl; have hcz46_4 : w44.cell? ⟨gb282, 4, none⟩ = some (.int .i64 3) := (blk_cell BK282.out 4).trans rfl; have hfz46_0 := blk_frozen BK282.out 0; have hfz46_1 := blk_frozen BK282.out 1; have hfz46_2 := blk_frozen BK282.out 2; have hfz46_3 := blk_frozen BK282.out 3; have hfz46_4 := blk_frozen BK282.out 4) | ((with_reducible refine gate_callee (f := 25) rfl ?_); refine goesL_ (some 78) rfl rfl Try.func25 (by kernel_rfl) rfl #[.slice Ao43 t287.length co43, .agg #[.int .i64 1, .int .i64 t281, .int .u8 ((32 + (Int.tmod a1 95)) % 256), .int .i64 3, .int .i64 3]] rfl (by (try simp only [List.map_toArray, List.map_cons, List.map_nil]); first | done | rfl | (simp only [List.length_drop, List.length_take]; rfl)) ?_; (with_reducible refine (doc_Apply.calls kj22 _ _ t287 1 t281 ((32 + (Int.tmod a1 95)) % 256) 3 3 t295 t298 _ ?side1 ?side2 A31.out).mono ?_); (case side1 => repeat (first | exact (Kd.R_reads' HO_9.out).2.2 | (with_reducible refine Kd.C_alloc ?_ _) | (with_reducible refine Kd.C_drewN ?_ _) | (with_reducible refine Kd.C_drew ?_))); (case side2 => exact (Kd.R_reads' HO_9.out).2.1); rintro e w47 ⟨v296, rfl, ho0, hb⟩; refine ⟨_, rfl, ?_⟩; have n0_ := Aside0.mk (Kd.R_elder' (by (with_reducible repeat (first | apply Kd.R_alloc | apply Kd.R_drewN | apply Kd.R_drew)); exact HO_9.out) (Kd.R_base ho0) hb); have n1_ := Aside0.mk (Kd.R_elder' (by (with_reducible repeat (first | apply Kd.R_alloc | apply Kd.R_drewN | apply Kd.R_drew)); exact HO293.out) (Kd.R_base ho0) hb); have n2_ := Aside0.mk (Kd.R_lower (Kd.R_new' (Kd.R_new' ho0 (Kd.R_lt (by (with_reducible repeat (first | apply Kd.R_alloc | apply Kd.R_drewN | apply Kd.R_drew)); exact HO_9.out))) (Kd.R_lt (by (with_reducible repeat (first | apply Kd.R_alloc | apply Kd.R_drewN | apply Kd.R_drew)); exact HO293.out))) (below_size (by repeat (first | (with_reducible first | exact HB.out | apply below_alloc | apply pw_below_drewN | apply below_drew1 | refine below_set ?_ GE282.out) | exact HB.out)))); have n3_ := Aside0.mk (blk_below (g := gb282) (o := .cells #[.int .i64 1, .int .i64 t281, .int .u8 ((32 + (Int.tmod a1 95)) % 256), .int .i64 3, .int .i64 3] 30 (0, 0)) (by (with_reducible repeat (first | refine blk_drewN ?_ _ | refine blk_drew ?_ | refine blk_alloc ?_ _)); exact BK282.out) hb); have n4_ := Aside0.mk (below_step (by repeat (first | (with_reducible first | exact HB.out | apply below_alloc | apply pw_below_drewN | apply below_drew1 | refine below_set ?_ GE282.out) | exact HB.out)) hb); clear HO_9; clear HO293; clear BK282; clear HB; have HO_9 := n0_; have HO293 := n1_; have HO297 := n2_; have BK282 := n3_; have HB := n4_; clear n0_ n1_ n2_ n3_ n4_; (try clear hb); (try clear hb2); (try clear hk); (try clear hi); (try clear ho0); obtain ⟨Ao48, co48, eo48⟩ := Kd.R_slice HO297.out; subst eo48; have p299 : 0 ≤ (t281 : Int) := of_decide_eq_true (by first | (with_reducible assumption) | assumption); have q299 : t281 < (t295.length : Int) := of_decide_eq_true (by first | (with_reducible assumption) | assumption); obtain ⟨ad299, e299, hx299_0, hx299_1, hx299_2⟩ := at_T24 (Kd.R_reads' HO297.out).2.2 t281 p299 q299; cases e299; replace p299 := eq_true p299; replace q299 := eq_true q299))
                                    go_ret
                                    exact ⟨by first | rfl | (simp [errW_none, errW_some] <;> rfl) | (simp [*, errW_none, errW_some] <;> rfl), by repeat (first | (with_reducible first | exact HB.out | apply below_alloc | apply pw_below_drewN | apply below_drew1 | refine below_set ?_ GE282.out) | exact HB.out)⟩
                                · rw [if_neg c35] at H
                                  exact absurd H (by simp)
                              · rw [if_neg c34] at H
                                exact absurd H (by simp)
                            · rw [if_neg c33] at H
                              have c33b0 : ((t295.length : Int) == 4096) = false := beq_eq_false_iff_ne.mpr c33
                              have c33b1 : ((t295.length : Int) != 4096) = true := bne_iff_ne.mpr c33
                              obtain rfl := Option.some.inj H
                              obtain ⟨Ao49, co49, eo49⟩ := Kd.R_slice HO_9.out
                              subst eo49
                              go_wp2_with (first | ((with_reducible refine gate_callee (f := 25) rfl ?_); refine goesL_ (some 65) rfl rfl Try.func25 (by kernel_rfl) rfl #[.slice Ao49 t287.length co49, .agg #[.int .i64 2, .int .i64 4095, .int .u8 0, .int .i64 3, .int .i64 5]] rfl (by (try simp only [List.map_toArray, List.map_cons, List.map_nil]); first | done | rfl | (simp only [List.length_drop, List.length_take]; rfl)) ?_; (with_reducible refine (doc_Apply.calls kj22 _ _ t287 2 4095 0 3 5 t291 t294 _ ?side1 ?side2 A28.out).mono ?_); (case side1 => repeat (first | exact (Kd.R_reads' HO_9.out).2.2 | (with_reducible refine Kd.C_alloc ?_ _) | (with_reducible refine Kd.C_drewN ?_ _) | (with_reducible refine Kd.C_drew ?_))); (case side2 => exact (Kd.R_reads' HO_9.out).2.1); rintro e w50 ⟨v292, rfl, ho0, hb⟩; refine ⟨_, rfl, ?_⟩; have n0_ := Aside0.mk (Kd.R_elder' (by (with_reducible repeat (first | apply Kd.R_alloc | apply Kd.R_drewN | apply Kd.R_drew)); exact HO_9.out) (Kd.R_base ho0) hb); have n1_ := Aside0.mk (Kd.R_lower (Kd.R_new' ho0 (Kd.R_lt (by (with_reducible repeat (first | apply Kd.R_alloc | apply Kd.R_drewN | apply Kd.R_drew)); exact HO_9.out))) (below_size (by repeat (first | (with_reducible first | exact HB.out | apply below_alloc | apply pw_below_drewN | apply below_drew1 | refine below_set ?_ GE282.out) | exact HB.out)))); have n2_ := Aside0.mk (blk_below (g := gb282) (o := .cells #[.int .i64 1, .int .i64 t281, .int .u8 ((32 + (Int.tmod a1 95)) % 256), .int .i64 3, .int .i64 3] 30 (0, 0)) (by (with_reducible repeat (first | refine blk_drewN ?_ _ | refine blk_drew ?_ | refine blk_alloc ?_ _)); exact BK282.out) hb); have n3_ := Aside0.mk (below_step (by repeat (first | (with_reducible first | exact HB.out | apply below_alloc | apply pw_below_drewN | apply below_drew1 | refine below_set ?_ GE282.out) | exact HB.out)) hb); clear HO_9; clear BK282; clear HB; have HO_9 := n0_; have HO293 := n1_; have BK282 := n2_; have HB := n3_; clear n0_ n1_ n2_ n3_; (try clear hb); (try clear hb2); (try clear hk); (try clear hi); (try clear ho0); obtain ⟨Ao51, co51, eo51⟩ := Kd.R_slice HO293.out; subst eo51; have hcz52_0 : w50.cell? ⟨gb282, 0, none⟩ = some (.int .i64 1) := (blk_cell BK282.out 0).trans rfl; have hcz52_1 : w50.cell? ⟨gb282, 1, none⟩ = some (.int .i64 t281) := (blk_cell BK282.out 1).trans rfl; have hcz52_2 : w50.cell? ⟨gb282, 2, none⟩ = some (.int .u8 ((32 + (Int.tmod a1 95)) % 256)) := (blk_cell BK282.out 2).trans rfl; have hcz52_3 : w50.cell? ⟨gb282, 3, none⟩ = some (.int .i64 3) := (blk_cell BK282.out 3).trans rfl; have hcz52_4 : w50.cell? ⟨gb282, 4, none⟩ = some (.int .i64 3) := (blk_cell BK282.out 4).trans rfl; have hfz52_0 := blk_frozen BK282.out 0; have hfz52_1 := blk_frozen BK282.out 1; have hfz52_2 := blk_frozen BK282.out 2; have hfz52_3 := blk_frozen BK282.out 3; have hfz52_4 := blk_frozen BK282.out 4) | ((with_reducible refine gate_callee (f := 25) rfl ?_); refine goesL_ (some 78) rfl rfl Try.func25 (by kernel_rfl) rfl #[.slice Ao49 t287.length co49, .agg #[.int .i64 1, .int .i64 t281, .int .u8 ((32 + (Int.tmod a1 95)) % 256), .int .i64 3, .int .i64 3]] rfl (by (try simp only [List.map_toArray, List.map_cons, List.map_nil]); first | done | rfl | (simp only [List.length_drop, List.length_take]; rfl)) ?_; (with_reducible refine (doc_Apply.calls kj22 _ _ t287 1 t281 ((32 + (Int.tmod a1 95)) % 256) 3 3 t295 t298 _ ?side1 ?side2 A31.out).mono ?_); (case side1 => repeat (first | exact (Kd.R_reads' HO_9.out).2.2 | (with_reducible refine Kd.C_alloc ?_ _) | (with_reducible refine Kd.C_drewN ?_ _) | (with_reducible refine Kd.C_drew ?_))); (case side2 => exact (Kd.R_reads' HO_9.out).2.1); rintro e w53 ⟨v296, rfl, ho0, hb⟩; refine ⟨_, rfl, ?_⟩; have n0_ := Aside0.mk (Kd.R_elder' (by (with_reducible repeat (first | apply Kd.R_alloc | apply Kd.R_drewN | apply Kd.R_drew)); exact HO_9.out) (Kd.R_base ho0) hb); have n1_ := Aside0.mk (Kd.R_elder' (by (with_reducible repeat (first | apply Kd.R_alloc | apply Kd.R_drewN | apply Kd.R_drew)); exact HO293.out) (Kd.R_base ho0) hb); have n2_ := Aside0.mk (Kd.R_lower (Kd.R_new' (Kd.R_new' ho0 (Kd.R_lt (by (with_reducible repeat (first | apply Kd.R_alloc | apply Kd.R_drewN | apply Kd.R_drew)); exact HO_9.out))) (Kd.R_lt (by (with_reducible repeat (first | apply Kd.R_alloc | apply Kd.R_drewN | apply Kd.R_drew)); exact HO293.out))) (below_size (by repeat (first | (with_reducible first | exact HB.out | apply below_alloc | apply pw_below_drewN | apply below_drew1 | refine below_set ?_ GE282.out) | exact HB.out)))); have n3_ := Aside0.mk (blk_below (g := gb282) (o := .cells #[.int .i64 1, .int .i64 t281, .int .u8 ((32 + (Int.tmod a1 95)) % 256), .int .i64 3, .int .i64 3] 30 (0, 0)) (by (with_reducible repeat (first | refine blk_drewN ?_ _ | refine blk_drew ?_ | refine blk_alloc ?_ _)); exact BK282.out) hb); have n4_ := Aside0.mk (below_step (by repeat (first | (with_reducible first | exact HB.out | apply below_alloc | apply pw_below_drewN | apply below_drew1 | refine below_set ?_ GE282.out) | exact HB.out)) hb); clear HO_9; clear HO293; clear BK282; clear HB; have HO_9 := n0_; have HO293 := n1_; have HO297 := n2_; have BK282 := n3_; have HB := n4_; clear n0_ n1_ n2_ n3_ n4_; (try clear hb); (try clear hb2); (try clear hk); (try clear hi); (try clear ho0); obtain ⟨Ao54, co54, eo54⟩ := Kd.R_slice HO297.out; subst eo54))
                              go_ret
                              exact ⟨by first | rfl | (simp [errW_none, errW_some] <;> rfl) | (simp [*, errW_none, errW_some] <;> rfl), by repeat (first | (with_reducible first | exact HB.out | apply below_alloc | apply pw_below_drewN | apply below_drew1 | refine below_set ?_ GE282.out) | exact HB.out)⟩
                          · rw [if_neg c32] at H
                            have c32b0 : (t298 == 0) = false := beq_eq_false_iff_ne.mpr c32
                            have c32b1 : (t298 != 0) = true := bne_iff_ne.mpr c32
                            obtain rfl := Option.some.inj H
                            obtain ⟨Ao55, co55, eo55⟩ := Kd.R_slice HO_9.out
                            subst eo55
                            go_wp2_with (first | ((with_reducible refine gate_callee (f := 25) rfl ?_); refine goesL_ (some 65) rfl rfl Try.func25 (by kernel_rfl) rfl #[.slice Ao55 t287.length co55, .agg #[.int .i64 2, .int .i64 4095, .int .u8 0, .int .i64 3, .int .i64 5]] rfl (by (try simp only [List.map_toArray, List.map_cons, List.map_nil]); first | done | rfl | (simp only [List.length_drop, List.length_take]; rfl)) ?_; (with_reducible refine (doc_Apply.calls kj22 _ _ t287 2 4095 0 3 5 t291 t294 _ ?side1 ?side2 A28.out).mono ?_); (case side1 => repeat (first | exact (Kd.R_reads' HO_9.out).2.2 | (with_reducible refine Kd.C_alloc ?_ _) | (with_reducible refine Kd.C_drewN ?_ _) | (with_reducible refine Kd.C_drew ?_))); (case side2 => exact (Kd.R_reads' HO_9.out).2.1); rintro e w56 ⟨v292, rfl, ho0, hb⟩; refine ⟨_, rfl, ?_⟩; have n0_ := Aside0.mk (Kd.R_elder' (by (with_reducible repeat (first | apply Kd.R_alloc | apply Kd.R_drewN | apply Kd.R_drew)); exact HO_9.out) (Kd.R_base ho0) hb); have n1_ := Aside0.mk (Kd.R_lower (Kd.R_new' ho0 (Kd.R_lt (by (with_reducible repeat (first | apply Kd.R_alloc | apply Kd.R_drewN | apply Kd.R_drew)); exact HO_9.out))) (below_size (by repeat (first | (with_reducible first | exact HB.out | apply below_alloc | apply pw_below_drewN | apply below_drew1 | refine below_set ?_ GE282.out) | exact HB.out)))); have n2_ := Aside0.mk (blk_below (g := gb282) (o := .cells #[.int .i64 1, .int .i64 t281, .int .u8 ((32 + (Int.tmod a1 95)) % 256), .int .i64 3, .int .i64 3] 30 (0, 0)) (by (with_reducible repeat (first | refine blk_drewN ?_ _ | refine blk_drew ?_ | refine blk_alloc ?_ _)); exact BK282.out) hb); have n3_ := Aside0.mk (below_step (by repeat (first | (with_reducible first | exact HB.out | apply below_alloc | apply pw_below_drewN | apply below_drew1 | refine below_set ?_ GE282.out) | exact HB.out)) hb); clear HO_9; clear BK282; clear HB; have HO_9 := n0_; have HO293 := n1_; have BK282 := n2_; have HB := n3_; clear n0_ n1_ n2_ n3_; (try clear hb); (try clear hb2); (try clear hk); (try clear hi); (try clear ho0); obtain ⟨Ao57, co57, eo57⟩ := Kd.R_slice HO293.out; subst eo57; have hcz58_0 : w56.cell? ⟨gb282, 0, none⟩ = some (.int .i64 1) := (blk_cell BK282.out 0).trans rfl; have hcz58_1 : w56.cell? ⟨gb282, 1, none⟩ = some (.int .i64 t281) := (blk_cell BK282.out 1).trans rfl; have hcz58_2 : w56.cell? ⟨gb282, 2, none⟩ = some (.int .u8 ((32 + (Int.tmod a1 95)) % 256)) := (blk_cell BK282.out 2).trans rfl; have hcz58_3 : w56.cell? ⟨gb282, 3, none⟩ = some (.int .i64 3) := (blk_cell BK282.out 3).trans rfl; have hcz58_4 : w56.cell? ⟨gb282, 4, none⟩ = some (.int .i64 3) := (blk_cell BK282.out 4).trans rfl; have hfz58_0 := blk_frozen BK282.out 0; have hfz58_1 := blk_frozen BK282.out 1; have hfz58_2 := blk_frozen BK282.out 2; have hfz58_3 := blk_frozen BK282.out 3; have hfz58_4 := blk_frozen BK282.out 4) | ((with_reducible refine gate_callee (f := 25) rfl ?_); refine goesL_ (some 78) rfl rfl Try.func25 (by kernel_rfl) rfl #[.slice Ao55 t287.length co55, .agg #[.int .i64 1, .int .i64 t281, .int .u8 ((32 + (Int.tmod a1 95)) % 256), .int .i64 3, .int .i64 3]] rfl (by (try simp only [List.map_toArray, List.map_cons, List.map_nil]); first | done | rfl | (simp only [List.length_drop, List.length_take]; rfl)) ?_; (with_reducible refine (doc_Apply.calls kj22 _ _ t287 1 t281 ((32 + (Int.tmod a1 95)) % 256) 3 3 t295 t298 _ ?side1 ?side2 A31.out).mono ?_); (case side1 => repeat (first | exact (Kd.R_reads' HO_9.out).2.2 | (with_reducible refine Kd.C_alloc ?_ _) | (with_reducible refine Kd.C_drewN ?_ _) | (with_reducible refine Kd.C_drew ?_))); (case side2 => exact (Kd.R_reads' HO_9.out).2.1); rintro e w59 ⟨v296, rfl, ho0, hb⟩; refine ⟨_, rfl, ?_⟩; have n0_ := Aside0.mk (Kd.R_elder' (by (with_reducible repeat (first | apply Kd.R_alloc | apply Kd.R_drewN | apply Kd.R_drew)); exact HO_9.out) (Kd.R_base ho0) hb); have n1_ := Aside0.mk (Kd.R_elder' (by (with_reducible repeat (first | apply Kd.R_alloc | apply Kd.R_drewN | apply Kd.R_drew)); exact HO293.out) (Kd.R_base ho0) hb); have n2_ := Aside0.mk (Kd.R_lower (Kd.R_new' (Kd.R_new' ho0 (Kd.R_lt (by (with_reducible repeat (first | apply Kd.R_alloc | apply Kd.R_drewN | apply Kd.R_drew)); exact HO_9.out))) (Kd.R_lt (by (with_reducible repeat (first | apply Kd.R_alloc | apply Kd.R_drewN | apply Kd.R_drew)); exact HO293.out))) (below_size (by repeat (first | (with_reducible first | exact HB.out | apply below_alloc | apply pw_below_drewN | apply below_drew1 | refine below_set ?_ GE282.out) | exact HB.out)))); have n3_ := Aside0.mk (blk_below (g := gb282) (o := .cells #[.int .i64 1, .int .i64 t281, .int .u8 ((32 + (Int.tmod a1 95)) % 256), .int .i64 3, .int .i64 3] 30 (0, 0)) (by (with_reducible repeat (first | refine blk_drewN ?_ _ | refine blk_drew ?_ | refine blk_alloc ?_ _)); exact BK282.out) hb); have n4_ := Aside0.mk (below_step (by repeat (first | (with_reducible first | exact HB.out | apply below_alloc | apply pw_below_drewN | apply below_drew1 | refine below_set ?_ GE282.out) | exact HB.out)) hb); clear HO_9; clear HO293; clear BK282; clear HB; have HO_9 := n0_; have HO293 := n1_; have HO297 := n2_; have BK282 := n3_; have HB := n4_; clear n0_ n1_ n2_ n3_ n4_; (try clear hb); (try clear hb2); (try clear hk); (try clear hi); (try clear ho0)))
                            go_ret
                            exact ⟨by first | rfl | (simp [errW_none, errW_some] <;> rfl) | (simp [*, errW_none, errW_some] <;> rfl), by repeat (first | (with_reducible first | exact HB.out | apply below_alloc | apply pw_below_drewN | apply below_drew1 | refine below_set ?_ GE282.out) | exact HB.out)⟩
                        · rw [if_neg c30] at H
                          have c30b0 : ((t291.length : Int) == 0) = false := beq_eq_false_iff_ne.mpr c30
                          have c30b1 : ((t291.length : Int) != 0) = true := bne_iff_ne.mpr c30
                          have c30b2 : ¬ (t291 = []) := fun h_ => c30 (by rw [h_]; rfl)
                          obtain rfl := Option.some.inj H
                          obtain ⟨Ao60, co60, eo60⟩ := Kd.R_slice HO_9.out
                          subst eo60
                          go_wp2_with (first | ((with_reducible refine gate_callee (f := 25) rfl ?_); refine goesL_ (some 65) rfl rfl Try.func25 (by kernel_rfl) rfl #[.slice Ao60 t287.length co60, .agg #[.int .i64 2, .int .i64 4095, .int .u8 0, .int .i64 3, .int .i64 5]] rfl (by (try simp only [List.map_toArray, List.map_cons, List.map_nil]); first | done | rfl | (simp only [List.length_drop, List.length_take]; rfl)) ?_; (with_reducible refine (doc_Apply.calls kj22 _ _ t287 2 4095 0 3 5 t291 t294 _ ?side1 ?side2 A28.out).mono ?_); (case side1 => repeat (first | exact (Kd.R_reads' HO_9.out).2.2 | (with_reducible refine Kd.C_alloc ?_ _) | (with_reducible refine Kd.C_drewN ?_ _) | (with_reducible refine Kd.C_drew ?_))); (case side2 => exact (Kd.R_reads' HO_9.out).2.1); rintro e w61 ⟨v292, rfl, ho0, hb⟩; refine ⟨_, rfl, ?_⟩; have n0_ := Aside0.mk (Kd.R_elder' (by (with_reducible repeat (first | apply Kd.R_alloc | apply Kd.R_drewN | apply Kd.R_drew)); exact HO_9.out) (Kd.R_base ho0) hb); have n1_ := Aside0.mk (Kd.R_lower (Kd.R_new' ho0 (Kd.R_lt (by (with_reducible repeat (first | apply Kd.R_alloc | apply Kd.R_drewN | apply Kd.R_drew)); exact HO_9.out))) (below_size (by repeat (first | (with_reducible first | exact HB.out | apply below_alloc | apply pw_below_drewN | apply below_drew1 | refine below_set ?_ GE282.out) | exact HB.out)))); have n2_ := Aside0.mk (blk_below (g := gb282) (o := .cells #[.int .i64 1, .int .i64 t281, .int .u8 ((32 + (Int.tmod a1 95)) % 256), .int .i64 3, .int .i64 3] 30 (0, 0)) (by (with_reducible repeat (first | refine blk_drewN ?_ _ | refine blk_drew ?_ | refine blk_alloc ?_ _)); exact BK282.out) hb); have n3_ := Aside0.mk (below_step (by repeat (first | (with_reducible first | exact HB.out | apply below_alloc | apply pw_below_drewN | apply below_drew1 | refine below_set ?_ GE282.out) | exact HB.out)) hb); clear HO_9; clear BK282; clear HB; have HO_9 := n0_; have HO293 := n1_; have BK282 := n2_; have HB := n3_; clear n0_ n1_ n2_ n3_; (try clear hb); (try clear hb2); (try clear hk); (try clear hi); (try clear ho0); obtain ⟨Ao62, co62, eo62⟩ := Kd.R_slice HO293.out; subst eo62))
                          go_ret
                          exact ⟨by first | rfl | (simp [errW_none, errW_some] <;> rfl) | (simp [*, errW_none, errW_some] <;> rfl), by repeat (first | (with_reducible first | exact HB.out | apply below_alloc | apply pw_below_drewN | apply below_drew1 | refine below_set ?_ GE282.out) | exact HB.out)⟩
                      · rw [if_neg c29] at H
                        have c29b0 : (t294 == 43) = false := beq_eq_false_iff_ne.mpr c29
                        have c29b1 : (t294 != 43) = true := bne_iff_ne.mpr c29
                        obtain rfl := Option.some.inj H
                        obtain ⟨Ao63, co63, eo63⟩ := Kd.R_slice HO_9.out
                        subst eo63
                        go_wp2_with (first | ((with_reducible refine gate_callee (f := 25) rfl ?_); refine goesL_ (some 65) rfl rfl Try.func25 (by kernel_rfl) rfl #[.slice Ao63 t287.length co63, .agg #[.int .i64 2, .int .i64 4095, .int .u8 0, .int .i64 3, .int .i64 5]] rfl (by (try simp only [List.map_toArray, List.map_cons, List.map_nil]); first | done | rfl | (simp only [List.length_drop, List.length_take]; rfl)) ?_; (with_reducible refine (doc_Apply.calls kj22 _ _ t287 2 4095 0 3 5 t291 t294 _ ?side1 ?side2 A28.out).mono ?_); (case side1 => repeat (first | exact (Kd.R_reads' HO_9.out).2.2 | (with_reducible refine Kd.C_alloc ?_ _) | (with_reducible refine Kd.C_drewN ?_ _) | (with_reducible refine Kd.C_drew ?_))); (case side2 => exact (Kd.R_reads' HO_9.out).2.1); rintro e w64 ⟨v292, rfl, ho0, hb⟩; refine ⟨_, rfl, ?_⟩; have n0_ := Aside0.mk (Kd.R_elder' (by (with_reducible repeat (first | apply Kd.R_alloc | apply Kd.R_drewN | apply Kd.R_drew)); exact HO_9.out) (Kd.R_base ho0) hb); have n1_ := Aside0.mk (Kd.R_lower (Kd.R_new' ho0 (Kd.R_lt (by (with_reducible repeat (first | apply Kd.R_alloc | apply Kd.R_drewN | apply Kd.R_drew)); exact HO_9.out))) (below_size (by repeat (first | (with_reducible first | exact HB.out | apply below_alloc | apply pw_below_drewN | apply below_drew1 | refine below_set ?_ GE282.out) | exact HB.out)))); have n2_ := Aside0.mk (blk_below (g := gb282) (o := .cells #[.int .i64 1, .int .i64 t281, .int .u8 ((32 + (Int.tmod a1 95)) % 256), .int .i64 3, .int .i64 3] 30 (0, 0)) (by (with_reducible repeat (first | refine blk_drewN ?_ _ | refine blk_drew ?_ | refine blk_alloc ?_ _)); exact BK282.out) hb); have n3_ := Aside0.mk (below_step (by repeat (first | (with_reducible first | exact HB.out | apply below_alloc | apply pw_below_drewN | apply below_drew1 | refine below_set ?_ GE282.out) | exact HB.out)) hb); clear HO_9; clear BK282; clear HB; have HO_9 := n0_; have HO293 := n1_; have BK282 := n2_; have HB := n3_; clear n0_ n1_ n2_ n3_; (try clear hb); (try clear hb2); (try clear hk); (try clear hi); (try clear ho0)))
                        go_ret
                        exact ⟨by first | rfl | (simp [errW_none, errW_some] <;> rfl) | (simp [*, errW_none, errW_some] <;> rfl), by repeat (first | (with_reducible first | exact HB.out | apply below_alloc | apply pw_below_drewN | apply below_drew1 | refine below_set ?_ GE282.out) | exact HB.out)⟩
  · rw [if_neg c3] at H
    exact absurd H (by simp)

end Go.Proofs.Ytjdhoipaanlipaa.Q
