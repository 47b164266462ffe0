/- Go functions of the seat, each as a Lean function that tells its answer, and the proof that the call gives it. Condition: the arguments are read as lists. Laid by a program of this session. -/
import Derived.Test.YtjnciljimacblaaQx0
import Derived.Test.YtjnciljimacblaaQx1
import Derived.Test.YtjnciljimacblaaQx4
import Derived.Test.YtjnciljimacblaaQx7
import Derived.Test.YtjnciljimacblaaQx8
import Derived.Test.YtjnciljimacblaaQx12
import Derived.Test.YtjnciljimacblaaQx13
namespace Go.Proofs.Ytjnciljimacblaa.Q
open Go.RowKit Go.Proofs.YtjnciljimacblaaW.PrintWords Go.Proofs.YtjnciljimacblaaW.PrintLast Go.Proofs.YtjnciljimacblaaW.PrintMore
attribute [local go_sem] max2_int min2_int max_two min_two max_three min_three max_four min_four   -- for this text's walks alone
set_option linter.unusedVariables false
set_option linter.unusedSimpArgs false

/-! ### jotterlaw17_DiffLeast: function 9 -/
mutual
def jotterlaw17_DiffLeast.l0 : Nat → ByteArray → List (S56) → List (S83) → Int → Int → Option (Bool)
  | 0, _, _, _, _, _ => none
  | k + 1, x0, x1, x5, x6, x7 => if x7 < (x1.length : Int) then (jotterlaw17_DiffLeast.j1 k x0 x1 x5 x6 x7 (decide (x7 < 100))) else (jotterlaw17_DiffLeast.j1 k x0 x1 x5 x6 x7 false)
def jotterlaw17_DiffLeast.j1 : Nat → ByteArray → List (S56) → List (S83) → Int → Int → Bool → Option (Bool)
  | 0, _, _, _, _, _, _ => none
  | k + 1, x0, x1, x5, x6, x7, x26 => if x26 = true then (if 0 ≤ x7 then (if x7 < (x1.length : Int) then ((jotterlaw17_into.f ((rd_T56 x1 x7).f1) (wrap64 ((x5.length : Int) + 1))).bind fun t191 => (if (rd_T56 x1 x7).f0 = true then (jotterlaw17_DiffLeast.j2 k x0 x1 x5 x6 x7 (decide ((x5.length : Int) > 0)) 1 t191 ((32 + (Int.tmod ((rd_T56 x1 x7).f2) 95)) % 256) 64 (wrap64 (1 + (Int.tmod x7 64)))) else (jotterlaw17_DiffLeast.j2 k x0 x1 x5 x6 x7 false 1 t191 ((32 + (Int.tmod ((rd_T56 x1 x7).f2) 95)) % 256) 64 (wrap64 (1 + (Int.tmod x7 64)))))) else (none)) else (none)) else ((doc_Text.f k x5).bind fun t185 => ((diff_Distance.f x0 t185).bind fun bt186 => (if x0.size + 1 ≤ 9223372036854775807 then ((diff_Distance.f x0 (x0 ++ (⟨#[120]⟩ : ByteArray))).bind fun bt188 => (if bt186.2 = 0 then (if bt188.2 = 0 then (if bt188.1 = 1 then (if bt186.1 ≥ 0 then (if bt186.1 ≤ x6 then (some ((Int.tmod (wrap64 (x6 - bt186.1)) 2) == 0)) else (some false)) else (some false)) else (some false)) else (some false)) else (some false))) else (none))))
def jotterlaw17_DiffLeast.j2 : Nat → ByteArray → List (S56) → List (S83) → Int → Int → Bool → Int → Int → Int → Int → Int → Option (Bool)
  | 0, _, _, _, _, _, _, _, _, _, _, _ => none
  | k + 1, x0, x1, x5, x6, x7, x58, x194000, x194001, x194002, x194003, x194004 => if x58 = true then (if 0 ≤ x7 then (if x7 < (x1.length : Int) then ((jotterlaw17_into.f ((rd_T56 x1 x7).f1) (x5.length : Int)).bind fun t196 => ((doc_Apply.f k x5 2 t196 0 x194003 x194004).bind fun bt197 => (if bt197.2 = 0 then (jotterlaw17_DiffLeast.l0 k x0 x1 bt197.1 (wrap64 (x6 + 1)) (wrap64 (x7 + 1))) else (some false)))) else (none)) else (none)) else ((doc_Apply.f k x5 x194000 x194001 x194002 x194003 x194004).bind fun bt201 => (if bt201.2 = 0 then (jotterlaw17_DiffLeast.l0 k x0 x1 bt201.1 (wrap64 (x6 + 1)) (wrap64 (x7 + 1))) else (some false)))
end
def jotterlaw17_DiffLeast.f (k : Nat) (a0 : ByteArray) (l1 : List (S56)) : Option (Bool) := (jotterlaw17_plain.f a0 400).bind fun t181 => ((jotterlaw17_text.f k t181).bind fun t182 => (jotterlaw17_DiffLeast.l0 k t181 l1 t182 0 0))
theorem jotterlaw17_DiffLeast.mono_l : ∀ k, (∀ y0 y1 y2 y3 y4, LeO (jotterlaw17_DiffLeast.l0 k y0 y1 y2 y3 y4) (jotterlaw17_DiffLeast.l0 (k + 1) y0 y1 y2 y3 y4)) ∧ (∀ y0 y1 y2 y3 y4 y5, LeO (jotterlaw17_DiffLeast.j1 k y0 y1 y2 y3 y4 y5) (jotterlaw17_DiffLeast.j1 (k + 1) y0 y1 y2 y3 y4 y5)) ∧ (∀ y0 y1 y2 y3 y4 y5 y6 y7 y8 y9 y10, LeO (jotterlaw17_DiffLeast.j2 k y0 y1 y2 y3 y4 y5 y6 y7 y8 y9 y10) (jotterlaw17_DiffLeast.j2 (k + 1) y0 y1 y2 y3 y4 y5 y6 y7 y8 y9 y10))
  | 0 => ⟨fun _ _ _ _ _ r h => by simp [jotterlaw17_DiffLeast.l0] at h, fun _ _ _ _ _ _ r h => by simp [jotterlaw17_DiffLeast.j1] at h, fun _ _ _ _ _ _ _ _ _ _ _ r h => by simp [jotterlaw17_DiffLeast.j2] at h⟩
  | k + 1 => by
    obtain ⟨ih0, ih1, ih2⟩ := jotterlaw17_DiffLeast.mono_l k
    refine ⟨?_, ?_, ?_⟩
    · intro y0 y1 y2 y3 y4
      unfold jotterlaw17_DiffLeast.l0
      repeat' first
      | (with_reducible exact ih0 _ _ _ _ _)
      | (with_reducible exact ih1 _ _ _ _ _ _)
      | (with_reducible exact ih2 _ _ _ _ _ _ _ _ _ _ _)
      | (with_reducible exact doc_Apply.mono _ _ _ _ _ _ _)
      | (with_reducible exact doc_Text.mono _ _)
      | (with_reducible exact jotterlaw17_text.mono _ _)
      | (with_reducible exact LeO.refl _)
      | (with_reducible exact LeO.none _)
      | (with_reducible refine LeO.ite ?_ ?_)
      | (with_reducible refine LeO.bind ?_ (fun _ => ?_))
      | exact ih0 _ _ _ _ _
      | exact ih1 _ _ _ _ _ _
      | exact ih2 _ _ _ _ _ _ _ _ _ _ _
      | exact doc_Apply.mono _ _ _ _ _ _ _
      | exact doc_Text.mono _ _
      | exact jotterlaw17_text.mono _ _
      | exact LeO.none _
      | refine LeO.ite ?_ ?_
      | refine LeO.bind ?_ (fun _ => ?_)
    · intro y0 y1 y2 y3 y4 y5
      unfold jotterlaw17_DiffLeast.j1
      repeat' first
      | (with_reducible exact ih0 _ _ _ _ _)
      | (with_reducible exact ih1 _ _ _ _ _ _)
      | (with_reducible exact ih2 _ _ _ _ _ _ _ _ _ _ _)
      | (with_reducible exact doc_Apply.mono _ _ _ _ _ _ _)
      | (with_reducible exact doc_Text.mono _ _)
      | (with_reducible exact jotterlaw17_text.mono _ _)
      | (with_reducible exact LeO.refl _)
      | (with_reducible exact LeO.none _)
      | (with_reducible refine LeO.ite ?_ ?_)
      | (with_reducible refine LeO.bind ?_ (fun _ => ?_))
      | exact ih0 _ _ _ _ _
      | exact ih1 _ _ _ _ _ _
      | exact ih2 _ _ _ _ _ _ _ _ _ _ _
      | exact doc_Apply.mono _ _ _ _ _ _ _
      | exact doc_Text.mono _ _
      | exact jotterlaw17_text.mono _ _
      | exact LeO.none _
      | refine LeO.ite ?_ ?_
      | refine LeO.bind ?_ (fun _ => ?_)
    · intro y0 y1 y2 y3 y4 y5 y6 y7 y8 y9 y10
      unfold jotterlaw17_DiffLeast.j2
      repeat' first
      | (with_reducible exact ih0 _ _ _ _ _)
      | (with_reducible exact ih1 _ _ _ _ _ _)
      | (with_reducible exact ih2 _ _ _ _ _ _ _ _ _ _ _)
      | (with_reducible exact doc_Apply.mono _ _ _ _ _ _ _)
      | (with_reducible exact doc_Text.mono _ _)
      | (with_reducible exact jotterlaw17_text.mono _ _)
      | (with_reducible exact LeO.refl _)
      | (with_reducible exact LeO.none _)
      | (with_reducible refine LeO.ite ?_ ?_)
      | (with_reducible refine LeO.bind ?_ (fun _ => ?_))
      | exact ih0 _ _ _ _ _
      | exact ih1 _ _ _ _ _ _
      | exact ih2 _ _ _ _ _ _ _ _ _ _ _
      | exact doc_Apply.mono _ _ _ _ _ _ _
      | exact doc_Text.mono _ _
      | exact jotterlaw17_text.mono _ _
      | exact LeO.none _
      | refine LeO.ite ?_ ?_
      | refine LeO.bind ?_ (fun _ => ?_)
theorem jotterlaw17_DiffLeast.mono : ∀ a0 a1 k, LeO (jotterlaw17_DiffLeast.f k a0 a1) (jotterlaw17_DiffLeast.f (k + 1) a0 a1) := by
  intro a0 a1 k
  obtain ⟨ih0, ih1, ih2⟩ := jotterlaw17_DiffLeast.mono_l k
  unfold jotterlaw17_DiffLeast.f
  repeat' first
      | (with_reducible exact ih0 _ _ _ _ _)
      | (with_reducible exact ih1 _ _ _ _ _ _)
      | (with_reducible exact ih2 _ _ _ _ _ _ _ _ _ _ _)
      | (with_reducible exact doc_Apply.mono _ _ _ _ _ _ _)
      | (with_reducible exact doc_Text.mono _ _)
      | (with_reducible exact jotterlaw17_text.mono _ _)
      | (with_reducible exact LeO.refl _)
      | (with_reducible exact LeO.none _)
      | (with_reducible refine LeO.ite ?_ ?_)
      | (with_reducible refine LeO.bind ?_ (fun _ => ?_))
      | exact ih0 _ _ _ _ _
      | exact ih1 _ _ _ _ _ _
      | exact ih2 _ _ _ _ _ _ _ _ _ _ _
      | exact doc_Apply.mono _ _ _ _ _ _ _
      | exact doc_Text.mono _ _
      | exact jotterlaw17_text.mono _ _
      | exact LeO.none _
      | refine LeO.ite ?_ ?_
      | refine LeO.bind ?_ (fun _ => ?_)
def jotterlaw17_DiffLeast.T7 : Bool × List (List Nat × List Nat) := (true, [([], []), ([], []), ([0, 1], [0, 1]), ([2], [2]), ([3], [3]), ([], []), ([5], [5]), ([6], [6]), ([4, 7], [4, 7]), ([], []), ([], []), ([9, 10], [9, 10]), ([11], [11]), ([12], [12]), ([13], [13]), ([14], [14]), ([], []), ([16], [16]), ([17], [17]), ([8, 15, 18], [8, 15, 18]), ([], []), ([20, 19, 8, 0, 1, 2, 3, 4, 5, 6, 7, 8, 9, 10, 11, 12, 13, 14, 15, 16, 17, 18, 19, 20], [19, 20])])
def jotterlaw17_DiffLeast.B7 : List Nat := [0, 0, 3, 7, 15, 0, 32, 96, 255, 0, 0, 1536, 3584, 7680, 15872, 32256, 0, 65536, 196608, 524287, 0, 2097151]
theorem jotterlaw17_DiffLeast.tab7 : rtab .any (opsOf Try.f9 7) = jotterlaw17_DiffLeast.T7 := by kernel_rfl
theorem jotterlaw17_DiffLeast.bits7 : waitsOk jotterlaw17_DiffLeast.T7.2 jotterlaw17_DiffLeast.B7 = true := by kernel_rfl
set_option maxHeartbeats 8000000 in
set_option maxRecDepth 100000 in
theorem jotterlaw17_DiffLeast.calls (k : Nat) (a0 : ByteArray) (A1 : Option Addr) (c1 : Nat) (l1 : List (S56)) (r : Bool) (w : World) (hr1 : Kd.C k56 w A1 l1.length l1) (hc1 : l1.length ≤ c1) (h : jotterlaw17_DiffLeast.f k a0 l1 = some r) :
    Calls Try.prog 9 #[.string a0, .slice A1 l1.length c1] w fun e w' => e = .returned (.bool r) ∧ Below w.heap.size w w' := by
  have hu38 := Try.underlying38
  have HR1 := Aside0.mk hr1
  have HC1 := Aside0.mk hc1
  clear hr1 hc1
  have HB := Aside0.mk (Below.refl w.heap.size w)
  have H : ((jotterlaw17_plain.f a0 400).bind fun t181 => ((jotterlaw17_text.f k t181).bind fun t182 => (jotterlaw17_DiffLeast.l0 k t181 l1 t182 0 0))) = some r := h
  clear h
  replace H := Option.bind_eq_some_iff.mp H
  obtain ⟨t181, A30, H⟩ := H
  replace H : ((jotterlaw17_text.f k t181).bind fun t182 => (jotterlaw17_DiffLeast.l0 k t181 l1 t182 0 0)) = some r := H
  have A3 := Aside0.mk A30
  clear A30
  replace H := Option.bind_eq_some_iff.mp H
  obtain ⟨t182, A40, H⟩ := H
  replace H : (jotterlaw17_DiffLeast.l0 k t181 l1 t182 0 0) = some r := H
  have A4 := Aside0.mk A40
  clear A40
  have H' := Aside0.mk H
  clear H
  go_enter Try.func9, Try.ntmps9
  go_wp2_with (first | ((with_reducible refine gate_callee (f := 11) rfl ?_); refine goesL_ (some 16) rfl rfl Try.func11 (by kernel_rfl) rfl #[.string a0, .int .i64 400] rfl (by (try simp only [List.map_toArray, List.map_cons, List.map_nil]); first | done | rfl | (simp only [List.length_drop, List.length_take]; rfl)) ?_; (with_reducible refine (jotterlaw17_plain.calls a0 400 t181 _ A3.out).mono ?_); rintro e w5 ⟨rfl, hb⟩; refine ⟨_, rfl, ?_⟩; have n0_ := Aside0.mk (below_step (by repeat (first | (with_reducible first | exact HB.out | apply below_alloc | apply pw_below_drewN | apply below_drew1) | exact HB.out)) hb); clear HB; have HB := n0_; clear n0_; (try clear hb); (try clear hb2); (try clear hk); (try clear hi)) | ((with_reducible refine gate_callee (f := 24) rfl ?_); refine goesL_ (some 18) rfl rfl Try.func24 (by kernel_rfl) rfl #[.string t181] rfl (by (try simp only [List.map_toArray, List.map_cons, List.map_nil]); first | done | rfl | (simp only [List.length_drop, List.length_take]; rfl)) ?_; (with_reducible refine (jotterlaw17_text.calls k t181 t182 _ A4.out).mono ?_); rintro e w6 ⟨v183, rfl, ho0, hb⟩; refine ⟨_, rfl, ?_⟩; have n0_ := Aside0.mk (Kd.R_lower ho0 (below_size (by repeat (first | (with_reducible first | exact HB.out | apply below_alloc | apply pw_below_drewN | apply below_drew1) | exact HB.out)))); have n1_ := Aside0.mk (below_step (by repeat (first | (with_reducible first | exact HB.out | apply below_alloc | apply pw_below_drewN | apply below_drew1) | exact HB.out)) hb); clear HB; have HO184 := n0_; have HB := n1_; clear n0_ n1_; (try clear hb); (try clear hb2); (try clear hk); (try clear hi); (try clear ho0)))
  go_loopg [5, 6, 7] k (fun kq v5 v6 v7 w' => ∃ (x5_1 : List (S83)) (x6_1 : Int) (x7_1 : Int), v6 = .int .i64 x6_1 ∧ v7 = .int .i64 x7_1 ∧ Aside0 (jotterlaw17_DiffLeast.l0 kq t181 l1 x5_1 x6_1 x7_1 = some r) ∧ Aside0 (kq ≤ k) ∧ Aside0 (Kd.R k83 83 w' w.heap.size (fun _ => True) v5 x5_1) ∧ Aside0 (Below w.heap.size w w'))
  case atStart => exact ⟨(t182), (0), (0), (by first | rfl | (simp; done) | (simp [*]; done)), (by first | rfl | (simp; done) | (simp [*]; done)), H', ⟨Nat.le_refl _⟩, ⟨by (with_reducible repeat (first | apply Kd.R_alloc | apply Kd.R_drewN | apply Kd.R_drew)); exact HO184.out⟩, ⟨by repeat (first | (with_reducible first | exact HB.out | apply below_alloc | apply pw_below_drewN | apply below_drew1) | exact HB.out)⟩⟩
  case round =>
    clear H'
    try clear c1
    try clear c2
    try clear p2
    obtain ⟨x5_1, x6_1, x7_1, rfl, rfl, HA, HK1, HO_5, HB⟩ := hrel
    cases gk with
    | zero => exact absurd HA.out (by simp [jotterlaw17_DiffLeast.l0])
    | succ k1 =>
      have H := HA.out
      clear HA
      simp only [jotterlaw17_DiffLeast.l0] at H
      have HC7 := Aside0.mk H
      clear H
      go_upto_region 5 with (fail)
      go_cut [26] (fun v26 wc => ∃ (kq : Nat) (x26_6 : Bool), v26 = .bool x26_6 ∧ Aside0 (jotterlaw17_DiffLeast.j1 kq t181 l1 x5_1 x6_1 x7_1 x26_6 = some r) ∧ Aside0 (kq ≤ k1) ∧ Aside0 (Kd.R k83 83 wc w.heap.size (fun _ => True) u5 x5_1) ∧ Aside0 (Below w.heap.size w wc))
      case first =>
        have H := HC7.out
        clear HC7
        by_cases c8 : x7_1 < (l1.length : Int)
        · rw [if_pos c8] at H
          have c8b0 : decide (x7_1 < (l1.length : Int)) = true := decide_eq_true c8
          clear c8
          (first | rw [c8b0] | (simp only [i64_w, i32_w]; rw [c8b0]) | skip)
          have H' := Aside0.mk H
          clear H
          go_wp2
          go_meet
          case rel => exact ⟨_, (decide (x7_1 < 100)), (by first | rfl | (simp; done) | (simp [*]; done)), H', ⟨by have := HK1.out; first | omega | exact Nat.le_refl _⟩, ⟨by (with_reducible repeat (first | apply Kd.R_alloc | apply Kd.R_drewN | apply Kd.R_drew)); exact HO_5.out⟩, ⟨by repeat (first | (with_reducible first | exact HB.out | apply below_alloc | apply pw_below_drewN | apply below_drew1) | exact HB.out)⟩⟩
        · rw [if_neg c8] at H
          have c8b0 : decide (x7_1 < (l1.length : Int)) = false := decide_eq_false c8
          clear c8
          (first | rw [c8b0] | (simp only [i64_w, i32_w]; rw [c8b0]) | skip)
          have H' := Aside0.mk H
          clear H
          go_wp2
          go_meet
          case rel => exact ⟨_, (false), (by first | rfl | (simp; done) | (simp [*]; done)), H', ⟨by have := HK1.out; first | omega | exact Nat.le_refl _⟩, ⟨by (with_reducible repeat (first | apply Kd.R_alloc | apply Kd.R_drewN | apply Kd.R_drew)); exact HO_5.out⟩, ⟨by repeat (first | (with_reducible first | exact HB.out | apply below_alloc | apply pw_below_drewN | apply below_drew1) | exact HB.out)⟩⟩
      case rest =>
        clear HC7
        try clear c1
        try clear c2
        try clear p2
        try clear c8
        try clear c8b0
        try clear p2
        obtain ⟨kq, x26_6, rfl, HA, HJ6, HO_5, HB⟩ := hcut
        cases kq with
        | zero => exact absurd HA.out (by simp [jotterlaw17_DiffLeast.j1])
        | succ kj6 =>
          have H := HA.out
          clear HA
          simp only [jotterlaw17_DiffLeast.j1] at H
          by_cases c9 : x26_6 = true
          · subst c9
            have H1 : (if 0 ≤ x7_1 then (if x7_1 < (l1.length : Int) then ((jotterlaw17_into.f ((rd_T56 l1 x7_1).f1) (wrap64 ((x5_1.length : Int) + 1))).bind fun t191 => (if (rd_T56 l1 x7_1).f0 = true then (jotterlaw17_DiffLeast.j2 kj6 t181 l1 x5_1 x6_1 x7_1 (decide ((x5_1.length : Int) > 0)) 1 t191 ((32 + (Int.tmod ((rd_T56 l1 x7_1).f2) 95)) % 256) 64 (wrap64 (1 + (Int.tmod x7_1 64)))) else (jotterlaw17_DiffLeast.j2 kj6 t181 l1 x5_1 x6_1 x7_1 false 1 t191 ((32 + (Int.tmod ((rd_T56 l1 x7_1).f2) 95)) % 256) 64 (wrap64 (1 + (Int.tmod x7_1 64)))))) else (none)) else (none)) = some r := by rw [if_pos rfl] at H; exact H
            clear H
            have H := H1
            clear H1
            by_cases c10 : 0 ≤ x7_1
            · rw [if_pos c10] at H
              have c10b0 : decide (0 ≤ x7_1) = true := decide_eq_true c10
              clear c10
              by_cases c11 : x7_1 < (l1.length : Int)
              · rw [if_pos c11] at H
                have c11b0 : decide (x7_1 < (l1.length : Int)) = true := decide_eq_true c11
                clear c11
                replace H := Option.bind_eq_some_iff.mp H
                obtain ⟨t191, A120, H⟩ := H
                replace H : (if (rd_T56 l1 x7_1).f0 = true then (jotterlaw17_DiffLeast.j2 kj6 t181 l1 x5_1 x6_1 x7_1 (decide ((x5_1.length : Int) > 0)) 1 t191 ((32 + (Int.tmod ((rd_T56 l1 x7_1).f2) 95)) % 256) 64 (wrap64 (1 + (Int.tmod x7_1 64)))) else (jotterlaw17_DiffLeast.j2 kj6 t181 l1 x5_1 x6_1 x7_1 false 1 t191 ((32 + (Int.tmod ((rd_T56 l1 x7_1).f2) 95)) % 256) 64 (wrap64 (1 + (Int.tmod x7_1 64))))) = some r := H
                have A12 := Aside0.mk A120
                clear A120
                have HC13 := Aside0.mk H
                clear H
                try go_wp2
                have n0_ := Aside0.mk (Kd.R_drew HO_5.out)
                have n1_ := Aside0.mk (below_drew1 HB.out)
                clear HO_5
                clear HB
                have HO_5 := n0_
                have HB := n1_
                clear n0_ n1_
                have p190 : 0 ≤ (x7_1 : Int) := of_decide_eq_true (by first | (with_reducible assumption) | assumption)
                have q190 : x7_1 < (l1.length : Int) := of_decide_eq_true (by first | (with_reducible assumption) | assumption)
                obtain ⟨ad190, e190, hx190_0, hx190_1, hx190_2⟩ := at_T56 HR1.out x7_1 p190 q190
                have hw190_2 := hx190_2
                have hw190_1 := hx190_1
                have hw190_0 := hx190_0
                cases e190
                replace hx190_0 := (HB.out.cell (World.block_lt_of_cell? w _ hx190_0)).trans hx190_0
                replace hx190_1 := (HB.out.cell (World.block_lt_of_cell? w _ hx190_1)).trans hx190_1
                replace hx190_2 := (HB.out.cell (World.block_lt_of_cell? w _ hx190_2)).trans hx190_2
                replace p190 := eq_true p190
                replace q190 := eq_true q190
                obtain ⟨Ao15, co15, eo15⟩ := Kd.R_slice HO_5.out
                (first | subst eo15 | (injection eo15 with f1_ f2_ f3_; have f4_ := f1_.symm; have f5_ := f3_.symm; clear f1_ f2_ f3_; subst f4_; subst f5_))
                have p192 : 0 ≤ (x7_1 : Int) := of_decide_eq_true (by first | (with_reducible assumption) | assumption)
                have q192 : x7_1 < (l1.length : Int) := of_decide_eq_true (by first | (with_reducible assumption) | assumption)
                obtain ⟨ad192, e192, hx192_0, hx192_1, hx192_2⟩ := at_T56 HR1.out x7_1 p192 q192
                have hw192_2 := hx192_2
                have hw192_1 := hx192_1
                have hw192_0 := hx192_0
                obtain rfl : ad190 = ad192 := (by injection e192)
                replace hx192_0 := (HB.out.cell (World.block_lt_of_cell? w _ hx192_0)).trans hx192_0
                replace hx192_1 := (HB.out.cell (World.block_lt_of_cell? w _ hx192_1)).trans hx192_1
                replace hx192_2 := (HB.out.cell (World.block_lt_of_cell? w _ hx192_2)).trans hx192_2
                replace p192 := eq_true p192
                replace q192 := eq_true q192
                refine start_ (n := 22) (S := fun w' => w'.cell? (ad190.add ((x7_1).toNat * 3)) = some (.bool ((rd_T56 l1 x7_1).f0)) ∧ w'.cell? ⟨(ad190.add ((x7_1).toNat * 3)).block, (ad190.add ((x7_1).toNat * 3)).off + 1, none⟩ = some (.int .i64 ((rd_T56 l1 x7_1).f1)) ∧ w'.cell? ⟨(ad190.add ((x7_1).toNat * 3)).block, (ad190.add ((x7_1).toNat * 3)).off + 2, none⟩ = some (.int .u8 ((rd_T56 l1 x7_1).f2)) ∧ w'.cell? (ad190.add ((x7_1).toNat * 3)) = some (.bool ((rd_T56 l1 x7_1).f0)) ∧ w'.cell? ⟨(ad190.add ((x7_1).toNat * 3)).block, (ad190.add ((x7_1).toNat * 3)).off + 1, none⟩ = some (.int .i64 ((rd_T56 l1 x7_1).f1)) ∧ w'.cell? ⟨(ad190.add ((x7_1).toNat * 3)).block, (ad190.add ((x7_1).toNat * 3)).off + 2, none⟩ = some (.int .u8 ((rd_T56 l1 x7_1).f2))) (ds := []) #[false, false, false, false, false, false, false, false, false, false, false, false, false, false, false, false, false, false, false, false, false, false] (by kernel_rfl) rfl rfl ⟨((HB.out.cell (World.block_lt_of_cell? w _ hw190_0)).trans hw190_0), ((HB.out.cell (World.block_lt_of_cell? w _ hw190_1)).trans hw190_1), ((HB.out.cell (World.block_lt_of_cell? w _ hw190_2)).trans hw190_2), ((HB.out.cell (World.block_lt_of_cell? w _ hw192_0)).trans hw192_0), ((HB.out.cell (World.block_lt_of_cell? w _ hw192_1)).trans hw192_1), ((HB.out.cell (World.block_lt_of_cell? w _ hw192_2)).trans hw192_2)⟩ (fun hHeld => ?_); refine with_tabW jotterlaw17_DiffLeast.tab7 jotterlaw17_DiffLeast.bits7 (fun HT_ HW_ => ?_)
                generalize wc.drew = w14 at HO_5 HB hx190_0 hx190_1 hx190_2 hx192_0 hx192_1 hx192_2 hHeld ⊢
                refine pure_ (i := 0) (N := some 29) (v := ?_) (a' := ?_) #[true, false, false, false, false, false, false, false, false, false, false, false, false, false, false, false, false, false, false, false, false, false] rfl rfl (any_of HT_.out (by kernel_rfl)) (fun _ _ _ h => h) (Or.inl ⟨by rfl, ?_⟩) ?_ ?_
                rotate_left
                · intro w'
                  go_simp
                  with_reducible rfl
                rotate_left
                · simp only [Act.put, List.setIfInBounds_toArray, List.set_cons_zero, List.set_cons_succ, i64_w, i32_w]
                  rfl
                refine pure_ (i := 1) (N := some 30) (v := ?_) (a' := ?_) #[true, true, false, false, false, false, false, false, false, false, false, false, false, false, false, false, false, false, false, false, false, false] rfl rfl (any_of HT_.out (by kernel_rfl)) (fun _ _ _ h => h) (Or.inl ⟨by rfl, ?_⟩) ?_ ?_
                rotate_left
                · intro w'
                  go_simp
                  with_reducible rfl
                rotate_left
                · simp only [Act.put, List.setIfInBounds_toArray, List.set_cons_zero, List.set_cons_succ, i64_w, i32_w]
                  rfl
                refine pure_ (i := 2) (N := some 31) (v := ?_) (a' := ?_) #[true, true, true, false, false, false, false, false, false, false, false, false, false, false, false, false, false, false, false, false, false, false] rfl rfl (any_of HT_.out (by kernel_rfl)) (fun _ _ _ h => h) (Or.inl ⟨by rfl, ?_⟩) ?_ ?_
                rotate_left
                · intro w'
                  go_simp
                  with_reducible rfl
                rotate_left
                · simp only [Act.put, List.setIfInBounds_toArray, List.set_cons_zero, List.set_cons_succ, i64_w, i32_w]
                  rfl
                refine pure_ (i := 3) (N := some 32) (v := ?_) (a' := ?_) #[true, true, true, true, false, false, false, false, false, false, false, false, false, false, false, false, false, false, false, false, false, false] rfl rfl (any_of HT_.out (by kernel_rfl)) (fun _ _ _ h => h) (Or.inl ⟨by rfl, ?_⟩) ?_ ?_
                rotate_left
                · intro w'
                  go_simp
                  with_reducible rfl
                rotate_left
                · simp only [Act.put, List.setIfInBounds_toArray, List.set_cons_zero, List.set_cons_succ, i64_w, i32_w]
                  rfl
                refine pure_ (i := 5) (N := some 34) (v := ?_) (a' := ?_) #[true, true, true, true, false, true, false, false, false, false, false, false, false, false, false, false, false, false, false, false, false, false] rfl rfl (any_of HT_.out (by kernel_rfl)) (fun _ _ _ h => h) (Or.inl ⟨by rfl, ?_⟩) ?_ ?_
                rotate_left
                · intro w'
                  go_simp
                  with_reducible rfl
                rotate_left
                · simp only [Act.put, List.setIfInBounds_toArray, List.set_cons_zero, List.set_cons_succ, i64_w, i32_w]
                  rfl
                refine pure_ (i := 6) (N := some 35) (v := ?_) (a' := ?_) #[true, true, true, true, false, true, true, false, false, false, false, false, false, false, false, false, false, false, false, false, false, false] rfl rfl (any_of HT_.out (by kernel_rfl)) (fun _ _ _ h => h) (Or.inl ⟨by rfl, ?_⟩) ?_ ?_
                rotate_left
                · intro w'
                  go_simp
                  with_reducible rfl
                rotate_left
                · simp only [Act.put, List.setIfInBounds_toArray, List.set_cons_zero, List.set_cons_succ, i64_w, i32_w]
                  rfl
                refine pure_ (i := 7) (N := some 36) (v := ?_) (a' := ?_) #[true, true, true, true, false, true, true, true, false, false, false, false, false, false, false, false, false, false, false, false, false, false] rfl rfl (any_of HT_.out (by kernel_rfl)) (fun _ _ _ h => h) (Or.inl ⟨by rfl, ?_⟩) ?_ ?_
                rotate_left
                · intro w'
                  go_simp
                  with_reducible rfl
                rotate_left
                · simp only [Act.put, List.setIfInBounds_toArray, List.set_cons_zero, List.set_cons_succ, i64_w, i32_w]
                  rfl
                refine pure_ (i := 9) (N := some 38) (v := ?_) (a' := ?_) #[true, true, true, true, false, true, true, true, false, true, false, false, false, false, false, false, false, false, false, false, false, false] rfl rfl (any_of HT_.out (by kernel_rfl)) (fun _ _ _ h => h) (Or.inl ⟨by rfl, ?_⟩) ?_ ?_
                rotate_left
                · intro w'
                  go_simp
                  with_reducible rfl
                rotate_left
                · simp only [Act.put, List.setIfInBounds_toArray, List.set_cons_zero, List.set_cons_succ, i64_w, i32_w]
                  rfl
                refine pure_ (i := 10) (N := some 39) (v := ?_) (a' := ?_) #[true, true, true, true, false, true, true, true, false, true, true, false, false, false, false, false, false, false, false, false, false, false] rfl rfl (any_of HT_.out (by kernel_rfl)) (fun _ _ _ h => h) (Or.inl ⟨by rfl, ?_⟩) ?_ ?_
                rotate_left
                · intro w'
                  go_simp
                  with_reducible rfl
                rotate_left
                · simp only [Act.put, List.setIfInBounds_toArray, List.set_cons_zero, List.set_cons_succ, i64_w, i32_w]
                  rfl
                refine pure_ (i := 11) (N := some 40) (v := ?_) (a' := ?_) #[true, true, true, true, false, true, true, true, false, true, true, true, false, false, false, false, false, false, false, false, false, false] rfl rfl (any_of HT_.out (by kernel_rfl)) (fun _ _ _ h => h) (Or.inl ⟨by rfl, ?_⟩) ?_ ?_
                rotate_left
                · intro w'
                  go_simp
                  with_reducible rfl
                rotate_left
                · simp only [Act.put, List.setIfInBounds_toArray, List.set_cons_zero, List.set_cons_succ, i64_w, i32_w]
                  rfl
                refine pure_ (i := 12) (N := some 41) (v := ?_) (a' := ?_) #[true, true, true, true, false, true, true, true, false, true, true, true, true, false, false, false, false, false, false, false, false, false] rfl rfl (any_of HT_.out (by kernel_rfl)) (fun _ _ _ h => h) (Or.inl ⟨by rfl, ?_⟩) ?_ ?_
                rotate_left
                · intro w'
                  go_simp
                  with_reducible rfl
                rotate_left
                · simp only [Act.put, List.setIfInBounds_toArray, List.set_cons_zero, List.set_cons_succ, i64_w, i32_w]
                  rfl
                refine pure_ (i := 16) (N := some 45) (v := ?_) (a' := ?_) #[true, true, true, true, false, true, true, true, false, true, true, true, true, false, false, false, true, false, false, false, false, false] rfl rfl (any_of HT_.out (by kernel_rfl)) (fun _ _ _ h => h) (Or.inl ⟨by rfl, ?_⟩) ?_ ?_
                rotate_left
                · intro w'
                  go_simp
                  with_reducible rfl
                rotate_left
                · simp only [Act.put, List.setIfInBounds_toArray, List.set_cons_zero, List.set_cons_succ, i64_w, i32_w]
                  rfl
                refine pure_ (i := 17) (N := some 46) (v := ?_) (a' := ?_) #[true, true, true, true, false, true, true, true, false, true, true, true, true, false, false, false, true, true, false, false, false, false] rfl rfl (any_of HT_.out (by kernel_rfl)) (fun _ _ _ h => h) (Or.inl ⟨by rfl, ?_⟩) ?_ ?_
                rotate_left
                · intro w'
                  go_simp
                  with_reducible rfl
                rotate_left
                · simp only [Act.put, List.setIfInBounds_toArray, List.set_cons_zero, List.set_cons_succ, i64_w, i32_w]
                  rfl
                refine pure_ (i := 18) (N := some 47) (v := ?_) (a' := ?_) #[true, true, true, true, false, true, true, true, false, true, true, true, true, false, false, false, true, true, true, false, false, false] rfl rfl (any_of HT_.out (by kernel_rfl)) (fun _ _ _ h => h) (Or.inl ⟨by rfl, ?_⟩) ?_ ?_
                rotate_left
                · intro w'
                  go_simp
                  with_reducible rfl
                rotate_left
                · simp only [Act.put, List.setIfInBounds_toArray, List.set_cons_zero, List.set_cons_succ, i64_w, i32_w]
                  rfl
                refine take_ (i := 4) (N := some 33) (v := ?_) (a' := ?_) #[true, true, true, true, true, true, true, true, false, true, true, true, true, false, false, false, true, true, true, false, false, false] rfl rfl (take_ofW HT_.out HW_.out (by kernel_rfl)) (fun _ _ _ h => h) (Or.inl ⟨by rfl, ?_⟩) hHeld ?_ ?_
                rotate_left
                · rintro w' ⟨s0, s1, s2, s3, s4, s5⟩
                  go_simp
                  with_reducible rfl
                rotate_left
                · simp only [Act.put, List.setIfInBounds_toArray, List.set_cons_zero, List.set_cons_succ, i64_w, i32_w]
                  rfl
                refine take_ (i := 13) (N := some 42) (v := ?_) (a' := ?_) #[true, true, true, true, true, true, true, true, false, true, true, true, true, true, false, false, true, true, true, false, false, false] rfl rfl (take_ofW HT_.out HW_.out (by kernel_rfl)) (fun _ _ _ h => h) (Or.inl ⟨by rfl, ?_⟩) hHeld ?_ ?_
                rotate_left
                · rintro w' ⟨s0, s1, s2, s3, s4, s5⟩
                  go_simp
                  with_reducible rfl
                rotate_left
                · simp only [Act.put, List.setIfInBounds_toArray, List.set_cons_zero, List.set_cons_succ, i64_w, i32_w]
                  rfl
                refine pure_ (i := 14) (N := some 43) (v := ?_) (a' := ?_) #[true, true, true, true, true, true, true, true, false, true, true, true, true, true, true, false, true, true, true, false, false, false] rfl rfl (any_of HT_.out (by kernel_rfl)) (fun _ _ _ h => h) (Or.inl ⟨by rfl, ?_⟩) ?_ ?_
                rotate_left
                · intro w'
                  go_simp
                  with_reducible rfl
                rotate_left
                · simp only [Act.put, List.setIfInBounds_toArray, List.set_cons_zero, List.set_cons_succ, i64_w, i32_w]
                  rfl
                refine pure_ (i := 15) (N := some 44) (v := ?_) (a' := ?_) #[true, true, true, true, true, true, true, true, false, true, true, true, true, true, true, true, true, true, true, false, false, false] rfl rfl (any_of HT_.out (by kernel_rfl)) (fun _ _ _ h => h) (Or.inl ⟨by rfl, ?_⟩) ?_ ?_
                rotate_left
                · intro w'
                  go_simp
                  with_reducible rfl
                rotate_left
                · simp only [Act.put, List.setIfInBounds_toArray, List.set_cons_zero, List.set_cons_succ, i64_w, i32_w]
                  rfl
                refine join_ (σ := Nat) 1 #[true, true, true, true, true, true, true, true, true, true, true, true, true, true, true, true, true, true, true, true, true, false] (fun s_ => [(37, .int .i64 t191), (8, .pointer (some ⟨s_, 0, none⟩)), (48, .agg #[.int .i64 1, .int .i64 t191, .int .u8 ((32 + (Int.tmod ((rd_T56 l1 x7_1).f2) 95)) % 256), .int .i64 64, .int .i64 (wrap64 (1 + (Int.tmod x7_1 64)))])]) (fun s_ w' => (w'.cell? (ad190.add ((x7_1).toNat * 3)) = some (.bool ((rd_T56 l1 x7_1).f0)) ∧ w'.cell? ⟨(ad190.add ((x7_1).toNat * 3)).block, (ad190.add ((x7_1).toNat * 3)).off + 1, none⟩ = some (.int .i64 ((rd_T56 l1 x7_1).f1)) ∧ w'.cell? ⟨(ad190.add ((x7_1).toNat * 3)).block, (ad190.add ((x7_1).toNat * 3)).off + 2, none⟩ = some (.int .u8 ((rd_T56 l1 x7_1).f2)) ∧ w'.cell? (ad190.add ((x7_1).toNat * 3)) = some (.bool ((rd_T56 l1 x7_1).f0)) ∧ w'.cell? ⟨(ad190.add ((x7_1).toNat * 3)).block, (ad190.add ((x7_1).toNat * 3)).off + 1, none⟩ = some (.int .i64 ((rd_T56 l1 x7_1).f1)) ∧ w'.cell? ⟨(ad190.add ((x7_1).toNat * 3)).block, (ad190.add ((x7_1).toNat * 3)).off + 2, none⟩ = some (.int .u8 ((rd_T56 l1 x7_1).f2))) ∧ (Kd.R k83 83 w' w.heap.size (fun _ => True) (.slice Ao15 x5_1.length co15) x5_1) ∧ (w'.heap[s_]? = some (.cells #[.int .i64 0, .int .i64 0, .int .u8 0, .int .i64 0, .int .i64 0] 38 (0, 0))) ∧ (w.heap.size ≤ s_) ∧ (w.heap.size ≤ s_) ∧ (Below w.heap.size w w')) ?_ ?_
                rotate_left
                · intro hCont
                  refine two_ (i := 8) (j := 20) (Ni := some 37) (Nj := some 8) #[true, true, true, true, true, true, true, true, true, true, true, true, true, true, true, true, true, true, true, false, false, false] #[true, true, true, true, true, true, true, true, false, true, true, true, true, true, true, true, true, true, true, false, true, false] rfl rfl rfl rfl (two_of HT_.out (by kernel_rfl)) (by decide) (by decide) (fun K hK => ?_) (fun K hK => ?_)
                  · skip
                    refine goes_ Try.func22 (by kernel_rfl) rfl #[.int .i64 ((rd_T56 l1 x7_1).f1), .int .i64 (wrap64 ((x5_1.length : Int) + 1))] (by rfl) rfl rfl (by (try simp only [List.map_toArray, List.map_cons, List.map_nil]); first | done | rfl | (simp only [List.length_drop, List.length_take]; rfl)) ?_
                    with_reducible refine (jotterlaw17_into.calls ((rd_T56 l1 x7_1).f1) (wrap64 ((x5_1.length : Int) + 1)) t191 _ A12.out).mono ?_
                    rintro e w' ⟨rfl, ⟨nd, rfl⟩⟩
                    refine ⟨_, rfl, ?_⟩
                    refine hK.out _ _ ⟨((HB.out.cell (World.block_lt_of_cell? w _ hw190_0)).trans hw190_0), ((HB.out.cell (World.block_lt_of_cell? w _ hw190_1)).trans hw190_1), ((HB.out.cell (World.block_lt_of_cell? w _ hw190_2)).trans hw190_2), ((HB.out.cell (World.block_lt_of_cell? w _ hw192_0)).trans hw192_0), ((HB.out.cell (World.block_lt_of_cell? w _ hw192_1)).trans hw192_1), ((HB.out.cell (World.block_lt_of_cell? w _ hw192_2)).trans hw192_2)⟩ (fun hHeld => ?_)
                    clear hK K
                    refine norm_ (a' := ?_) ?_ ?_
                    rotate_left
                    · show Act.put _ (some 37) _ = _
                      simp only [Act.put, List.setIfInBounds_toArray, List.set_cons_zero, List.set_cons_succ, i64_w, i32_w]
                      rfl
                    refine pure_ (i := 19) (N := some 48) (v := ?_) (a' := ?_) #[true, true, true, true, true, true, true, true, true, true, true, true, true, true, true, true, true, true, true, true, false, false] rfl rfl (any_of HT_.out (by kernel_rfl)) (fun _ _ _ h => h) (Or.inl ⟨by rfl, ?_⟩) ?_ ?_
                    rotate_left
                    · intro w'
                      go_simp
                      with_reducible rfl
                    rotate_left
                    · simp only [Act.put, List.setIfInBounds_toArray, List.set_cons_zero, List.set_cons_succ, i64_w, i32_w]
                      rfl
                    refine one_ (i := 20) (N := some 8) #[true, true, true, true, true, true, true, true, true, true, true, true, true, true, true, true, true, true, true, true, true, false] rfl rfl (one_of HT_.out (by kernel_rfl)) (by decide) (fun K hK => ?_)
                    refine box_step ?hg (N := 8) ?hd (cs := #[.int .i64 0, .int .i64 0, .int .u8 0, .int .i64 0, .int .i64 0]) (t := 38) ?hr ?_; (case hd => rfl); (case hg => rfl); (case hr => first | (go_simp; done) | (go_simp; rfl))
                    intro gb193 hg w16 hbox hb
                    have n0_ := Aside0.mk (Kd.R_below (by (with_reducible repeat (first | apply Kd.R_alloc | apply Kd.R_drewN | apply Kd.R_drew)); exact HO_5.out) hb)
                    have n1_ := Aside0.mk (below_step (by repeat (first | (with_reducible first | exact HB.out | apply below_alloc | apply pw_below_drewN | apply below_drew1) | exact HB.out)) hb)
                    have n2_ := Aside0.mk (hbox)
                    have n3_ := Aside0.mk ((by rw [hg]; exact (below_size (by repeat (first | (with_reducible first | exact HB.out | apply below_alloc | apply pw_below_drewN | apply below_drew1) | exact HB.out))) : w.heap.size ≤ gb193))
                    have n4_ := Aside0.mk ((by rw [hg]; exact (below_size (by repeat (first | (with_reducible first | exact HB.out | apply below_alloc | apply pw_below_drewN | apply below_drew1) | exact HB.out))) : w.heap.size ≤ gb193))
                    clear HO_5
                    clear HB
                    have HO_5 := n0_
                    have HB := n1_
                    have BK193 := n2_
                    have GW193 := n3_
                    have GE193 := n4_
                    clear n0_ n1_ n2_ n3_ n4_
                    clear hb hbox hg
                    refine hK.out _ _ ⟨((HB.out.cell (World.block_lt_of_cell? w _ hw190_0)).trans hw190_0), ((HB.out.cell (World.block_lt_of_cell? w _ hw190_1)).trans hw190_1), ((HB.out.cell (World.block_lt_of_cell? w _ hw190_2)).trans hw190_2), ((HB.out.cell (World.block_lt_of_cell? w _ hw192_0)).trans hw192_0), ((HB.out.cell (World.block_lt_of_cell? w _ hw192_1)).trans hw192_1), ((HB.out.cell (World.block_lt_of_cell? w _ hw192_2)).trans hw192_2)⟩ (fun hHeld => ?_)
                    clear hK K
                    refine norm_ (a' := ?_) ?_ ?_
                    rotate_left
                    · show Act.put _ (some 8) _ = _
                      simp only [Act.put, List.setIfInBounds_toArray, List.set_cons_zero, List.set_cons_succ, i64_w, i32_w]
                      rfl
                    exact norm_ (by simp only [putAll, Act.put, List.setIfInBounds_toArray, List.set_cons_zero, List.set_cons_succ, IntKind.wrap_u8]) (hCont (gb193) _ ⟨hHeld, (by (with_reducible repeat (first | apply Kd.R_alloc | apply Kd.R_drewN | apply Kd.R_drew)); exact HO_5.out), (by (with_reducible repeat (first | refine blk_drewN ?_ _ | refine blk_drew ?_ | refine blk_alloc ?_ _)); exact BK193.out), GW193.out, GE193.out, (by repeat (first | (with_reducible first | exact HB.out | apply below_alloc | apply pw_below_drewN | apply below_drew1 | refine below_set ?_ GE193.out) | exact HB.out))⟩)
                  · skip
                    refine box_step ?hg (N := 8) ?hd (cs := #[.int .i64 0, .int .i64 0, .int .u8 0, .int .i64 0, .int .i64 0]) (t := 38) ?hr ?_; (case hd => rfl); (case hg => rfl); (case hr => first | (go_simp; done) | (go_simp; rfl))
                    intro gb193 hg w16 hbox hb
                    have n0_ := Aside0.mk (Kd.R_below (by (with_reducible repeat (first | apply Kd.R_alloc | apply Kd.R_drewN | apply Kd.R_drew)); exact HO_5.out) hb)
                    have n1_ := Aside0.mk (below_step (by repeat (first | (with_reducible first | exact HB.out | apply below_alloc | apply pw_below_drewN | apply below_drew1) | exact HB.out)) hb)
                    have n2_ := Aside0.mk (hbox)
                    have n3_ := Aside0.mk ((by rw [hg]; exact (below_size (by repeat (first | (with_reducible first | exact HB.out | apply below_alloc | apply pw_below_drewN | apply below_drew1) | exact HB.out))) : w.heap.size ≤ gb193))
                    have n4_ := Aside0.mk ((by rw [hg]; exact (below_size (by repeat (first | (with_reducible first | exact HB.out | apply below_alloc | apply pw_below_drewN | apply below_drew1) | exact HB.out))) : w.heap.size ≤ gb193))
                    clear HO_5
                    clear HB
                    have HO_5 := n0_
                    have HB := n1_
                    have BK193 := n2_
                    have GW193 := n3_
                    have GE193 := n4_
                    clear n0_ n1_ n2_ n3_ n4_
                    clear hb hbox hg
                    refine hK.out _ _ ⟨((HB.out.cell (World.block_lt_of_cell? w _ hw190_0)).trans hw190_0), ((HB.out.cell (World.block_lt_of_cell? w _ hw190_1)).trans hw190_1), ((HB.out.cell (World.block_lt_of_cell? w _ hw190_2)).trans hw190_2), ((HB.out.cell (World.block_lt_of_cell? w _ hw192_0)).trans hw192_0), ((HB.out.cell (World.block_lt_of_cell? w _ hw192_1)).trans hw192_1), ((HB.out.cell (World.block_lt_of_cell? w _ hw192_2)).trans hw192_2)⟩ (fun hHeld => ?_)
                    clear hK K
                    refine norm_ (a' := ?_) ?_ ?_
                    rotate_left
                    · show Act.put _ (some 8) _ = _
                      simp only [Act.put, List.setIfInBounds_toArray, List.set_cons_zero, List.set_cons_succ, i64_w, i32_w]
                      rfl
                    refine one_ (i := 8) (N := some 37) #[true, true, true, true, true, true, true, true, true, true, true, true, true, true, true, true, true, true, true, false, true, false] rfl rfl (one_of HT_.out (by kernel_rfl)) (by decide) (fun K hK => ?_)
                    refine goes_ Try.func22 (by kernel_rfl) rfl #[.int .i64 ((rd_T56 l1 x7_1).f1), .int .i64 (wrap64 ((x5_1.length : Int) + 1))] (by rfl) rfl rfl (by (try simp only [List.map_toArray, List.map_cons, List.map_nil]); first | done | rfl | (simp only [List.length_drop, List.length_take]; rfl)) ?_
                    with_reducible refine (jotterlaw17_into.calls ((rd_T56 l1 x7_1).f1) (wrap64 ((x5_1.length : Int) + 1)) t191 _ A12.out).mono ?_
                    rintro e w' ⟨rfl, ⟨nd, rfl⟩⟩
                    refine ⟨_, rfl, ?_⟩
                    refine hK.out _ _ ⟨((HB.out.cell (World.block_lt_of_cell? w _ hw190_0)).trans hw190_0), ((HB.out.cell (World.block_lt_of_cell? w _ hw190_1)).trans hw190_1), ((HB.out.cell (World.block_lt_of_cell? w _ hw190_2)).trans hw190_2), ((HB.out.cell (World.block_lt_of_cell? w _ hw192_0)).trans hw192_0), ((HB.out.cell (World.block_lt_of_cell? w _ hw192_1)).trans hw192_1), ((HB.out.cell (World.block_lt_of_cell? w _ hw192_2)).trans hw192_2)⟩ (fun hHeld => ?_)
                    clear hK K
                    refine norm_ (a' := ?_) ?_ ?_
                    rotate_left
                    · show Act.put _ (some 37) _ = _
                      simp only [Act.put, List.setIfInBounds_toArray, List.set_cons_zero, List.set_cons_succ, i64_w, i32_w]
                      rfl
                    refine pure_ (i := 19) (N := some 48) (v := ?_) (a' := ?_) #[true, true, true, true, true, true, true, true, true, true, true, true, true, true, true, true, true, true, true, true, true, false] rfl rfl (any_of HT_.out (by kernel_rfl)) (fun _ _ _ h => h) (Or.inl ⟨by rfl, ?_⟩) ?_ ?_
                    rotate_left
                    · intro w'
                      go_simp
                      with_reducible rfl
                    rotate_left
                    · simp only [Act.put, List.setIfInBounds_toArray, List.set_cons_zero, List.set_cons_succ, i64_w, i32_w]
                      rfl
                    exact norm_ (by simp only [putAll, Act.put, List.setIfInBounds_toArray, List.set_cons_zero, List.set_cons_succ, IntKind.wrap_u8]) (hCont (gb193) _ ⟨hHeld, (by (with_reducible repeat (first | apply Kd.R_alloc | apply Kd.R_drewN | apply Kd.R_drew)); exact HO_5.out), (by (with_reducible repeat (first | refine blk_drewN ?_ _ | refine blk_drew ?_ | refine blk_alloc ?_ _)); exact BK193.out), GW193.out, GE193.out, (by repeat (first | (with_reducible first | exact HB.out | apply below_alloc | apply pw_below_drewN | apply below_drew1 | refine below_set ?_ GE193.out) | exact HB.out))⟩)
                rintro gb193 w17 ⟨hS_, h0_, h1_, h2_, h3_, h4_⟩
                have n0_ : Aside0 (Kd.R k83 83 w17 w.heap.size (fun _ => True) (.slice Ao15 x5_1.length co15) x5_1) := ⟨h0_⟩
                have n1_ : Aside0 (w17.heap[gb193]? = some (.cells #[.int .i64 0, .int .i64 0, .int .u8 0, .int .i64 0, .int .i64 0] 38 (0, 0))) := ⟨h1_⟩
                have n2_ : Aside0 (w.heap.size ≤ gb193) := ⟨h2_⟩
                have n3_ : Aside0 (w.heap.size ≤ gb193) := ⟨h3_⟩
                have n4_ : Aside0 (Below w.heap.size w w17) := ⟨h4_⟩
                clear HO_5
                clear HB
                clear h0_ h1_ h2_ h3_ h4_
                have HO_5 := n0_
                have BK193 := n1_
                have GW193 := n2_
                have GE193 := n3_
                have HB := n4_
                clear n0_ n1_ n2_ n3_ n4_
                have hHeld : w17.cell? (ad190.add ((x7_1).toNat * 3)) = some (.bool ((rd_T56 l1 x7_1).f0)) ∧ w17.cell? ⟨(ad190.add ((x7_1).toNat * 3)).block, (ad190.add ((x7_1).toNat * 3)).off + 1, none⟩ = some (.int .i64 ((rd_T56 l1 x7_1).f1)) ∧ w17.cell? ⟨(ad190.add ((x7_1).toNat * 3)).block, (ad190.add ((x7_1).toNat * 3)).off + 2, none⟩ = some (.int .u8 ((rd_T56 l1 x7_1).f2)) ∧ w17.cell? (ad190.add ((x7_1).toNat * 3)) = some (.bool ((rd_T56 l1 x7_1).f0)) ∧ w17.cell? ⟨(ad190.add ((x7_1).toNat * 3)).block, (ad190.add ((x7_1).toNat * 3)).off + 1, none⟩ = some (.int .i64 ((rd_T56 l1 x7_1).f1)) ∧ w17.cell? ⟨(ad190.add ((x7_1).toNat * 3)).block, (ad190.add ((x7_1).toNat * 3)).off + 2, none⟩ = some (.int .u8 ((rd_T56 l1 x7_1).f2)) := hS_
                refine norm_ (a' := ?_) ?_ ?_
                rotate_left
                · simp only [putAll, Act.put, List.setIfInBounds_toArray, List.set_cons_zero, List.set_cons_succ]
                  rfl
                refine one_ (i := 21) (N := none) #[true, true, true, true, true, true, true, true, true, true, true, true, true, true, true, true, true, true, true, true, true, true] rfl rfl (one_of HT_.out (by kernel_rfl)) (by decide) (fun K hK => ?_)
                have hs18 : w17.cell? ⟨gb193, 0, none⟩ = some (.int .i64 0) := (blk_cell BK193.out 0).trans rfl
                have hfs18 := blk_frozen BK193.out 0
                have hs19 : w17.cell? ⟨gb193, 1, none⟩ = some (.int .i64 0) := (blk_cell BK193.out 1).trans rfl
                have hfs19 := blk_frozen BK193.out 1
                have hs20 : w17.cell? ⟨gb193, 2, none⟩ = some (.int .u8 0) := (blk_cell BK193.out 2).trans rfl
                have hfs20 := blk_frozen BK193.out 2
                have hs21 : w17.cell? ⟨gb193, 3, none⟩ = some (.int .i64 0) := (blk_cell BK193.out 3).trans rfl
                have hfs21 := blk_frozen BK193.out 3
                have hs22 : w17.cell? ⟨gb193, 4, none⟩ = some (.int .i64 0) := (blk_cell BK193.out 4).trans rfl
                have hfs22 := blk_frozen BK193.out 4
                refine skip_ (w1 := ?_) (by rfl) rfl ?_ ?_
                rotate_left
                · go_simp
                  rfl
                refine hK.out _ _ ⟨((cell_far (p := ⟨gb193, _, none⟩) (by first | exact Nat.ne_of_lt (Nat.lt_of_lt_of_le (by have := World.block_lt_of_cell? _ _ hw190_0; first | rwa [add_block] at this | exact this) GW193.out) | (rw [add_block]; exact Nat.ne_of_lt (Nat.lt_of_lt_of_le (by have := World.block_lt_of_cell? _ _ hw190_0; first | rwa [add_block] at this | exact this) GW193.out)) | (show (Addr.add _ _).block ≠ _; rw [add_block]; exact Nat.ne_of_lt (Nat.lt_of_lt_of_le (by have := World.block_lt_of_cell? _ _ hw190_0; first | rwa [add_block] at this | exact this) GW193.out)) | (dsimp only; exact Nat.ne_of_lt (Nat.lt_of_lt_of_le (by have := World.block_lt_of_cell? _ _ hw190_0; first | rwa [add_block] at this | exact this) GW193.out))) _).trans (((cell_far (p := ⟨gb193, _, none⟩) (by first | exact Nat.ne_of_lt (Nat.lt_of_lt_of_le (by have := World.block_lt_of_cell? _ _ hw190_0; first | rwa [add_block] at this | exact this) GW193.out) | (rw [add_block]; exact Nat.ne_of_lt (Nat.lt_of_lt_of_le (by have := World.block_lt_of_cell? _ _ hw190_0; first | rwa [add_block] at this | exact this) GW193.out)) | (show (Addr.add _ _).block ≠ _; rw [add_block]; exact Nat.ne_of_lt (Nat.lt_of_lt_of_le (by have := World.block_lt_of_cell? _ _ hw190_0; first | rwa [add_block] at this | exact this) GW193.out)) | (dsimp only; exact Nat.ne_of_lt (Nat.lt_of_lt_of_le (by have := World.block_lt_of_cell? _ _ hw190_0; first | rwa [add_block] at this | exact this) GW193.out))) _).trans (((cell_far (p := ⟨gb193, _, none⟩) (by first | exact Nat.ne_of_lt (Nat.lt_of_lt_of_le (by have := World.block_lt_of_cell? _ _ hw190_0; first | rwa [add_block] at this | exact this) GW193.out) | (rw [add_block]; exact Nat.ne_of_lt (Nat.lt_of_lt_of_le (by have := World.block_lt_of_cell? _ _ hw190_0; first | rwa [add_block] at this | exact this) GW193.out)) | (show (Addr.add _ _).block ≠ _; rw [add_block]; exact Nat.ne_of_lt (Nat.lt_of_lt_of_le (by have := World.block_lt_of_cell? _ _ hw190_0; first | rwa [add_block] at this | exact this) GW193.out)) | (dsimp only; exact Nat.ne_of_lt (Nat.lt_of_lt_of_le (by have := World.block_lt_of_cell? _ _ hw190_0; first | rwa [add_block] at this | exact this) GW193.out))) _).trans (((cell_far (p := ⟨gb193, _, none⟩) (by first | exact Nat.ne_of_lt (Nat.lt_of_lt_of_le (by have := World.block_lt_of_cell? _ _ hw190_0; first | rwa [add_block] at this | exact this) GW193.out) | (rw [add_block]; exact Nat.ne_of_lt (Nat.lt_of_lt_of_le (by have := World.block_lt_of_cell? _ _ hw190_0; first | rwa [add_block] at this | exact this) GW193.out)) | (show (Addr.add _ _).block ≠ _; rw [add_block]; exact Nat.ne_of_lt (Nat.lt_of_lt_of_le (by have := World.block_lt_of_cell? _ _ hw190_0; first | rwa [add_block] at this | exact this) GW193.out)) | (dsimp only; exact Nat.ne_of_lt (Nat.lt_of_lt_of_le (by have := World.block_lt_of_cell? _ _ hw190_0; first | rwa [add_block] at this | exact this) GW193.out))) _).trans (((cell_far (p := ⟨gb193, _, none⟩) (by first | exact Nat.ne_of_lt (Nat.lt_of_lt_of_le (by have := World.block_lt_of_cell? _ _ hw190_0; first | rwa [add_block] at this | exact this) GW193.out) | (rw [add_block]; exact Nat.ne_of_lt (Nat.lt_of_lt_of_le (by have := World.block_lt_of_cell? _ _ hw190_0; first | rwa [add_block] at this | exact this) GW193.out)) | (show (Addr.add _ _).block ≠ _; rw [add_block]; exact Nat.ne_of_lt (Nat.lt_of_lt_of_le (by have := World.block_lt_of_cell? _ _ hw190_0; first | rwa [add_block] at this | exact this) GW193.out)) | (dsimp only; exact Nat.ne_of_lt (Nat.lt_of_lt_of_le (by have := World.block_lt_of_cell? _ _ hw190_0; first | rwa [add_block] at this | exact this) GW193.out))) _).trans (hHeld.1)))))))))), ((cell_far (p := ⟨gb193, _, none⟩) (by first | exact Nat.ne_of_lt (Nat.lt_of_lt_of_le (by have := World.block_lt_of_cell? _ _ hw190_1; first | rwa [add_block] at this | exact this) GW193.out) | (rw [add_block]; exact Nat.ne_of_lt (Nat.lt_of_lt_of_le (by have := World.block_lt_of_cell? _ _ hw190_1; first | rwa [add_block] at this | exact this) GW193.out)) | (show (Addr.add _ _).block ≠ _; rw [add_block]; exact Nat.ne_of_lt (Nat.lt_of_lt_of_le (by have := World.block_lt_of_cell? _ _ hw190_1; first | rwa [add_block] at this | exact this) GW193.out)) | (dsimp only; exact Nat.ne_of_lt (Nat.lt_of_lt_of_le (by have := World.block_lt_of_cell? _ _ hw190_1; first | rwa [add_block] at this | exact this) GW193.out))) _).trans (((cell_far (p := ⟨gb193, _, none⟩) (by first | exact Nat.ne_of_lt (Nat.lt_of_lt_of_le (by have := World.block_lt_of_cell? _ _ hw190_1; first | rwa [add_block] at this | exact this) GW193.out) | (rw [add_block]; exact Nat.ne_of_lt (Nat.lt_of_lt_of_le (by have := World.block_lt_of_cell? _ _ hw190_1; first | rwa [add_block] at this | exact this) GW193.out)) | (show (Addr.add _ _).block ≠ _; rw [add_block]; exact Nat.ne_of_lt (Nat.lt_of_lt_of_le (by have := World.block_lt_of_cell? _ _ hw190_1; first | rwa [add_block] at this | exact this) GW193.out)) | (dsimp only; exact Nat.ne_of_lt (Nat.lt_of_lt_of_le (by have := World.block_lt_of_cell? _ _ hw190_1; first | rwa [add_block] at this | exact this) GW193.out))) _).trans (((cell_far (p := ⟨gb193, _, none⟩) (by first | exact Nat.ne_of_lt (Nat.lt_of_lt_of_le (by have := World.block_lt_of_cell? _ _ hw190_1; first | rwa [add_block] at this | exact this) GW193.out) | (rw [add_block]; exact Nat.ne_of_lt (Nat.lt_of_lt_of_le (by have := World.block_lt_of_cell? _ _ hw190_1; first | rwa [add_block] at this | exact this) GW193.out)) | (show (Addr.add _ _).block ≠ _; rw [add_block]; exact Nat.ne_of_lt (Nat.lt_of_lt_of_le (by have := World.block_lt_of_cell? _ _ hw190_1; first | rwa [add_block] at this | exact this) GW193.out)) | (dsimp only; exact Nat.ne_of_lt (Nat.lt_of_lt_of_le (by have := World.block_lt_of_cell? _ _ hw190_1; first | rwa [add_block] at this | exact this) GW193.out))) _).trans (((cell_far (p := ⟨gb193, _, none⟩) (by first | exact Nat.ne_of_lt (Nat.lt_of_lt_of_le (by have := World.block_lt_of_cell? _ _ hw190_1; first | rwa [add_block] at this | exact this) GW193.out) | (rw [add_block]; exact Nat.ne_of_lt (Nat.lt_of_lt_of_le (by have := World.block_lt_of_cell? _ _ hw190_1; first | rwa [add_block] at this | exact this) GW193.out)) | (show (Addr.add _ _).block ≠ _; rw [add_block]; exact Nat.ne_of_lt (Nat.lt_of_lt_of_le (by have := World.block_lt_of_cell? _ _ hw190_1; first | rwa [add_block] at this | exact this) GW193.out)) | (dsimp only; exact Nat.ne_of_lt (Nat.lt_of_lt_of_le (by have := World.block_lt_of_cell? _ _ hw190_1; first | rwa [add_block] at this | exact this) GW193.out))) _).trans (((cell_far (p := ⟨gb193, _, none⟩) (by first | exact Nat.ne_of_lt (Nat.lt_of_lt_of_le (by have := World.block_lt_of_cell? _ _ hw190_1; first | rwa [add_block] at this | exact this) GW193.out) | (rw [add_block]; exact Nat.ne_of_lt (Nat.lt_of_lt_of_le (by have := World.block_lt_of_cell? _ _ hw190_1; first | rwa [add_block] at this | exact this) GW193.out)) | (show (Addr.add _ _).block ≠ _; rw [add_block]; exact Nat.ne_of_lt (Nat.lt_of_lt_of_le (by have := World.block_lt_of_cell? _ _ hw190_1; first | rwa [add_block] at this | exact this) GW193.out)) | (dsimp only; exact Nat.ne_of_lt (Nat.lt_of_lt_of_le (by have := World.block_lt_of_cell? _ _ hw190_1; first | rwa [add_block] at this | exact this) GW193.out))) _).trans (hHeld.2.1)))))))))), ((cell_far (p := ⟨gb193, _, none⟩) (by first | exact Nat.ne_of_lt (Nat.lt_of_lt_of_le (by have := World.block_lt_of_cell? _ _ hw190_2; first | rwa [add_block] at this | exact this) GW193.out) | (rw [add_block]; exact Nat.ne_of_lt (Nat.lt_of_lt_of_le (by have := World.block_lt_of_cell? _ _ hw190_2; first | rwa [add_block] at this | exact this) GW193.out)) | (show (Addr.add _ _).block ≠ _; rw [add_block]; exact Nat.ne_of_lt (Nat.lt_of_lt_of_le (by have := World.block_lt_of_cell? _ _ hw190_2; first | rwa [add_block] at this | exact this) GW193.out)) | (dsimp only; exact Nat.ne_of_lt (Nat.lt_of_lt_of_le (by have := World.block_lt_of_cell? _ _ hw190_2; first | rwa [add_block] at this | exact this) GW193.out))) _).trans (((cell_far (p := ⟨gb193, _, none⟩) (by first | exact Nat.ne_of_lt (Nat.lt_of_lt_of_le (by have := World.block_lt_of_cell? _ _ hw190_2; first | rwa [add_block] at this | exact this) GW193.out) | (rw [add_block]; exact Nat.ne_of_lt (Nat.lt_of_lt_of_le (by have := World.block_lt_of_cell? _ _ hw190_2; first | rwa [add_block] at this | exact this) GW193.out)) | (show (Addr.add _ _).block ≠ _; rw [add_block]; exact Nat.ne_of_lt (Nat.lt_of_lt_of_le (by have := World.block_lt_of_cell? _ _ hw190_2; first | rwa [add_block] at this | exact this) GW193.out)) | (dsimp only; exact Nat.ne_of_lt (Nat.lt_of_lt_of_le (by have := World.block_lt_of_cell? _ _ hw190_2; first | rwa [add_block] at this | exact this) GW193.out))) _).trans (((cell_far (p := ⟨gb193, _, none⟩) (by first | exact Nat.ne_of_lt (Nat.lt_of_lt_of_le (by have := World.block_lt_of_cell? _ _ hw190_2; first | rwa [add_block] at this | exact this) GW193.out) | (rw [add_block]; exact Nat.ne_of_lt (Nat.lt_of_lt_of_le (by have := World.block_lt_of_cell? _ _ hw190_2; first | rwa [add_block] at this | exact this) GW193.out)) | (show (Addr.add _ _).block ≠ _; rw [add_block]; exact Nat.ne_of_lt (Nat.lt_of_lt_of_le (by have := World.block_lt_of_cell? _ _ hw190_2; first | rwa [add_block] at this | exact this) GW193.out)) | (dsimp only; exact Nat.ne_of_lt (Nat.lt_of_lt_of_le (by have := World.block_lt_of_cell? _ _ hw190_2; first | rwa [add_block] at this | exact this) GW193.out))) _).trans (((cell_far (p := ⟨gb193, _, none⟩) (by first | exact Nat.ne_of_lt (Nat.lt_of_lt_of_le (by have := World.block_lt_of_cell? _ _ hw190_2; first | rwa [add_block] at this | exact this) GW193.out) | (rw [add_block]; exact Nat.ne_of_lt (Nat.lt_of_lt_of_le (by have := World.block_lt_of_cell? _ _ hw190_2; first | rwa [add_block] at this | exact this) GW193.out)) | (show (Addr.add _ _).block ≠ _; rw [add_block]; exact Nat.ne_of_lt (Nat.lt_of_lt_of_le (by have := World.block_lt_of_cell? _ _ hw190_2; first | rwa [add_block] at this | exact this) GW193.out)) | (dsimp only; exact Nat.ne_of_lt (Nat.lt_of_lt_of_le (by have := World.block_lt_of_cell? _ _ hw190_2; first | rwa [add_block] at this | exact this) GW193.out))) _).trans (((cell_far (p := ⟨gb193, _, none⟩) (by first | exact Nat.ne_of_lt (Nat.lt_of_lt_of_le (by have := World.block_lt_of_cell? _ _ hw190_2; first | rwa [add_block] at this | exact this) GW193.out) | (rw [add_block]; exact Nat.ne_of_lt (Nat.lt_of_lt_of_le (by have := World.block_lt_of_cell? _ _ hw190_2; first | rwa [add_block] at this | exact this) GW193.out)) | (show (Addr.add _ _).block ≠ _; rw [add_block]; exact Nat.ne_of_lt (Nat.lt_of_lt_of_le (by have := World.block_lt_of_cell? _ _ hw190_2; first | rwa [add_block] at this | exact this) GW193.out)) | (dsimp only; exact Nat.ne_of_lt (Nat.lt_of_lt_of_le (by have := World.block_lt_of_cell? _ _ hw190_2; first | rwa [add_block] at this | exact this) GW193.out))) _).trans (hHeld.2.2.1)))))))))), ((cell_far (p := ⟨gb193, _, none⟩) (by first | exact Nat.ne_of_lt (Nat.lt_of_lt_of_le (by have := World.block_lt_of_cell? _ _ hw192_0; first | rwa [add_block] at this | exact this) GW193.out) | (rw [add_block]; exact Nat.ne_of_lt (Nat.lt_of_lt_of_le (by have := World.block_lt_of_cell? _ _ hw192_0; first | rwa [add_block] at this | exact this) GW193.out)) | (show (Addr.add _ _).block ≠ _; rw [add_block]; exact Nat.ne_of_lt (Nat.lt_of_lt_of_le (by have := World.block_lt_of_cell? _ _ hw192_0; first | rwa [add_block] at this | exact this) GW193.out)) | (dsimp only; exact Nat.ne_of_lt (Nat.lt_of_lt_of_le (by have := World.block_lt_of_cell? _ _ hw192_0; first | rwa [add_block] at this | exact this) GW193.out))) _).trans (((cell_far (p := ⟨gb193, _, none⟩) (by first | exact Nat.ne_of_lt (Nat.lt_of_lt_of_le (by have := World.block_lt_of_cell? _ _ hw192_0; first | rwa [add_block] at this | exact this) GW193.out) | (rw [add_block]; exact Nat.ne_of_lt (Nat.lt_of_lt_of_le (by have := World.block_lt_of_cell? _ _ hw192_0; first | rwa [add_block] at this | exact this) GW193.out)) | (show (Addr.add _ _).block ≠ _; rw [add_block]; exact Nat.ne_of_lt (Nat.lt_of_lt_of_le (by have := World.block_lt_of_cell? _ _ hw192_0; first | rwa [add_block] at this | exact this) GW193.out)) | (dsimp only; exact Nat.ne_of_lt (Nat.lt_of_lt_of_le (by have := World.block_lt_of_cell? _ _ hw192_0; first | rwa [add_block] at this | exact this) GW193.out))) _).trans (((cell_far (p := ⟨gb193, _, none⟩) (by first | exact Nat.ne_of_lt (Nat.lt_of_lt_of_le (by have := World.block_lt_of_cell? _ _ hw192_0; first | rwa [add_block] at this | exact this) GW193.out) | (rw [add_block]; exact Nat.ne_of_lt (Nat.lt_of_lt_of_le (by have := World.block_lt_of_cell? _ _ hw192_0; first | rwa [add_block] at this | exact this) GW193.out)) | (show (Addr.add _ _).block ≠ _; rw [add_block]; exact Nat.ne_of_lt (Nat.lt_of_lt_of_le (by have := World.block_lt_of_cell? _ _ hw192_0; first | rwa [add_block] at this | exact this) GW193.out)) | (dsimp only; exact Nat.ne_of_lt (Nat.lt_of_lt_of_le (by have := World.block_lt_of_cell? _ _ hw192_0; first | rwa [add_block] at this | exact this) GW193.out))) _).trans (((cell_far (p := ⟨gb193, _, none⟩) (by first | exact Nat.ne_of_lt (Nat.lt_of_lt_of_le (by have := World.block_lt_of_cell? _ _ hw192_0; first | rwa [add_block] at this | exact this) GW193.out) | (rw [add_block]; exact Nat.ne_of_lt (Nat.lt_of_lt_of_le (by have := World.block_lt_of_cell? _ _ hw192_0; first | rwa [add_block] at this | exact this) GW193.out)) | (show (Addr.add _ _).block ≠ _; rw [add_block]; exact Nat.ne_of_lt (Nat.lt_of_lt_of_le (by have := World.block_lt_of_cell? _ _ hw192_0; first | rwa [add_block] at this | exact this) GW193.out)) | (dsimp only; exact Nat.ne_of_lt (Nat.lt_of_lt_of_le (by have := World.block_lt_of_cell? _ _ hw192_0; first | rwa [add_block] at this | exact this) GW193.out))) _).trans (((cell_far (p := ⟨gb193, _, none⟩) (by first | exact Nat.ne_of_lt (Nat.lt_of_lt_of_le (by have := World.block_lt_of_cell? _ _ hw192_0; first | rwa [add_block] at this | exact this) GW193.out) | (rw [add_block]; exact Nat.ne_of_lt (Nat.lt_of_lt_of_le (by have := World.block_lt_of_cell? _ _ hw192_0; first | rwa [add_block] at this | exact this) GW193.out)) | (show (Addr.add _ _).block ≠ _; rw [add_block]; exact Nat.ne_of_lt (Nat.lt_of_lt_of_le (by have := World.block_lt_of_cell? _ _ hw192_0; first | rwa [add_block] at this | exact this) GW193.out)) | (dsimp only; exact Nat.ne_of_lt (Nat.lt_of_lt_of_le (by have := World.block_lt_of_cell? _ _ hw192_0; first | rwa [add_block] at this | exact this) GW193.out))) _).trans (hHeld.2.2.2.1)))))))))), ((cell_far (p := ⟨gb193, _, none⟩) (by first | exact Nat.ne_of_lt (Nat.lt_of_lt_of_le (by have := World.block_lt_of_cell? _ _ hw192_1; first | rwa [add_block] at this | exact this) GW193.out) | (rw [add_block]; exact Nat.ne_of_lt (Nat.lt_of_lt_of_le (by have := World.block_lt_of_cell? _ _ hw192_1; first | rwa [add_block] at this | exact this) GW193.out)) | (show (Addr.add _ _).block ≠ _; rw [add_block]; exact Nat.ne_of_lt (Nat.lt_of_lt_of_le (by have := World.block_lt_of_cell? _ _ hw192_1; first | rwa [add_block] at this | exact this) GW193.out)) | (dsimp only; exact Nat.ne_of_lt (Nat.lt_of_lt_of_le (by have := World.block_lt_of_cell? _ _ hw192_1; first | rwa [add_block] at this | exact this) GW193.out))) _).trans (((cell_far (p := ⟨gb193, _, none⟩) (by first | exact Nat.ne_of_lt (Nat.lt_of_lt_of_le (by have := World.block_lt_of_cell? _ _ hw192_1; first | rwa [add_block] at this | exact this) GW193.out) | (rw [add_block]; exact Nat.ne_of_lt (Nat.lt_of_lt_of_le (by have := World.block_lt_of_cell? _ _ hw192_1; first | rwa [add_block] at this | exact this) GW193.out)) | (show (Addr.add _ _).block ≠ _; rw [add_block]; exact Nat.ne_of_lt (Nat.lt_of_lt_of_le (by have := World.block_lt_of_cell? _ _ hw192_1; first | rwa [add_block] at this | exact this) GW193.out)) | (dsimp only; exact Nat.ne_of_lt (Nat.lt_of_lt_of_le (by have := World.block_lt_of_cell? _ _ hw192_1; first | rwa [add_block] at this | exact this) GW193.out))) _).trans (((cell_far (p := ⟨gb193, _, none⟩) (by first | exact Nat.ne_of_lt (Nat.lt_of_lt_of_le (by have := World.block_lt_of_cell? _ _ hw192_1; first | rwa [add_block] at this | exact this) GW193.out) | (rw [add_block]; exact Nat.ne_of_lt (Nat.lt_of_lt_of_le (by have := World.block_lt_of_cell? _ _ hw192_1; first | rwa [add_block] at this | exact this) GW193.out)) | (show (Addr.add _ _).block ≠ _; rw [add_block]; exact Nat.ne_of_lt (Nat.lt_of_lt_of_le (by have := World.block_lt_of_cell? _ _ hw192_1; first | rwa [add_block] at this | exact this) GW193.out)) | (dsimp only; exact Nat.ne_of_lt (Nat.lt_of_lt_of_le (by have := World.block_lt_of_cell? _ _ hw192_1; first | rwa [add_block] at this | exact this) GW193.out))) _).trans (((cell_far (p := ⟨gb193, _, none⟩) (by first | exact Nat.ne_of_lt (Nat.lt_of_lt_of_le (by have := World.block_lt_of_cell? _ _ hw192_1; first | rwa [add_block] at this | exact this) GW193.out) | (rw [add_block]; exact Nat.ne_of_lt (Nat.lt_of_lt_of_le (by have := World.block_lt_of_cell? _ _ hw192_1; first | rwa [add_block] at this | exact this) GW193.out)) | (show (Addr.add _ _).block ≠ _; rw [add_block]; exact Nat.ne_of_lt (Nat.lt_of_lt_of_le (by have := World.block_lt_of_cell? _ _ hw192_1; first | rwa [add_block] at this | exact this) GW193.out)) | (dsimp only; exact Nat.ne_of_lt (Nat.lt_of_lt_of_le (by have := World.block_lt_of_cell? _ _ hw192_1; first | rwa [add_block] at this | exact this) GW193.out))) _).trans (((cell_far (p := ⟨gb193, _, none⟩) (by first | exact Nat.ne_of_lt (Nat.lt_of_lt_of_le (by have := World.block_lt_of_cell? _ _ hw192_1; first | rwa [add_block] at this | exact this) GW193.out) | (rw [add_block]; exact Nat.ne_of_lt (Nat.lt_of_lt_of_le (by have := World.block_lt_of_cell? _ _ hw192_1; first | rwa [add_block] at this | exact this) GW193.out)) | (show (Addr.add _ _).block ≠ _; rw [add_block]; exact Nat.ne_of_lt (Nat.lt_of_lt_of_le (by have := World.block_lt_of_cell? _ _ hw192_1; first | rwa [add_block] at this | exact this) GW193.out)) | (dsimp only; exact Nat.ne_of_lt (Nat.lt_of_lt_of_le (by have := World.block_lt_of_cell? _ _ hw192_1; first | rwa [add_block] at this | exact this) GW193.out))) _).trans (hHeld.2.2.2.2.1)))))))))), ((cell_far (p := ⟨gb193, _, none⟩) (by first | exact Nat.ne_of_lt (Nat.lt_of_lt_of_le (by have := World.block_lt_of_cell? _ _ hw192_2; first | rwa [add_block] at this | exact this) GW193.out) | (rw [add_block]; exact Nat.ne_of_lt (Nat.lt_of_lt_of_le (by have := World.block_lt_of_cell? _ _ hw192_2; first | rwa [add_block] at this | exact this) GW193.out)) | (show (Addr.add _ _).block ≠ _; rw [add_block]; exact Nat.ne_of_lt (Nat.lt_of_lt_of_le (by have := World.block_lt_of_cell? _ _ hw192_2; first | rwa [add_block] at this | exact this) GW193.out)) | (dsimp only; exact Nat.ne_of_lt (Nat.lt_of_lt_of_le (by have := World.block_lt_of_cell? _ _ hw192_2; first | rwa [add_block] at this | exact this) GW193.out))) _).trans (((cell_far (p := ⟨gb193, _, none⟩) (by first | exact Nat.ne_of_lt (Nat.lt_of_lt_of_le (by have := World.block_lt_of_cell? _ _ hw192_2; first | rwa [add_block] at this | exact this) GW193.out) | (rw [add_block]; exact Nat.ne_of_lt (Nat.lt_of_lt_of_le (by have := World.block_lt_of_cell? _ _ hw192_2; first | rwa [add_block] at this | exact this) GW193.out)) | (show (Addr.add _ _).block ≠ _; rw [add_block]; exact Nat.ne_of_lt (Nat.lt_of_lt_of_le (by have := World.block_lt_of_cell? _ _ hw192_2; first | rwa [add_block] at this | exact this) GW193.out)) | (dsimp only; exact Nat.ne_of_lt (Nat.lt_of_lt_of_le (by have := World.block_lt_of_cell? _ _ hw192_2; first | rwa [add_block] at this | exact this) GW193.out))) _).trans (((cell_far (p := ⟨gb193, _, none⟩) (by first | exact Nat.ne_of_lt (Nat.lt_of_lt_of_le (by have := World.block_lt_of_cell? _ _ hw192_2; first | rwa [add_block] at this | exact this) GW193.out) | (rw [add_block]; exact Nat.ne_of_lt (Nat.lt_of_lt_of_le (by have := World.block_lt_of_cell? _ _ hw192_2; first | rwa [add_block] at this | exact this) GW193.out)) | (show (Addr.add _ _).block ≠ _; rw [add_block]; exact Nat.ne_of_lt (Nat.lt_of_lt_of_le (by have := World.block_lt_of_cell? _ _ hw192_2; first | rwa [add_block] at this | exact this) GW193.out)) | (dsimp only; exact Nat.ne_of_lt (Nat.lt_of_lt_of_le (by have := World.block_lt_of_cell? _ _ hw192_2; first | rwa [add_block] at this | exact this) GW193.out))) _).trans (((cell_far (p := ⟨gb193, _, none⟩) (by first | exact Nat.ne_of_lt (Nat.lt_of_lt_of_le (by have := World.block_lt_of_cell? _ _ hw192_2; first | rwa [add_block] at this | exact this) GW193.out) | (rw [add_block]; exact Nat.ne_of_lt (Nat.lt_of_lt_of_le (by have := World.block_lt_of_cell? _ _ hw192_2; first | rwa [add_block] at this | exact this) GW193.out)) | (show (Addr.add _ _).block ≠ _; rw [add_block]; exact Nat.ne_of_lt (Nat.lt_of_lt_of_le (by have := World.block_lt_of_cell? _ _ hw192_2; first | rwa [add_block] at this | exact this) GW193.out)) | (dsimp only; exact Nat.ne_of_lt (Nat.lt_of_lt_of_le (by have := World.block_lt_of_cell? _ _ hw192_2; first | rwa [add_block] at this | exact this) GW193.out))) _).trans (((cell_far (p := ⟨gb193, _, none⟩) (by first | exact Nat.ne_of_lt (Nat.lt_of_lt_of_le (by have := World.block_lt_of_cell? _ _ hw192_2; first | rwa [add_block] at this | exact this) GW193.out) | (rw [add_block]; exact Nat.ne_of_lt (Nat.lt_of_lt_of_le (by have := World.block_lt_of_cell? _ _ hw192_2; first | rwa [add_block] at this | exact this) GW193.out)) | (show (Addr.add _ _).block ≠ _; rw [add_block]; exact Nat.ne_of_lt (Nat.lt_of_lt_of_le (by have := World.block_lt_of_cell? _ _ hw192_2; first | rwa [add_block] at this | exact this) GW193.out)) | (dsimp only; exact Nat.ne_of_lt (Nat.lt_of_lt_of_le (by have := World.block_lt_of_cell? _ _ hw192_2; first | rwa [add_block] at this | exact this) GW193.out))) _).trans (hHeld.2.2.2.2.2))))))))))⟩ (fun hHeld => ?_)
                clear hK K
                refine done_ (done_of HT_.out (by kernel_rfl)) ?_
                go_upto_region 8 with (fail)
                go_cut [58] (fun v58 wc => ∃ (kq : Nat) (x58_12 : Bool), v58 = .bool x58_12 ∧ Aside0 (jotterlaw17_DiffLeast.j2 kq t181 l1 x5_1 x6_1 x7_1 x58_12 1 t191 ((32 + (Int.tmod ((rd_T56 l1 x7_1).f2) 95)) % 256) 64 (wrap64 (1 + (Int.tmod x7_1 64))) = some r) ∧ Aside0 (kq ≤ kj6) ∧ Aside0 (Kd.R k83 83 wc w.heap.size (fun _ => True) (.slice Ao15 x5_1.length co15) x5_1) ∧ Aside0 (wc.heap[gb193]? = some (.cells #[.int .i64 1, .int .i64 t191, .int .u8 ((32 + (Int.tmod ((rd_T56 l1 x7_1).f2) 95)) % 256), .int .i64 64, .int .i64 (wrap64 (1 + (Int.tmod x7_1 64)))] 38 (0, 0))) ∧ Aside0 (Below w.heap.size w wc))
                case first =>
                  have H := HC13.out
                  clear HC13
                  obtain ⟨bq23, hbq23⟩ : ∃ b_ : Bool, b_ = ((rd_T56 l1 x7_1).f0) := ⟨_, rfl⟩
                  replace H : (if bq23 = true then (jotterlaw17_DiffLeast.j2 kj6 t181 l1 x5_1 x6_1 x7_1 (decide ((x5_1.length : Int) > 0)) 1 t191 ((32 + (Int.tmod ((rd_T56 l1 x7_1).f2) 95)) % 256) 64 (wrap64 (1 + (Int.tmod x7_1 64)))) else (jotterlaw17_DiffLeast.j2 kj6 t181 l1 x5_1 x6_1 x7_1 false 1 t191 ((32 + (Int.tmod ((rd_T56 l1 x7_1).f2) 95)) % 256) 64 (wrap64 (1 + (Int.tmod x7_1 64))))) = some r := by rw [← hbq23] at H; exact H
                  have Nbq23 := Aside0.mk hbq23
                  clear hbq23
                  (try rw [← Nbq23.out])
                  by_cases c24 : bq23 = true
                  · subst c24
                    have H1 : (jotterlaw17_DiffLeast.j2 kj6 t181 l1 x5_1 x6_1 x7_1 (decide ((x5_1.length : Int) > 0)) 1 t191 ((32 + (Int.tmod ((rd_T56 l1 x7_1).f2) 95)) % 256) 64 (wrap64 (1 + (Int.tmod x7_1 64)))) = some r := by rw [if_pos rfl] at H; exact H
                    clear H
                    have H := H1
                    clear H1
                    have H' := Aside0.mk H
                    clear H
                    have p194 : 0 ≤ (x7_1 : Int) := of_decide_eq_true (by first | (with_reducible assumption) | assumption)
                    have q194 : x7_1 < (l1.length : Int) := of_decide_eq_true (by first | (with_reducible assumption) | assumption)
                    obtain ⟨ad194, e194, hx194_0, hx194_1, hx194_2⟩ := at_T56 HR1.out x7_1 p194 q194
                    (try rw [← Nbq23.out] at hx194_0)
                    obtain rfl : ad190 = ad194 := (by injection e194)
                    have hn194_0 : ad190.block ≠ gb193 := Nat.ne_of_lt (Nat.lt_of_lt_of_le (by have := World.block_lt_of_cell? _ _ hx194_0; first | rwa [add_block] at this | exact this) GW193.out)
                    have hn194_1 : ad190.block ≠ gb193 := Nat.ne_of_lt (Nat.lt_of_lt_of_le (by have := World.block_lt_of_cell? _ _ hx194_0; first | rwa [add_block] at this | exact this) GW193.out)
                    have hn194_2 : ad190.block ≠ gb193 := Nat.ne_of_lt (Nat.lt_of_lt_of_le (by have := World.block_lt_of_cell? _ _ hx194_0; first | rwa [add_block] at this | exact this) GW193.out)
                    have hn194_3 : ad190.block ≠ gb193 := Nat.ne_of_lt (Nat.lt_of_lt_of_le (by have := World.block_lt_of_cell? _ _ hx194_0; first | rwa [add_block] at this | exact this) GW193.out)
                    have hn194_4 : ad190.block ≠ gb193 := Nat.ne_of_lt (Nat.lt_of_lt_of_le (by have := World.block_lt_of_cell? _ _ hx194_0; first | rwa [add_block] at this | exact this) GW193.out)
                    replace hx194_0 := (HB.out.cell (World.block_lt_of_cell? w _ hx194_0)).trans hx194_0
                    replace hx194_1 := (HB.out.cell (World.block_lt_of_cell? w _ hx194_1)).trans hx194_1
                    replace hx194_2 := (HB.out.cell (World.block_lt_of_cell? w _ hx194_2)).trans hx194_2
                    replace hx194_0 := (cell_far (p := ⟨gb193, 0, none⟩) (by first | (rw [add_block]; exact hn194_0) | (show (Addr.add _ _).block ≠ _; rw [add_block]; exact hn194_0) | exact hn194_0) (.int .i64 1)).trans hx194_0
                    replace hx194_1 := (cell_far (p := ⟨gb193, 0, none⟩) (by first | (rw [add_block]; exact hn194_0) | (show (Addr.add _ _).block ≠ _; rw [add_block]; exact hn194_0) | exact hn194_0) (.int .i64 1)).trans hx194_1
                    replace hx194_2 := (cell_far (p := ⟨gb193, 0, none⟩) (by first | (rw [add_block]; exact hn194_0) | (show (Addr.add _ _).block ≠ _; rw [add_block]; exact hn194_0) | exact hn194_0) (.int .i64 1)).trans hx194_2
                    replace hx194_0 := (cell_far (p := ⟨gb193, 1, none⟩) (by first | (rw [add_block]; exact hn194_1) | (show (Addr.add _ _).block ≠ _; rw [add_block]; exact hn194_1) | exact hn194_1) (.int .i64 t191)).trans hx194_0
                    replace hx194_1 := (cell_far (p := ⟨gb193, 1, none⟩) (by first | (rw [add_block]; exact hn194_1) | (show (Addr.add _ _).block ≠ _; rw [add_block]; exact hn194_1) | exact hn194_1) (.int .i64 t191)).trans hx194_1
                    replace hx194_2 := (cell_far (p := ⟨gb193, 1, none⟩) (by first | (rw [add_block]; exact hn194_1) | (show (Addr.add _ _).block ≠ _; rw [add_block]; exact hn194_1) | exact hn194_1) (.int .i64 t191)).trans hx194_2
                    replace hx194_0 := (cell_far (p := ⟨gb193, 2, none⟩) (by first | (rw [add_block]; exact hn194_2) | (show (Addr.add _ _).block ≠ _; rw [add_block]; exact hn194_2) | exact hn194_2) (.int .u8 ((32 + (Int.tmod ((rd_T56 l1 x7_1).f2) 95)) % 256))).trans hx194_0
                    replace hx194_1 := (cell_far (p := ⟨gb193, 2, none⟩) (by first | (rw [add_block]; exact hn194_2) | (show (Addr.add _ _).block ≠ _; rw [add_block]; exact hn194_2) | exact hn194_2) (.int .u8 ((32 + (Int.tmod ((rd_T56 l1 x7_1).f2) 95)) % 256))).trans hx194_1
                    replace hx194_2 := (cell_far (p := ⟨gb193, 2, none⟩) (by first | (rw [add_block]; exact hn194_2) | (show (Addr.add _ _).block ≠ _; rw [add_block]; exact hn194_2) | exact hn194_2) (.int .u8 ((32 + (Int.tmod ((rd_T56 l1 x7_1).f2) 95)) % 256))).trans hx194_2
                    replace hx194_0 := (cell_far (p := ⟨gb193, 3, none⟩) (by first | (rw [add_block]; exact hn194_3) | (show (Addr.add _ _).block ≠ _; rw [add_block]; exact hn194_3) | exact hn194_3) (.int .i64 64)).trans hx194_0
                    replace hx194_1 := (cell_far (p := ⟨gb193, 3, none⟩) (by first | (rw [add_block]; exact hn194_3) | (show (Addr.add _ _).block ≠ _; rw [add_block]; exact hn194_3) | exact hn194_3) (.int .i64 64)).trans hx194_1
                    replace hx194_2 := (cell_far (p := ⟨gb193, 3, none⟩) (by first | (rw [add_block]; exact hn194_3) | (show (Addr.add _ _).block ≠ _; rw [add_block]; exact hn194_3) | exact hn194_3) (.int .i64 64)).trans hx194_2
                    replace hx194_0 := (cell_far (p := ⟨gb193, 4, none⟩) (by first | (rw [add_block]; exact hn194_4) | (show (Addr.add _ _).block ≠ _; rw [add_block]; exact hn194_4) | exact hn194_4) (.int .i64 (wrap64 (1 + (Int.tmod x7_1 64))))).trans hx194_0
                    replace hx194_1 := (cell_far (p := ⟨gb193, 4, none⟩) (by first | (rw [add_block]; exact hn194_4) | (show (Addr.add _ _).block ≠ _; rw [add_block]; exact hn194_4) | exact hn194_4) (.int .i64 (wrap64 (1 + (Int.tmod x7_1 64))))).trans hx194_1
                    replace hx194_2 := (cell_far (p := ⟨gb193, 4, none⟩) (by first | (rw [add_block]; exact hn194_4) | (show (Addr.add _ _).block ≠ _; rw [add_block]; exact hn194_4) | exact hn194_4) (.int .i64 (wrap64 (1 + (Int.tmod x7_1 64))))).trans hx194_2
                    clear hn194_0
                    clear hn194_1
                    clear hn194_2
                    clear hn194_3
                    clear hn194_4
                    replace p194 := eq_true p194
                    replace q194 := eq_true q194
                    go_wp2
                    all_goals (try (exact absurd Nbq23.out.symm (by assumption)))
                    go_meet
                    case rel => exact ⟨_, (decide ((x5_1.length : Int) > 0)), (by first | rfl | (simp; done) | (simp [*]; done)), H', ⟨by have := HK1.out; have := HJ6.out; first | omega | exact Nat.le_refl _⟩, ⟨by (with_reducible repeat (first | apply Kd.R_alloc | apply Kd.R_drewN | apply Kd.R_drew)); exact Kd.R_mono (Kd.R_far (p := ⟨gb193, 4, none⟩) (Kd.R_far (p := ⟨gb193, 3, none⟩) (Kd.R_far (p := ⟨gb193, 2, none⟩) (Kd.R_far (p := ⟨gb193, 1, none⟩) (Kd.R_far (p := ⟨gb193, 0, none⟩) (Kd.R_types HO_5.out BK193.out (by decide)) (fun _ hk => hk.2) (.int .i64 1)) (fun _ hk => hk.2) (.int .i64 t191)) (fun _ hk => hk.2) (.int .u8 ((32 + (Int.tmod ((rd_T56 l1 x7_1).f2) 95)) % 256))) (fun _ hk => hk.2) (.int .i64 64)) (fun _ hk => hk.2) (.int .i64 (wrap64 (1 + (Int.tmod x7_1 64))))) (fun _ hk => trivial)⟩, ⟨by (with_reducible repeat (first | refine blk_drewN ?_ _ | refine blk_drew ?_ | refine blk_alloc ?_ _)); refine blk_put (cs := #[.int .i64 1, .int .i64 t191, .int .u8 ((32 + (Int.tmod ((rd_T56 l1 x7_1).f2) 95)) % 256), .int .i64 64, .int .i64 0]) ?_ 4 _ rfl; (with_reducible repeat (first | refine blk_drewN ?_ _ | refine blk_drew ?_ | refine blk_alloc ?_ _)); refine blk_put (cs := #[.int .i64 1, .int .i64 t191, .int .u8 ((32 + (Int.tmod ((rd_T56 l1 x7_1).f2) 95)) % 256), .int .i64 0, .int .i64 0]) ?_ 3 _ rfl; (with_reducible repeat (first | refine blk_drewN ?_ _ | refine blk_drew ?_ | refine blk_alloc ?_ _)); refine blk_put (cs := #[.int .i64 1, .int .i64 t191, .int .u8 0, .int .i64 0, .int .i64 0]) ?_ 2 _ rfl; (with_reducible repeat (first | refine blk_drewN ?_ _ | refine blk_drew ?_ | refine blk_alloc ?_ _)); refine blk_put (cs := #[.int .i64 1, .int .i64 0, .int .u8 0, .int .i64 0, .int .i64 0]) ?_ 1 _ rfl; (with_reducible repeat (first | refine blk_drewN ?_ _ | refine blk_drew ?_ | refine blk_alloc ?_ _)); refine blk_put (cs := #[.int .i64 0, .int .i64 0, .int .u8 0, .int .i64 0, .int .i64 0]) ?_ 0 _ rfl; (with_reducible repeat (first | refine blk_drewN ?_ _ | refine blk_drew ?_ | refine blk_alloc ?_ _)); exact BK193.out⟩, ⟨by repeat (first | (with_reducible first | exact HB.out | apply below_alloc | apply pw_below_drewN | apply below_drew1 | refine below_set ?_ GE193.out) | exact HB.out)⟩⟩
                  · replace c24 := Bool.eq_false_iff.mpr c24
                    subst c24
                    have H1 : (jotterlaw17_DiffLeast.j2 kj6 t181 l1 x5_1 x6_1 x7_1 false 1 t191 ((32 + (Int.tmod ((rd_T56 l1 x7_1).f2) 95)) % 256) 64 (wrap64 (1 + (Int.tmod x7_1 64)))) = some r := by rw [if_neg (show ¬ (false = true) by decide)] at H; exact H
                    clear H
                    have H := H1
                    clear H1
                    have H' := Aside0.mk H
                    clear H
                    have p194 : 0 ≤ (x7_1 : Int) := of_decide_eq_true (by first | (with_reducible assumption) | assumption)
                    have q194 : x7_1 < (l1.length : Int) := of_decide_eq_true (by first | (with_reducible assumption) | assumption)
                    obtain ⟨ad194, e194, hx194_0, hx194_1, hx194_2⟩ := at_T56 HR1.out x7_1 p194 q194
                    (try rw [← Nbq23.out] at hx194_0)
                    obtain rfl : ad190 = ad194 := (by injection e194)
                    have hn194_0 : ad190.block ≠ gb193 := Nat.ne_of_lt (Nat.lt_of_lt_of_le (by have := World.block_lt_of_cell? _ _ hx194_0; first | rwa [add_block] at this | exact this) GW193.out)
                    have hn194_1 : ad190.block ≠ gb193 := Nat.ne_of_lt (Nat.lt_of_lt_of_le (by have := World.block_lt_of_cell? _ _ hx194_0; first | rwa [add_block] at this | exact this) GW193.out)
                    have hn194_2 : ad190.block ≠ gb193 := Nat.ne_of_lt (Nat.lt_of_lt_of_le (by have := World.block_lt_of_cell? _ _ hx194_0; first | rwa [add_block] at this | exact this) GW193.out)
                    have hn194_3 : ad190.block ≠ gb193 := Nat.ne_of_lt (Nat.lt_of_lt_of_le (by have := World.block_lt_of_cell? _ _ hx194_0; first | rwa [add_block] at this | exact this) GW193.out)
                    have hn194_4 : ad190.block ≠ gb193 := Nat.ne_of_lt (Nat.lt_of_lt_of_le (by have := World.block_lt_of_cell? _ _ hx194_0; first | rwa [add_block] at this | exact this) GW193.out)
                    replace hx194_0 := (HB.out.cell (World.block_lt_of_cell? w _ hx194_0)).trans hx194_0
                    replace hx194_1 := (HB.out.cell (World.block_lt_of_cell? w _ hx194_1)).trans hx194_1
                    replace hx194_2 := (HB.out.cell (World.block_lt_of_cell? w _ hx194_2)).trans hx194_2
                    replace hx194_0 := (cell_far (p := ⟨gb193, 0, none⟩) (by first | (rw [add_block]; exact hn194_0) | (show (Addr.add _ _).block ≠ _; rw [add_block]; exact hn194_0) | exact hn194_0) (.int .i64 1)).trans hx194_0
                    replace hx194_1 := (cell_far (p := ⟨gb193, 0, none⟩) (by first | (rw [add_block]; exact hn194_0) | (show (Addr.add _ _).block ≠ _; rw [add_block]; exact hn194_0) | exact hn194_0) (.int .i64 1)).trans hx194_1
                    replace hx194_2 := (cell_far (p := ⟨gb193, 0, none⟩) (by first | (rw [add_block]; exact hn194_0) | (show (Addr.add _ _).block ≠ _; rw [add_block]; exact hn194_0) | exact hn194_0) (.int .i64 1)).trans hx194_2
                    replace hx194_0 := (cell_far (p := ⟨gb193, 1, none⟩) (by first | (rw [add_block]; exact hn194_1) | (show (Addr.add _ _).block ≠ _; rw [add_block]; exact hn194_1) | exact hn194_1) (.int .i64 t191)).trans hx194_0
                    replace hx194_1 := (cell_far (p := ⟨gb193, 1, none⟩) (by first | (rw [add_block]; exact hn194_1) | (show (Addr.add _ _).block ≠ _; rw [add_block]; exact hn194_1) | exact hn194_1) (.int .i64 t191)).trans hx194_1
                    replace hx194_2 := (cell_far (p := ⟨gb193, 1, none⟩) (by first | (rw [add_block]; exact hn194_1) | (show (Addr.add _ _).block ≠ _; rw [add_block]; exact hn194_1) | exact hn194_1) (.int .i64 t191)).trans hx194_2
                    replace hx194_0 := (cell_far (p := ⟨gb193, 2, none⟩) (by first | (rw [add_block]; exact hn194_2) | (show (Addr.add _ _).block ≠ _; rw [add_block]; exact hn194_2) | exact hn194_2) (.int .u8 ((32 + (Int.tmod ((rd_T56 l1 x7_1).f2) 95)) % 256))).trans hx194_0
                    replace hx194_1 := (cell_far (p := ⟨gb193, 2, none⟩) (by first | (rw [add_block]; exact hn194_2) | (show (Addr.add _ _).block ≠ _; rw [add_block]; exact hn194_2) | exact hn194_2) (.int .u8 ((32 + (Int.tmod ((rd_T56 l1 x7_1).f2) 95)) % 256))).trans hx194_1
                    replace hx194_2 := (cell_far (p := ⟨gb193, 2, none⟩) (by first | (rw [add_block]; exact hn194_2) | (show (Addr.add _ _).block ≠ _; rw [add_block]; exact hn194_2) | exact hn194_2) (.int .u8 ((32 + (Int.tmod ((rd_T56 l1 x7_1).f2) 95)) % 256))).trans hx194_2
                    replace hx194_0 := (cell_far (p := ⟨gb193, 3, none⟩) (by first | (rw [add_block]; exact hn194_3) | (show (Addr.add _ _).block ≠ _; rw [add_block]; exact hn194_3) | exact hn194_3) (.int .i64 64)).trans hx194_0
                    replace hx194_1 := (cell_far (p := ⟨gb193, 3, none⟩) (by first | (rw [add_block]; exact hn194_3) | (show (Addr.add _ _).block ≠ _; rw [add_block]; exact hn194_3) | exact hn194_3) (.int .i64 64)).trans hx194_1
                    replace hx194_2 := (cell_far (p := ⟨gb193, 3, none⟩) (by first | (rw [add_block]; exact hn194_3) | (show (Addr.add _ _).block ≠ _; rw [add_block]; exact hn194_3) | exact hn194_3) (.int .i64 64)).trans hx194_2
                    replace hx194_0 := (cell_far (p := ⟨gb193, 4, none⟩) (by first | (rw [add_block]; exact hn194_4) | (show (Addr.add _ _).block ≠ _; rw [add_block]; exact hn194_4) | exact hn194_4) (.int .i64 (wrap64 (1 + (Int.tmod x7_1 64))))).trans hx194_0
                    replace hx194_1 := (cell_far (p := ⟨gb193, 4, none⟩) (by first | (rw [add_block]; exact hn194_4) | (show (Addr.add _ _).block ≠ _; rw [add_block]; exact hn194_4) | exact hn194_4) (.int .i64 (wrap64 (1 + (Int.tmod x7_1 64))))).trans hx194_1
                    replace hx194_2 := (cell_far (p := ⟨gb193, 4, none⟩) (by first | (rw [add_block]; exact hn194_4) | (show (Addr.add _ _).block ≠ _; rw [add_block]; exact hn194_4) | exact hn194_4) (.int .i64 (wrap64 (1 + (Int.tmod x7_1 64))))).trans hx194_2
                    clear hn194_0
                    clear hn194_1
                    clear hn194_2
                    clear hn194_3
                    clear hn194_4
                    replace p194 := eq_true p194
                    replace q194 := eq_true q194
                    go_wp2
                    all_goals (try (exact nomatch (show false = true from Nbq23.out.trans (by assumption))))
                    go_meet
                    case rel => exact ⟨_, (false), (by first | rfl | (simp; done) | (simp [*]; done)), H', ⟨by have := HK1.out; have := HJ6.out; first | omega | exact Nat.le_refl _⟩, ⟨by (with_reducible repeat (first | apply Kd.R_alloc | apply Kd.R_drewN | apply Kd.R_drew)); exact Kd.R_mono (Kd.R_far (p := ⟨gb193, 4, none⟩) (Kd.R_far (p := ⟨gb193, 3, none⟩) (Kd.R_far (p := ⟨gb193, 2, none⟩) (Kd.R_far (p := ⟨gb193, 1, none⟩) (Kd.R_far (p := ⟨gb193, 0, none⟩) (Kd.R_types HO_5.out BK193.out (by decide)) (fun _ hk => hk.2) (.int .i64 1)) (fun _ hk => hk.2) (.int .i64 t191)) (fun _ hk => hk.2) (.int .u8 ((32 + (Int.tmod ((rd_T56 l1 x7_1).f2) 95)) % 256))) (fun _ hk => hk.2) (.int .i64 64)) (fun _ hk => hk.2) (.int .i64 (wrap64 (1 + (Int.tmod x7_1 64))))) (fun _ hk => trivial)⟩, ⟨by (with_reducible repeat (first | refine blk_drewN ?_ _ | refine blk_drew ?_ | refine blk_alloc ?_ _)); refine blk_put (cs := #[.int .i64 1, .int .i64 t191, .int .u8 ((32 + (Int.tmod ((rd_T56 l1 x7_1).f2) 95)) % 256), .int .i64 64, .int .i64 0]) ?_ 4 _ rfl; (with_reducible repeat (first | refine blk_drewN ?_ _ | refine blk_drew ?_ | refine blk_alloc ?_ _)); refine blk_put (cs := #[.int .i64 1, .int .i64 t191, .int .u8 ((32 + (Int.tmod ((rd_T56 l1 x7_1).f2) 95)) % 256), .int .i64 0, .int .i64 0]) ?_ 3 _ rfl; (with_reducible repeat (first | refine blk_drewN ?_ _ | refine blk_drew ?_ | refine blk_alloc ?_ _)); refine blk_put (cs := #[.int .i64 1, .int .i64 t191, .int .u8 0, .int .i64 0, .int .i64 0]) ?_ 2 _ rfl; (with_reducible repeat (first | refine blk_drewN ?_ _ | refine blk_drew ?_ | refine blk_alloc ?_ _)); refine blk_put (cs := #[.int .i64 1, .int .i64 0, .int .u8 0, .int .i64 0, .int .i64 0]) ?_ 1 _ rfl; (with_reducible repeat (first | refine blk_drewN ?_ _ | refine blk_drew ?_ | refine blk_alloc ?_ _)); refine blk_put (cs := #[.int .i64 0, .int .i64 0, .int .u8 0, .int .i64 0, .int .i64 0]) ?_ 0 _ rfl; (with_reducible repeat (first | refine blk_drewN ?_ _ | refine blk_drew ?_ | refine blk_alloc ?_ _)); exact BK193.out⟩, ⟨by repeat (first | (with_reducible first | exact HB.out | apply below_alloc | apply pw_below_drewN | apply below_drew1 | refine below_set ?_ GE193.out) | exact HB.out)⟩⟩
                case rest =>
                  clear HC13
                  try clear c1
                  try clear p1
                  try clear q1
                  try clear hx1
                  try clear c2
                  try clear p2
                  try clear q2
                  try clear p6
                  try clear c8
                  try clear c8b0
                  try clear c9
                  try clear c10
                  try clear c10b0
                  try clear c11
                  try clear c11b0
                  try clear p19
                  try clear q19
                  try clear hx19
                  try clear c22
                  try clear q23
                  try clear c24
                  try clear hx190_0
                  try clear hx190_1
                  try clear hx190_2
                  try clear hx192_0
                  try clear hx192_1
                  try clear hx192_2
                  try clear hx194_0
                  try clear hx194_1
                  try clear hx194_2
                  try clear p190
                  try clear p192
                  try clear p194
                  try clear p2
                  try clear q190
                  try clear q192
                  try clear q194
                  obtain ⟨kq, x58_12, rfl, HA, HJ12, HO_5, BK193, HB⟩ := hcut
                  cases kq with
                  | zero => exact absurd HA.out (by simp [jotterlaw17_DiffLeast.j2])
                  | succ kj12 =>
                    have H := HA.out
                    clear HA
                    simp only [jotterlaw17_DiffLeast.j2] at H
                    by_cases c25 : x58_12 = true
                    · subst c25
                      have H1 : (if 0 ≤ x7_1 then (if x7_1 < (l1.length : Int) then ((jotterlaw17_into.f ((rd_T56 l1 x7_1).f1) (x5_1.length : Int)).bind fun t196 => ((doc_Apply.f kj12 x5_1 2 t196 0 64 (wrap64 (1 + (Int.tmod x7_1 64)))).bind fun bt197 => (if bt197.2 = 0 then (jotterlaw17_DiffLeast.l0 kj12 t181 l1 bt197.1 (wrap64 (x6_1 + 1)) (wrap64 (x7_1 + 1))) else (some false)))) else (none)) else (none)) = some r := by rw [if_pos rfl] at H; exact H
                      clear H
                      have H := H1
                      clear H1
                      by_cases c26 : 0 ≤ x7_1
                      · rw [if_pos c26] at H
                        have c26b0 : decide (0 ≤ x7_1) = true := decide_eq_true c26
                        clear c26
                        by_cases c27 : x7_1 < (l1.length : Int)
                        · rw [if_pos c27] at H
                          have c27b0 : decide (x7_1 < (l1.length : Int)) = true := decide_eq_true c27
                          clear c27
                          replace H := Option.bind_eq_some_iff.mp H
                          obtain ⟨t196, A280, H⟩ := H
                          replace H : ((doc_Apply.f kj12 x5_1 2 t196 0 64 (wrap64 (1 + (Int.tmod x7_1 64)))).bind fun bt197 => (if bt197.2 = 0 then (jotterlaw17_DiffLeast.l0 kj12 t181 l1 bt197.1 (wrap64 (x6_1 + 1)) (wrap64 (x7_1 + 1))) else (some false))) = some r := H
                          have A28 := Aside0.mk A280
                          clear A280
                          replace H := Option.bind_eq_some_iff.mp H
                          obtain ⟨⟨t197, t200⟩, A290, H⟩ := H
                          replace H : (if t200 = 0 then (jotterlaw17_DiffLeast.l0 kj12 t181 l1 t197 (wrap64 (x6_1 + 1)) (wrap64 (x7_1 + 1))) else (some false)) = some r := H
                          have A29 := Aside0.mk A290
                          clear A290
                          by_cases c30 : t200 = 0
                          · rw [if_pos c30] at H
                            have c30b0 : (t200 == 0) = true := beq_iff_eq.mpr c30
                            have c30b1 : (t200 != 0) = false := bne_eq_false_iff_eq.mpr c30
                            clear c30
                            have H' := Aside0.mk H
                            clear H
                            have hcz31_0 : wc.cell? ⟨gb193, 0, none⟩ = some (.int .i64 1) := (blk_cell BK193.out 0).trans rfl
                            have hcz31_1 : wc.cell? ⟨gb193, 1, none⟩ = some (.int .i64 t191) := (blk_cell BK193.out 1).trans rfl
                            have hcz31_2 : wc.cell? ⟨gb193, 2, none⟩ = some (.int .u8 ((32 + (Int.tmod ((rd_T56 l1 x7_1).f2) 95)) % 256)) := (blk_cell BK193.out 2).trans rfl
                            have hcz31_3 : wc.cell? ⟨gb193, 3, none⟩ = some (.int .i64 64) := (blk_cell BK193.out 3).trans rfl
                            have hcz31_4 : wc.cell? ⟨gb193, 4, none⟩ = some (.int .i64 (wrap64 (1 + (Int.tmod x7_1 64)))) := (blk_cell BK193.out 4).trans rfl
                            have hfz31_0 := blk_frozen BK193.out 0
                            have hfz31_1 := blk_frozen BK193.out 1
                            have hfz31_2 := blk_frozen BK193.out 2
                            have hfz31_3 := blk_frozen BK193.out 3
                            have hfz31_4 := blk_frozen BK193.out 4
                            have p195 : 0 ≤ (x7_1 : Int) := of_decide_eq_true (by first | (with_reducible assumption) | assumption)
                            have q195 : x7_1 < (l1.length : Int) := of_decide_eq_true (by first | (with_reducible assumption) | assumption)
                            obtain ⟨ad195, e195, hx195_0, hx195_1, hx195_2⟩ := at_T56 HR1.out x7_1 p195 q195
                            obtain rfl : ad190 = ad195 := (by injection e195)
                            have hn195_0 : ad190.block ≠ gb193 := Nat.ne_of_lt (Nat.lt_of_lt_of_le (by have := World.block_lt_of_cell? _ _ hx195_0; first | rwa [add_block] at this | exact this) GW193.out)
                            replace hx195_0 := (HB.out.cell (World.block_lt_of_cell? w _ hx195_0)).trans hx195_0
                            replace hx195_1 := (HB.out.cell (World.block_lt_of_cell? w _ hx195_1)).trans hx195_1
                            replace hx195_2 := (HB.out.cell (World.block_lt_of_cell? w _ hx195_2)).trans hx195_2
                            replace hx195_0 := (cell_far (p := ⟨gb193, 0, none⟩) (by first | (rw [add_block]; exact hn195_0) | (show (Addr.add _ _).block ≠ _; rw [add_block]; exact hn195_0) | exact hn195_0) (.int .i64 2)).trans hx195_0
                            replace hx195_1 := (cell_far (p := ⟨gb193, 0, none⟩) (by first | (rw [add_block]; exact hn195_0) | (show (Addr.add _ _).block ≠ _; rw [add_block]; exact hn195_0) | exact hn195_0) (.int .i64 2)).trans hx195_1
                            replace hx195_2 := (cell_far (p := ⟨gb193, 0, none⟩) (by first | (rw [add_block]; exact hn195_0) | (show (Addr.add _ _).block ≠ _; rw [add_block]; exact hn195_0) | exact hn195_0) (.int .i64 2)).trans hx195_2
                            clear hn195_0
                            replace p195 := eq_true p195
                            replace q195 := eq_true q195
                            go_wp2_with (first | ((with_reducible refine gate_callee (f := 22) rfl ?_); refine goesL_ (some 67) rfl rfl Try.func22 (by kernel_rfl) rfl #[.int .i64 ((rd_T56 l1 x7_1).f1), .int .i64 (x5_1.length : Int)] rfl (by (try simp only [List.map_toArray, List.map_cons, List.map_nil]); first | done | rfl | (simp only [List.length_drop, List.length_take]; rfl)) ?_; (with_reducible refine (jotterlaw17_into.calls ((rd_T56 l1 x7_1).f1) (x5_1.length : Int) t196 _ A28.out).mono ?_); rintro e w' ⟨rfl, ⟨nd, rfl⟩⟩; refine ⟨_, rfl, ?_⟩) | ((with_reducible refine gate_callee (f := 25) rfl ?_); refine goesL_ (some 73) rfl rfl Try.func25 (by kernel_rfl) rfl #[.slice Ao15 x5_1.length co15, .agg #[.int .i64 2, .int .i64 t196, .int .u8 0, .int .i64 64, .int .i64 (wrap64 (1 + (Int.tmod x7_1 64)))]] rfl (by (try simp only [List.map_toArray, List.map_cons, List.map_nil]); first | done | rfl | (simp only [List.length_drop, List.length_take]; rfl)) ?_; (with_reducible refine (doc_Apply.calls kj12 _ _ x5_1 2 t196 0 64 (wrap64 (1 + (Int.tmod x7_1 64))) t197 t200 _ ?side1 ?side2 A29.out).mono ?_); (case side1 => refine (Kd.R_reads' (e := 83) (base := w.heap.size) (ok := fun k_ => True) (n := x5_1.length) (c := co15) ?_).2.2; exact (by (with_reducible repeat (first | apply Kd.R_alloc | apply Kd.R_drewN | apply Kd.R_drew)); exact (Kd.R_mono (Kd.R_far (p := ⟨gb193, 2, none⟩) (Kd.R_far (p := ⟨gb193, 1, none⟩) (Kd.R_far (p := ⟨gb193, 0, none⟩) (Kd.R_types HO_5.out BK193.out (by decide)) (fun _ hk => hk.2) (.int .i64 2)) (fun _ hk => hk.2) (.int .i64 t196)) (fun _ hk => hk.2) (.int .u8 0)) (fun _ h_ => h_.1)))); (case side2 => exact (Kd.R_reads' HO_5.out).2.1); rintro e w32 ⟨v198, rfl, ho0, hb⟩; refine ⟨_, rfl, ?_⟩; have n0_ := Aside0.mk (Kd.R_elder' (by (with_reducible repeat (first | apply Kd.R_alloc | apply Kd.R_drewN | apply Kd.R_drew)); exact (Kd.R_mono (Kd.R_far (p := ⟨gb193, 2, none⟩) (Kd.R_far (p := ⟨gb193, 1, none⟩) (Kd.R_far (p := ⟨gb193, 0, none⟩) (Kd.R_types HO_5.out BK193.out (by decide)) (fun _ hk => hk.2) (.int .i64 2)) (fun _ hk => hk.2) (.int .i64 t196)) (fun _ hk => hk.2) (.int .u8 0)) (fun _ h_ => h_.1))) (Kd.R_base ho0) hb); have n1_ := Aside0.mk (Kd.R_lower (Kd.R_new' ho0 (Kd.R_lt (by (with_reducible repeat (first | apply Kd.R_alloc | apply Kd.R_drewN | apply Kd.R_drew)); exact (Kd.R_mono (Kd.R_far (p := ⟨gb193, 2, none⟩) (Kd.R_far (p := ⟨gb193, 1, none⟩) (Kd.R_far (p := ⟨gb193, 0, none⟩) (Kd.R_types HO_5.out BK193.out (by decide)) (fun _ hk => hk.2) (.int .i64 2)) (fun _ hk => hk.2) (.int .i64 t196)) (fun _ hk => hk.2) (.int .u8 0)) (fun _ h_ => h_.1))))) (below_size (by repeat (first | (with_reducible first | exact HB.out | apply below_alloc | apply pw_below_drewN | apply below_drew1 | refine below_set ?_ GE193.out) | exact HB.out)))); have n2_ := Aside0.mk (blk_below (g := gb193) (o := .cells #[.int .i64 2, .int .i64 t196, .int .u8 0, .int .i64 64, .int .i64 (wrap64 (1 + (Int.tmod x7_1 64)))] 38 (0, 0)) (by (with_reducible repeat (first | refine blk_drewN ?_ _ | refine blk_drew ?_ | refine blk_alloc ?_ _)); refine blk_put (cs := #[.int .i64 2, .int .i64 t196, .int .u8 ((32 + (Int.tmod ((rd_T56 l1 x7_1).f2) 95)) % 256), .int .i64 64, .int .i64 (wrap64 (1 + (Int.tmod x7_1 64)))]) ?_ 2 _ rfl; (with_reducible repeat (first | refine blk_drewN ?_ _ | refine blk_drew ?_ | refine blk_alloc ?_ _)); refine blk_put (cs := #[.int .i64 2, .int .i64 t191, .int .u8 ((32 + (Int.tmod ((rd_T56 l1 x7_1).f2) 95)) % 256), .int .i64 64, .int .i64 (wrap64 (1 + (Int.tmod x7_1 64)))]) ?_ 1 _ rfl; (with_reducible repeat (first | refine blk_drewN ?_ _ | refine blk_drew ?_ | refine blk_alloc ?_ _)); refine blk_put (cs := #[.int .i64 1, .int .i64 t191, .int .u8 ((32 + (Int.tmod ((rd_T56 l1 x7_1).f2) 95)) % 256), .int .i64 64, .int .i64 (wrap64 (1 + (Int.tmod x7_1 64)))]) ?_ 0 _ rfl; (with_reducible repeat (first | refine blk_drewN ?_ _ | refine blk_drew ?_ | refine blk_alloc ?_ _)); exact BK193.out) hb); have n3_ := Aside0.mk (below_step (by repeat (first | (with_reducible first | exact HB.out | apply below_alloc | apply pw_below_drewN | apply below_drew1 | refine below_set ?_ GE193.out) | exact HB.out)) hb); clear HO_5; clear BK193; clear HB; have HO_5 := n0_; have HO199 := n1_; have BK193 := n2_; have HB := n3_; clear n0_ n1_ n2_ n3_; (try clear hb); (try clear hb2); (try clear hk); (try clear hi); (try clear ho0)))
                            go_roundg kj12
                            case measure => have := HK1.out; have := HJ6.out; have := HJ12.out; omega
                            case rel => exact ⟨(t197), (wrap64 (x6_1 + 1)), (wrap64 (x7_1 + 1)), (by first | rfl | (simp; done) | (simp [*]; done)), (by first | rfl | (simp; done) | (simp [*]; done)), H', ⟨by have := HK1.out; have := HJ6.out; have := HJ12.out; omega⟩, ⟨by (with_reducible repeat (first | apply Kd.R_alloc | apply Kd.R_drewN | apply Kd.R_drew)); exact Kd.R_mono HO199.out (fun _ hk => trivial)⟩, ⟨by repeat (first | (with_reducible first | exact HB.out | apply below_alloc | apply pw_below_drewN | apply below_drew1 | refine below_set ?_ GE193.out) | exact HB.out)⟩⟩
                          · rw [if_neg c30] at H
                            have c30b0 : (t200 == 0) = false := beq_eq_false_iff_ne.mpr c30
                            have c30b1 : (t200 != 0) = true := bne_iff_ne.mpr c30
                            obtain rfl := Option.some.inj H
                            have hcz33_0 : wc.cell? ⟨gb193, 0, none⟩ = some (.int .i64 1) := (blk_cell BK193.out 0).trans rfl
                            have hcz33_1 : wc.cell? ⟨gb193, 1, none⟩ = some (.int .i64 t191) := (blk_cell BK193.out 1).trans rfl
                            have hcz33_2 : wc.cell? ⟨gb193, 2, none⟩ = some (.int .u8 ((32 + (Int.tmod ((rd_T56 l1 x7_1).f2) 95)) % 256)) := (blk_cell BK193.out 2).trans rfl
                            have hcz33_3 : wc.cell? ⟨gb193, 3, none⟩ = some (.int .i64 64) := (blk_cell BK193.out 3).trans rfl
                            have hcz33_4 : wc.cell? ⟨gb193, 4, none⟩ = some (.int .i64 (wrap64 (1 + (Int.tmod x7_1 64)))) := (blk_cell BK193.out 4).trans rfl
                            have hfz33_0 := blk_frozen BK193.out 0
                            have hfz33_1 := blk_frozen BK193.out 1
                            have hfz33_2 := blk_frozen BK193.out 2
                            have hfz33_3 := blk_frozen BK193.out 3
                            have hfz33_4 := blk_frozen BK193.out 4
                            have p195 : 0 ≤ (x7_1 : Int) := of_decide_eq_true (by first | (with_reducible assumption) | assumption)
                            have q195 : x7_1 < (l1.length : Int) := of_decide_eq_true (by first | (with_reducible assumption) | assumption)
                            obtain ⟨ad195, e195, hx195_0, hx195_1, hx195_2⟩ := at_T56 HR1.out x7_1 p195 q195
                            obtain rfl : ad190 = ad195 := (by injection e195)
                            have hn195_0 : ad190.block ≠ gb193 := Nat.ne_of_lt (Nat.lt_of_lt_of_le (by have := World.block_lt_of_cell? _ _ hx195_0; first | rwa [add_block] at this | exact this) GW193.out)
                            replace hx195_0 := (HB.out.cell (World.block_lt_of_cell? w _ hx195_0)).trans hx195_0
                            replace hx195_1 := (HB.out.cell (World.block_lt_of_cell? w _ hx195_1)).trans hx195_1
                            replace hx195_2 := (HB.out.cell (World.block_lt_of_cell? w _ hx195_2)).trans hx195_2
                            replace hx195_0 := (cell_far (p := ⟨gb193, 0, none⟩) (by first | (rw [add_block]; exact hn195_0) | (show (Addr.add _ _).block ≠ _; rw [add_block]; exact hn195_0) | exact hn195_0) (.int .i64 2)).trans hx195_0
                            replace hx195_1 := (cell_far (p := ⟨gb193, 0, none⟩) (by first | (rw [add_block]; exact hn195_0) | (show (Addr.add _ _).block ≠ _; rw [add_block]; exact hn195_0) | exact hn195_0) (.int .i64 2)).trans hx195_1
                            replace hx195_2 := (cell_far (p := ⟨gb193, 0, none⟩) (by first | (rw [add_block]; exact hn195_0) | (show (Addr.add _ _).block ≠ _; rw [add_block]; exact hn195_0) | exact hn195_0) (.int .i64 2)).trans hx195_2
                            clear hn195_0
                            replace p195 := eq_true p195
                            replace q195 := eq_true q195
                            go_wp2_with (first | ((with_reducible refine gate_callee (f := 22) rfl ?_); refine goesL_ (some 67) rfl rfl Try.func22 (by kernel_rfl) rfl #[.int .i64 ((rd_T56 l1 x7_1).f1), .int .i64 (x5_1.length : Int)] rfl (by (try simp only [List.map_toArray, List.map_cons, List.map_nil]); first | done | rfl | (simp only [List.length_drop, List.length_take]; rfl)) ?_; (with_reducible refine (jotterlaw17_into.calls ((rd_T56 l1 x7_1).f1) (x5_1.length : Int) t196 _ A28.out).mono ?_); rintro e w' ⟨rfl, ⟨nd, rfl⟩⟩; refine ⟨_, rfl, ?_⟩) | ((with_reducible refine gate_callee (f := 25) rfl ?_); refine goesL_ (some 73) rfl rfl Try.func25 (by kernel_rfl) rfl #[.slice Ao15 x5_1.length co15, .agg #[.int .i64 2, .int .i64 t196, .int .u8 0, .int .i64 64, .int .i64 (wrap64 (1 + (Int.tmod x7_1 64)))]] rfl (by (try simp only [List.map_toArray, List.map_cons, List.map_nil]); first | done | rfl | (simp only [List.length_drop, List.length_take]; rfl)) ?_; (with_reducible refine (doc_Apply.calls kj12 _ _ x5_1 2 t196 0 64 (wrap64 (1 + (Int.tmod x7_1 64))) t197 t200 _ ?side1 ?side2 A29.out).mono ?_); (case side1 => refine (Kd.R_reads' (e := 83) (base := w.heap.size) (ok := fun k_ => True) (n := x5_1.length) (c := co15) ?_).2.2; exact (by (with_reducible repeat (first | apply Kd.R_alloc | apply Kd.R_drewN | apply Kd.R_drew)); exact (Kd.R_mono (Kd.R_far (p := ⟨gb193, 2, none⟩) (Kd.R_far (p := ⟨gb193, 1, none⟩) (Kd.R_far (p := ⟨gb193, 0, none⟩) (Kd.R_types HO_5.out BK193.out (by decide)) (fun _ hk => hk.2) (.int .i64 2)) (fun _ hk => hk.2) (.int .i64 t196)) (fun _ hk => hk.2) (.int .u8 0)) (fun _ h_ => h_.1)))); (case side2 => exact (Kd.R_reads' HO_5.out).2.1); rintro e w34 ⟨v198, rfl, ho0, hb⟩; refine ⟨_, rfl, ?_⟩; have n0_ := Aside0.mk (Kd.R_elder' (by (with_reducible repeat (first | apply Kd.R_alloc | apply Kd.R_drewN | apply Kd.R_drew)); exact (Kd.R_mono (Kd.R_far (p := ⟨gb193, 2, none⟩) (Kd.R_far (p := ⟨gb193, 1, none⟩) (Kd.R_far (p := ⟨gb193, 0, none⟩) (Kd.R_types HO_5.out BK193.out (by decide)) (fun _ hk => hk.2) (.int .i64 2)) (fun _ hk => hk.2) (.int .i64 t196)) (fun _ hk => hk.2) (.int .u8 0)) (fun _ h_ => h_.1))) (Kd.R_base ho0) hb); have n1_ := Aside0.mk (Kd.R_lower (Kd.R_new' ho0 (Kd.R_lt (by (with_reducible repeat (first | apply Kd.R_alloc | apply Kd.R_drewN | apply Kd.R_drew)); exact (Kd.R_mono (Kd.R_far (p := ⟨gb193, 2, none⟩) (Kd.R_far (p := ⟨gb193, 1, none⟩) (Kd.R_far (p := ⟨gb193, 0, none⟩) (Kd.R_types HO_5.out BK193.out (by decide)) (fun _ hk => hk.2) (.int .i64 2)) (fun _ hk => hk.2) (.int .i64 t196)) (fun _ hk => hk.2) (.int .u8 0)) (fun _ h_ => h_.1))))) (below_size (by repeat (first | (with_reducible first | exact HB.out | apply below_alloc | apply pw_below_drewN | apply below_drew1 | refine below_set ?_ GE193.out) | exact HB.out)))); have n2_ := Aside0.mk (blk_below (g := gb193) (o := .cells #[.int .i64 2, .int .i64 t196, .int .u8 0, .int .i64 64, .int .i64 (wrap64 (1 + (Int.tmod x7_1 64)))] 38 (0, 0)) (by (with_reducible repeat (first | refine blk_drewN ?_ _ | refine blk_drew ?_ | refine blk_alloc ?_ _)); refine blk_put (cs := #[.int .i64 2, .int .i64 t196, .int .u8 ((32 + (Int.tmod ((rd_T56 l1 x7_1).f2) 95)) % 256), .int .i64 64, .int .i64 (wrap64 (1 + (Int.tmod x7_1 64)))]) ?_ 2 _ rfl; (with_reducible repeat (first | refine blk_drewN ?_ _ | refine blk_drew ?_ | refine blk_alloc ?_ _)); refine blk_put (cs := #[.int .i64 2, .int .i64 t191, .int .u8 ((32 + (Int.tmod ((rd_T56 l1 x7_1).f2) 95)) % 256), .int .i64 64, .int .i64 (wrap64 (1 + (Int.tmod x7_1 64)))]) ?_ 1 _ rfl; (with_reducible repeat (first | refine blk_drewN ?_ _ | refine blk_drew ?_ | refine blk_alloc ?_ _)); refine blk_put (cs := #[.int .i64 1, .int .i64 t191, .int .u8 ((32 + (Int.tmod ((rd_T56 l1 x7_1).f2) 95)) % 256), .int .i64 64, .int .i64 (wrap64 (1 + (Int.tmod x7_1 64)))]) ?_ 0 _ rfl; (with_reducible repeat (first | refine blk_drewN ?_ _ | refine blk_drew ?_ | refine blk_alloc ?_ _)); exact BK193.out) hb); have n3_ := Aside0.mk (below_step (by repeat (first | (with_reducible first | exact HB.out | apply below_alloc | apply pw_below_drewN | apply below_drew1 | refine below_set ?_ GE193.out) | exact HB.out)) hb); clear HO_5; clear BK193; clear HB; have HO_5 := n0_; have HO199 := n1_; have BK193 := n2_; have HB := n3_; clear n0_ n1_ n2_ n3_; (try clear hb); (try clear hb2); (try clear hk); (try clear hi); (try clear ho0)))
                            go_ret
                            exact ⟨by first | rfl | (simp [errW_none, errW_some] <;> rfl) | (simp [*, errW_none, errW_some] <;> rfl), by repeat (first | (with_reducible first | exact HB.out | apply below_alloc | apply pw_below_drewN | apply below_drew1 | refine below_set ?_ GE193.out) | exact HB.out)⟩
                        · rw [if_neg c27] at H
                          exact absurd H (by simp)
                      · rw [if_neg c26] at H
                        exact absurd H (by simp)
                    · replace c25 := Bool.eq_false_iff.mpr c25
                      subst c25
                      have H1 : ((doc_Apply.f kj12 x5_1 1 t191 ((32 + (Int.tmod ((rd_T56 l1 x7_1).f2) 95)) % 256) 64 (wrap64 (1 + (Int.tmod x7_1 64)))).bind fun bt201 => (if bt201.2 = 0 then (jotterlaw17_DiffLeast.l0 kj12 t181 l1 bt201.1 (wrap64 (x6_1 + 1)) (wrap64 (x7_1 + 1))) else (some false))) = some r := by rw [if_neg (show ¬ (false = true) by decide)] at H; exact H
                      clear H
                      have H := H1
                      clear H1
                      replace H := Option.bind_eq_some_iff.mp H
                      obtain ⟨⟨t201, t204⟩, A350, H⟩ := H
                      replace H : (if t204 = 0 then (jotterlaw17_DiffLeast.l0 kj12 t181 l1 t201 (wrap64 (x6_1 + 1)) (wrap64 (x7_1 + 1))) else (some false)) = some r := H
                      have A35 := Aside0.mk A350
                      clear A350
                      by_cases c36 : t204 = 0
                      · rw [if_pos c36] at H
                        have c36b0 : (t204 == 0) = true := beq_iff_eq.mpr c36
                        have c36b1 : (t204 != 0) = false := bne_eq_false_iff_eq.mpr c36
                        clear c36
                        have H' := Aside0.mk H
                        clear H
                        have hcz37_0 : wc.cell? ⟨gb193, 0, none⟩ = some (.int .i64 1) := (blk_cell BK193.out 0).trans rfl
                        have hcz37_1 : wc.cell? ⟨gb193, 1, none⟩ = some (.int .i64 t191) := (blk_cell BK193.out 1).trans rfl
                        have hcz37_2 : wc.cell? ⟨gb193, 2, none⟩ = some (.int .u8 ((32 + (Int.tmod ((rd_T56 l1 x7_1).f2) 95)) % 256)) := (blk_cell BK193.out 2).trans rfl
                        have hcz37_3 : wc.cell? ⟨gb193, 3, none⟩ = some (.int .i64 64) := (blk_cell BK193.out 3).trans rfl
                        have hcz37_4 : wc.cell? ⟨gb193, 4, none⟩ = some (.int .i64 (wrap64 (1 + (Int.tmod x7_1 64)))) := (blk_cell BK193.out 4).trans rfl
                        have hfz37_0 := blk_frozen BK193.out 0
                        have hfz37_1 := blk_frozen BK193.out 1
                        have hfz37_2 := blk_frozen BK193.out 2
                        have hfz37_3 := blk_frozen BK193.out 3
                        have hfz37_4 := blk_frozen BK193.out 4
                        go_wp2_with (first | ((with_reducible refine gate_callee (f := 25) rfl ?_); refine goesL_ (some 73) rfl rfl Try.func25 (by kernel_rfl) rfl #[.slice Ao15 x5_1.length co15, .agg #[.int .i64 1, .int .i64 t191, .int .u8 ((32 + (Int.tmod ((rd_T56 l1 x7_1).f2) 95)) % 256), .int .i64 64, .int .i64 (wrap64 (1 + (Int.tmod x7_1 64)))]] rfl (by (try simp only [List.map_toArray, List.map_cons, List.map_nil]); first | done | rfl | (simp only [List.length_drop, List.length_take]; rfl)) ?_; (with_reducible refine (doc_Apply.calls kj12 _ _ x5_1 1 t191 ((32 + (Int.tmod ((rd_T56 l1 x7_1).f2) 95)) % 256) 64 (wrap64 (1 + (Int.tmod x7_1 64))) t201 t204 _ ?side1 ?side2 A35.out).mono ?_); (case side1 => repeat (first | exact (Kd.R_reads' HO_5.out).2.2 | (with_reducible refine Kd.C_alloc ?_ _) | (with_reducible refine Kd.C_drewN ?_ _) | (with_reducible refine Kd.C_drew ?_))); (case side2 => exact (Kd.R_reads' HO_5.out).2.1); rintro e w38 ⟨v202, rfl, ho0, hb⟩; refine ⟨_, rfl, ?_⟩; have n0_ := Aside0.mk (Kd.R_elder' (by (with_reducible repeat (first | apply Kd.R_alloc | apply Kd.R_drewN | apply Kd.R_drew)); exact HO_5.out) (Kd.R_base ho0) hb); have n1_ := Aside0.mk (Kd.R_lower (Kd.R_new' ho0 (Kd.R_lt (by (with_reducible repeat (first | apply Kd.R_alloc | apply Kd.R_drewN | apply Kd.R_drew)); exact HO_5.out))) (below_size (by repeat (first | (with_reducible first | exact HB.out | apply below_alloc | apply pw_below_drewN | apply below_drew1 | refine below_set ?_ GE193.out) | exact HB.out)))); have n2_ := Aside0.mk (blk_below (g := gb193) (o := .cells #[.int .i64 1, .int .i64 t191, .int .u8 ((32 + (Int.tmod ((rd_T56 l1 x7_1).f2) 95)) % 256), .int .i64 64, .int .i64 (wrap64 (1 + (Int.tmod x7_1 64)))] 38 (0, 0)) (by (with_reducible repeat (first | refine blk_drewN ?_ _ | refine blk_drew ?_ | refine blk_alloc ?_ _)); exact BK193.out) hb); have n3_ := Aside0.mk (below_step (by repeat (first | (with_reducible first | exact HB.out | apply below_alloc | apply pw_below_drewN | apply below_drew1 | refine below_set ?_ GE193.out) | exact HB.out)) hb); clear HO_5; clear BK193; clear HB; have HO_5 := n0_; have HO203 := n1_; have BK193 := n2_; have HB := n3_; clear n0_ n1_ n2_ n3_; (try clear hb); (try clear hb2); (try clear hk); (try clear hi); (try clear ho0)))
                        go_roundg kj12
                        case measure => have := HK1.out; have := HJ6.out; have := HJ12.out; omega
                        case rel => exact ⟨(t201), (wrap64 (x6_1 + 1)), (wrap64 (x7_1 + 1)), (by first | rfl | (simp; done) | (simp [*]; done)), (by first | rfl | (simp; done) | (simp [*]; done)), H', ⟨by have := HK1.out; have := HJ6.out; have := HJ12.out; omega⟩, ⟨by (with_reducible repeat (first | apply Kd.R_alloc | apply Kd.R_drewN | apply Kd.R_drew)); exact Kd.R_mono HO203.out (fun _ hk => trivial)⟩, ⟨by repeat (first | (with_reducible first | exact HB.out | apply below_alloc | apply pw_below_drewN | apply below_drew1 | refine below_set ?_ GE193.out) | exact HB.out)⟩⟩
                      · rw [if_neg c36] at H
                        have c36b0 : (t204 == 0) = false := beq_eq_false_iff_ne.mpr c36
                        have c36b1 : (t204 != 0) = true := bne_iff_ne.mpr c36
                        obtain rfl := Option.some.inj H
                        have hcz39_0 : wc.cell? ⟨gb193, 0, none⟩ = some (.int .i64 1) := (blk_cell BK193.out 0).trans rfl
                        have hcz39_1 : wc.cell? ⟨gb193, 1, none⟩ = some (.int .i64 t191) := (blk_cell BK193.out 1).trans rfl
                        have hcz39_2 : wc.cell? ⟨gb193, 2, none⟩ = some (.int .u8 ((32 + (Int.tmod ((rd_T56 l1 x7_1).f2) 95)) % 256)) := (blk_cell BK193.out 2).trans rfl
                        have hcz39_3 : wc.cell? ⟨gb193, 3, none⟩ = some (.int .i64 64) := (blk_cell BK193.out 3).trans rfl
                        have hcz39_4 : wc.cell? ⟨gb193, 4, none⟩ = some (.int .i64 (wrap64 (1 + (Int.tmod x7_1 64)))) := (blk_cell BK193.out 4).trans rfl
                        have hfz39_0 := blk_frozen BK193.out 0
                        have hfz39_1 := blk_frozen BK193.out 1
                        have hfz39_2 := blk_frozen BK193.out 2
                        have hfz39_3 := blk_frozen BK193.out 3
                        have hfz39_4 := blk_frozen BK193.out 4
                        go_wp2_with (first | ((with_reducible refine gate_callee (f := 25) rfl ?_); refine goesL_ (some 73) rfl rfl Try.func25 (by kernel_rfl) rfl #[.slice Ao15 x5_1.length co15, .agg #[.int .i64 1, .int .i64 t191, .int .u8 ((32 + (Int.tmod ((rd_T56 l1 x7_1).f2) 95)) % 256), .int .i64 64, .int .i64 (wrap64 (1 + (Int.tmod x7_1 64)))]] rfl (by (try simp only [List.map_toArray, List.map_cons, List.map_nil]); first | done | rfl | (simp only [List.length_drop, List.length_take]; rfl)) ?_; (with_reducible refine (doc_Apply.calls kj12 _ _ x5_1 1 t191 ((32 + (Int.tmod ((rd_T56 l1 x7_1).f2) 95)) % 256) 64 (wrap64 (1 + (Int.tmod x7_1 64))) t201 t204 _ ?side1 ?side2 A35.out).mono ?_); (case side1 => repeat (first | exact (Kd.R_reads' HO_5.out).2.2 | (with_reducible refine Kd.C_alloc ?_ _) | (with_reducible refine Kd.C_drewN ?_ _) | (with_reducible refine Kd.C_drew ?_))); (case side2 => exact (Kd.R_reads' HO_5.out).2.1); rintro e w40 ⟨v202, rfl, ho0, hb⟩; refine ⟨_, rfl, ?_⟩; have n0_ := Aside0.mk (Kd.R_elder' (by (with_reducible repeat (first | apply Kd.R_alloc | apply Kd.R_drewN | apply Kd.R_drew)); exact HO_5.out) (Kd.R_base ho0) hb); have n1_ := Aside0.mk (Kd.R_lower (Kd.R_new' ho0 (Kd.R_lt (by (with_reducible repeat (first | apply Kd.R_alloc | apply Kd.R_drewN | apply Kd.R_drew)); exact HO_5.out))) (below_size (by repeat (first | (with_reducible first | exact HB.out | apply below_alloc | apply pw_below_drewN | apply below_drew1 | refine below_set ?_ GE193.out) | exact HB.out)))); have n2_ := Aside0.mk (blk_below (g := gb193) (o := .cells #[.int .i64 1, .int .i64 t191, .int .u8 ((32 + (Int.tmod ((rd_T56 l1 x7_1).f2) 95)) % 256), .int .i64 64, .int .i64 (wrap64 (1 + (Int.tmod x7_1 64)))] 38 (0, 0)) (by (with_reducible repeat (first | refine blk_drewN ?_ _ | refine blk_drew ?_ | refine blk_alloc ?_ _)); exact BK193.out) hb); have n3_ := Aside0.mk (below_step (by repeat (first | (with_reducible first | exact HB.out | apply below_alloc | apply pw_below_drewN | apply below_drew1 | refine below_set ?_ GE193.out) | exact HB.out)) hb); clear HO_5; clear BK193; clear HB; have HO_5 := n0_; have HO203 := n1_; have BK193 := n2_; have HB := n3_; clear n0_ n1_ n2_ n3_; (try clear hb); (try clear hb2); (try clear hk); (try clear hi); (try clear ho0)))
                        go_ret
                        exact ⟨by first | rfl | (simp [errW_none, errW_some] <;> rfl) | (simp [*, errW_none, errW_some] <;> rfl), by repeat (first | (with_reducible first | exact HB.out | apply below_alloc | apply pw_below_drewN | apply below_drew1 | refine below_set ?_ GE193.out) | exact HB.out)⟩
              · rw [if_neg c11] at H
                exact absurd H (by simp)
            · rw [if_neg c10] at H
              exact absurd H (by simp)
          · replace c9 := Bool.eq_false_iff.mpr c9
            subst c9
            have H1 : ((doc_Text.f kj6 x5_1).bind fun t185 => ((diff_Distance.f t181 t185).bind fun bt186 => (if t181.size + 1 ≤ 9223372036854775807 then ((diff_Distance.f t181 (t181 ++ (⟨#[120]⟩ : ByteArray))).bind fun bt188 => (if bt186.2 = 0 then (if bt188.2 = 0 then (if bt188.1 = 1 then (if bt186.1 ≥ 0 then (if bt186.1 ≤ x6_1 then (some ((Int.tmod (wrap64 (x6_1 - bt186.1)) 2) == 0)) else (some false)) else (some false)) else (some false)) else (some false)) else (some false))) else (none)))) = some r := by rw [if_neg (show ¬ (false = true) by decide)] at H; exact H
            clear H
            have H := H1
            clear H1
            replace H := Option.bind_eq_some_iff.mp H
            obtain ⟨t185, A410, H⟩ := H
            replace H : ((diff_Distance.f t181 t185).bind fun bt186 => (if t181.size + 1 ≤ 9223372036854775807 then ((diff_Distance.f t181 (t181 ++ (⟨#[120]⟩ : ByteArray))).bind fun bt188 => (if bt186.2 = 0 then (if bt188.2 = 0 then (if bt188.1 = 1 then (if bt186.1 ≥ 0 then (if bt186.1 ≤ x6_1 then (some ((Int.tmod (wrap64 (x6_1 - bt186.1)) 2) == 0)) else (some false)) else (some false)) else (some false)) else (some false)) else (some false))) else (none))) = some r := H
            have A41 := Aside0.mk A410
            clear A410
            replace H := Option.bind_eq_some_iff.mp H
            obtain ⟨⟨t186, t187⟩, A420, H⟩ := H
            replace H : (if t181.size + 1 ≤ 9223372036854775807 then ((diff_Distance.f t181 (t181 ++ (⟨#[120]⟩ : ByteArray))).bind fun bt188 => (if t187 = 0 then (if bt188.2 = 0 then (if bt188.1 = 1 then (if t186 ≥ 0 then (if t186 ≤ x6_1 then (some ((Int.tmod (wrap64 (x6_1 - t186)) 2) == 0)) else (some false)) else (some false)) else (some false)) else (some false)) else (some false))) else (none)) = some r := H
            have A42 := Aside0.mk A420
            clear A420
            by_cases c43 : t181.size + 1 ≤ 9223372036854775807
            · rw [if_pos c43] at H
              have c43b0 := eq_true c43
              have c43b1 : decide (t181.size + 1 ≤ 9223372036854775807) = true := decide_eq_true c43
              try have c43b2 : (9223372036854775807 < t181.size + 1) = False := eq_false (Nat.not_lt.2 c43)
              replace H := Option.bind_eq_some_iff.mp H
              obtain ⟨⟨t188, t189⟩, A440, H⟩ := H
              replace H : (if t187 = 0 then (if t189 = 0 then (if t188 = 1 then (if t186 ≥ 0 then (if t186 ≤ x6_1 then (some ((Int.tmod (wrap64 (x6_1 - t186)) 2) == 0)) else (some false)) else (some false)) else (some false)) else (some false)) else (some false)) = some r := H
              have A44 := Aside0.mk A440
              clear A440
              by_cases c45 : t187 = 0
              · rw [if_pos c45] at H
                have c45b0 : (t187 == 0) = true := beq_iff_eq.mpr c45
                have c45b1 : (t187 != 0) = false := bne_eq_false_iff_eq.mpr c45
                clear c45
                by_cases c46 : t189 = 0
                · rw [if_pos c46] at H
                  have c46b0 : (t189 == 0) = true := beq_iff_eq.mpr c46
                  have c46b1 : (t189 != 0) = false := bne_eq_false_iff_eq.mpr c46
                  clear c46
                  by_cases c47 : t188 = 1
                  · rw [if_pos c47] at H
                    have c47b0 : (t188 == 1) = true := beq_iff_eq.mpr c47
                    have c47b1 : (t188 != 1) = false := bne_eq_false_iff_eq.mpr c47
                    clear c47
                    by_cases c48 : t186 ≥ 0
                    · rw [if_pos c48] at H
                      have c48b0 : decide (0 ≤ t186) = true := decide_eq_true c48
                      clear c48
                      by_cases c49 : t186 ≤ x6_1
                      · rw [if_pos c49] at H
                        have c49b0 : decide (t186 ≤ x6_1) = true := decide_eq_true c49
                        clear c49
                        obtain rfl := Option.some.inj H
                        obtain ⟨Ao50, co50, eo50⟩ := Kd.R_slice HO_5.out
                        subst eo50
                        go_wp2_with (first | ((with_reducible refine gate_callee (f := 26) rfl ?_); refine goesL_ (some 84) rfl rfl Try.func26 (by kernel_rfl) rfl #[.slice Ao50 x5_1.length co50] rfl (by (try simp only [List.map_toArray, List.map_cons, List.map_nil]); first | done | rfl | (simp only [List.length_drop, List.length_take]; rfl)) ?_; (with_reducible refine (doc_Text.calls kj6 _ _ x5_1 t185 _ ?side1 ?side2 A41.out).mono ?_); (case side1 => repeat (first | exact (Kd.R_reads' HO_5.out).2.2 | (with_reducible refine Kd.C_alloc ?_ _) | (with_reducible refine Kd.C_drewN ?_ _) | (with_reducible refine Kd.C_drew ?_))); (case side2 => exact (Kd.R_reads' HO_5.out).2.1); rintro e w51 ⟨rfl, hb⟩; refine ⟨_, rfl, ?_⟩; have n0_ := Aside0.mk (Kd.R_below (by (with_reducible repeat (first | apply Kd.R_alloc | apply Kd.R_drewN | apply Kd.R_drew)); exact HO_5.out) hb); have n1_ := Aside0.mk (below_step (by repeat (first | (with_reducible first | exact HB.out | apply below_alloc | apply pw_below_drewN | apply below_drew1) | exact HB.out)) hb); clear HO_5; clear HB; have HO_5 := n0_; have HB := n1_; clear n0_ n1_; (try clear hb); (try clear hb2); (try clear hk); (try clear hi)) | ((with_reducible refine gate_callee (f := 12) rfl ?_); refine goesL_ (some 85) rfl rfl Try.func12 (by kernel_rfl) rfl #[.string t181, .string t185] rfl (by (try simp only [List.map_toArray, List.map_cons, List.map_nil]); first | done | rfl | (simp only [List.length_drop, List.length_take]; rfl)) ?_; (with_reducible refine (diff_Distance.calls t181 t185 t186 t187 _ A42.out).mono ?_); rintro e w52 ⟨rfl, hb⟩; refine ⟨_, rfl, ?_⟩; have n0_ := Aside0.mk (Kd.R_below (by (with_reducible repeat (first | apply Kd.R_alloc | apply Kd.R_drewN | apply Kd.R_drew)); exact HO_5.out) hb); have n1_ := Aside0.mk (below_step (by repeat (first | (with_reducible first | exact HB.out | apply below_alloc | apply pw_below_drewN | apply below_drew1) | exact HB.out)) hb); clear HO_5; clear HB; have HO_5 := n0_; have HB := n1_; clear n0_ n1_; (try clear hb); (try clear hb2); (try clear hk); (try clear hi)) | ((with_reducible refine gate_callee (f := 12) rfl ?_); refine goesL_ (some 92) rfl rfl Try.func12 (by kernel_rfl) rfl #[.string t181, .string (t181 ++ (⟨#[120]⟩ : ByteArray))] rfl (by (try simp only [List.map_toArray, List.map_cons, List.map_nil]); first | done | rfl | (simp only [List.length_drop, List.length_take]; rfl)) ?_; (with_reducible refine (diff_Distance.calls t181 (t181 ++ (⟨#[120]⟩ : ByteArray)) t188 t189 _ A44.out).mono ?_); rintro e w53 ⟨rfl, hb⟩; refine ⟨_, rfl, ?_⟩; have n0_ := Aside0.mk (Kd.R_below (by (with_reducible repeat (first | apply Kd.R_alloc | apply Kd.R_drewN | apply Kd.R_drew)); exact HO_5.out) hb); have n1_ := Aside0.mk (below_step (by repeat (first | (with_reducible first | exact HB.out | apply below_alloc | apply pw_below_drewN | apply below_drew1) | exact HB.out)) hb); clear HO_5; clear HB; have HO_5 := n0_; have HB := n1_; clear n0_ n1_; (try clear hb); (try clear hb2); (try clear hk); (try clear hi)))
                        go_ret
                        exact ⟨by first | rfl | (simp [errW_none, errW_some] <;> rfl) | (simp [*, errW_none, errW_some] <;> rfl), by repeat (first | (with_reducible first | exact HB.out | apply below_alloc | apply pw_below_drewN | apply below_drew1) | exact HB.out)⟩
                      · rw [if_neg c49] at H
                        have c49b0 : decide (t186 ≤ x6_1) = false := decide_eq_false c49
                        clear c49
                        obtain rfl := Option.some.inj H
                        obtain ⟨Ao54, co54, eo54⟩ := Kd.R_slice HO_5.out
                        subst eo54
                        go_wp2_with (first | ((with_reducible refine gate_callee (f := 26) rfl ?_); refine goesL_ (some 84) rfl rfl Try.func26 (by kernel_rfl) rfl #[.slice Ao54 x5_1.length co54] rfl (by (try simp only [List.map_toArray, List.map_cons, List.map_nil]); first | done | rfl | (simp only [List.length_drop, List.length_take]; rfl)) ?_; (with_reducible refine (doc_Text.calls kj6 _ _ x5_1 t185 _ ?side1 ?side2 A41.out).mono ?_); (case side1 => repeat (first | exact (Kd.R_reads' HO_5.out).2.2 | (with_reducible refine Kd.C_alloc ?_ _) | (with_reducible refine Kd.C_drewN ?_ _) | (with_reducible refine Kd.C_drew ?_))); (case side2 => exact (Kd.R_reads' HO_5.out).2.1); rintro e w55 ⟨rfl, hb⟩; refine ⟨_, rfl, ?_⟩; have n0_ := Aside0.mk (Kd.R_below (by (with_reducible repeat (first | apply Kd.R_alloc | apply Kd.R_drewN | apply Kd.R_drew)); exact HO_5.out) hb); have n1_ := Aside0.mk (below_step (by repeat (first | (with_reducible first | exact HB.out | apply below_alloc | apply pw_below_drewN | apply below_drew1) | exact HB.out)) hb); clear HO_5; clear HB; have HO_5 := n0_; have HB := n1_; clear n0_ n1_; (try clear hb); (try clear hb2); (try clear hk); (try clear hi)) | ((with_reducible refine gate_callee (f := 12) rfl ?_); refine goesL_ (some 85) rfl rfl Try.func12 (by kernel_rfl) rfl #[.string t181, .string t185] rfl (by (try simp only [List.map_toArray, List.map_cons, List.map_nil]); first | done | rfl | (simp only [List.length_drop, List.length_take]; rfl)) ?_; (with_reducible refine (diff_Distance.calls t181 t185 t186 t187 _ A42.out).mono ?_); rintro e w56 ⟨rfl, hb⟩; refine ⟨_, rfl, ?_⟩; have n0_ := Aside0.mk (Kd.R_below (by (with_reducible repeat (first | apply Kd.R_alloc | apply Kd.R_drewN | apply Kd.R_drew)); exact HO_5.out) hb); have n1_ := Aside0.mk (below_step (by repeat (first | (with_reducible first | exact HB.out | apply below_alloc | apply pw_below_drewN | apply below_drew1) | exact HB.out)) hb); clear HO_5; clear HB; have HO_5 := n0_; have HB := n1_; clear n0_ n1_; (try clear hb); (try clear hb2); (try clear hk); (try clear hi)) | ((with_reducible refine gate_callee (f := 12) rfl ?_); refine goesL_ (some 92) rfl rfl Try.func12 (by kernel_rfl) rfl #[.string t181, .string (t181 ++ (⟨#[120]⟩ : ByteArray))] rfl (by (try simp only [List.map_toArray, List.map_cons, List.map_nil]); first | done | rfl | (simp only [List.length_drop, List.length_take]; rfl)) ?_; (with_reducible refine (diff_Distance.calls t181 (t181 ++ (⟨#[120]⟩ : ByteArray)) t188 t189 _ A44.out).mono ?_); rintro e w57 ⟨rfl, hb⟩; refine ⟨_, rfl, ?_⟩; have n0_ := Aside0.mk (Kd.R_below (by (with_reducible repeat (first | apply Kd.R_alloc | apply Kd.R_drewN | apply Kd.R_drew)); exact HO_5.out) hb); have n1_ := Aside0.mk (below_step (by repeat (first | (with_reducible first | exact HB.out | apply below_alloc | apply pw_below_drewN | apply below_drew1) | exact HB.out)) hb); clear HO_5; clear HB; have HO_5 := n0_; have HB := n1_; clear n0_ n1_; (try clear hb); (try clear hb2); (try clear hk); (try clear hi)))
                        go_ret
                        exact ⟨by first | rfl | (simp [errW_none, errW_some] <;> rfl) | (simp [*, errW_none, errW_some] <;> rfl), by repeat (first | (with_reducible first | exact HB.out | apply below_alloc | apply pw_below_drewN | apply below_drew1) | exact HB.out)⟩
                    · rw [if_neg c48] at H
                      have c48b0 : decide (0 ≤ t186) = false := decide_eq_false c48
                      clear c48
                      obtain rfl := Option.some.inj H
                      obtain ⟨Ao58, co58, eo58⟩ := Kd.R_slice HO_5.out
                      subst eo58
                      go_wp2_with (first | ((with_reducible refine gate_callee (f := 26) rfl ?_); refine goesL_ (some 84) rfl rfl Try.func26 (by kernel_rfl) rfl #[.slice Ao58 x5_1.length co58] rfl (by (try simp only [List.map_toArray, List.map_cons, List.map_nil]); first | done | rfl | (simp only [List.length_drop, List.length_take]; rfl)) ?_; (with_reducible refine (doc_Text.calls kj6 _ _ x5_1 t185 _ ?side1 ?side2 A41.out).mono ?_); (case side1 => repeat (first | exact (Kd.R_reads' HO_5.out).2.2 | (with_reducible refine Kd.C_alloc ?_ _) | (with_reducible refine Kd.C_drewN ?_ _) | (with_reducible refine Kd.C_drew ?_))); (case side2 => exact (Kd.R_reads' HO_5.out).2.1); rintro e w59 ⟨rfl, hb⟩; refine ⟨_, rfl, ?_⟩; have n0_ := Aside0.mk (Kd.R_below (by (with_reducible repeat (first | apply Kd.R_alloc | apply Kd.R_drewN | apply Kd.R_drew)); exact HO_5.out) hb); have n1_ := Aside0.mk (below_step (by repeat (first | (with_reducible first | exact HB.out | apply below_alloc | apply pw_below_drewN | apply below_drew1) | exact HB.out)) hb); clear HO_5; clear HB; have HO_5 := n0_; have HB := n1_; clear n0_ n1_; (try clear hb); (try clear hb2); (try clear hk); (try clear hi)) | ((with_reducible refine gate_callee (f := 12) rfl ?_); refine goesL_ (some 85) rfl rfl Try.func12 (by kernel_rfl) rfl #[.string t181, .string t185] rfl (by (try simp only [List.map_toArray, List.map_cons, List.map_nil]); first | done | rfl | (simp only [List.length_drop, List.length_take]; rfl)) ?_; (with_reducible refine (diff_Distance.calls t181 t185 t186 t187 _ A42.out).mono ?_); rintro e w60 ⟨rfl, hb⟩; refine ⟨_, rfl, ?_⟩; have n0_ := Aside0.mk (Kd.R_below (by (with_reducible repeat (first | apply Kd.R_alloc | apply Kd.R_drewN | apply Kd.R_drew)); exact HO_5.out) hb); have n1_ := Aside0.mk (below_step (by repeat (first | (with_reducible first | exact HB.out | apply below_alloc | apply pw_below_drewN | apply below_drew1) | exact HB.out)) hb); clear HO_5; clear HB; have HO_5 := n0_; have HB := n1_; clear n0_ n1_; (try clear hb); (try clear hb2); (try clear hk); (try clear hi)) | ((with_reducible refine gate_callee (f := 12) rfl ?_); refine goesL_ (some 92) rfl rfl Try.func12 (by kernel_rfl) rfl #[.string t181, .string (t181 ++ (⟨#[120]⟩ : ByteArray))] rfl (by (try simp only [List.map_toArray, List.map_cons, List.map_nil]); first | done | rfl | (simp only [List.length_drop, List.length_take]; rfl)) ?_; (with_reducible refine (diff_Distance.calls t181 (t181 ++ (⟨#[120]⟩ : ByteArray)) t188 t189 _ A44.out).mono ?_); rintro e w61 ⟨rfl, hb⟩; refine ⟨_, rfl, ?_⟩; have n0_ := Aside0.mk (Kd.R_below (by (with_reducible repeat (first | apply Kd.R_alloc | apply Kd.R_drewN | apply Kd.R_drew)); exact HO_5.out) hb); have n1_ := Aside0.mk (below_step (by repeat (first | (with_reducible first | exact HB.out | apply below_alloc | apply pw_below_drewN | apply below_drew1) | exact HB.out)) hb); clear HO_5; clear HB; have HO_5 := n0_; have HB := n1_; clear n0_ n1_; (try clear hb); (try clear hb2); (try clear hk); (try clear hi)))
                      go_ret
                      exact ⟨by first | rfl | (simp [errW_none, errW_some] <;> rfl) | (simp [*, errW_none, errW_some] <;> rfl), by repeat (first | (with_reducible first | exact HB.out | apply below_alloc | apply pw_below_drewN | apply below_drew1) | exact HB.out)⟩
                  · rw [if_neg c47] at H
                    have c47b0 : (t188 == 1) = false := beq_eq_false_iff_ne.mpr c47
                    have c47b1 : (t188 != 1) = true := bne_iff_ne.mpr c47
                    obtain rfl := Option.some.inj H
                    obtain ⟨Ao62, co62, eo62⟩ := Kd.R_slice HO_5.out
                    subst eo62
                    go_wp2_with (first | ((with_reducible refine gate_callee (f := 26) rfl ?_); refine goesL_ (some 84) rfl rfl Try.func26 (by kernel_rfl) rfl #[.slice Ao62 x5_1.length co62] rfl (by (try simp only [List.map_toArray, List.map_cons, List.map_nil]); first | done | rfl | (simp only [List.length_drop, List.length_take]; rfl)) ?_; (with_reducible refine (doc_Text.calls kj6 _ _ x5_1 t185 _ ?side1 ?side2 A41.out).mono ?_); (case side1 => repeat (first | exact (Kd.R_reads' HO_5.out).2.2 | (with_reducible refine Kd.C_alloc ?_ _) | (with_reducible refine Kd.C_drewN ?_ _) | (with_reducible refine Kd.C_drew ?_))); (case side2 => exact (Kd.R_reads' HO_5.out).2.1); rintro e w63 ⟨rfl, hb⟩; refine ⟨_, rfl, ?_⟩; have n0_ := Aside0.mk (Kd.R_below (by (with_reducible repeat (first | apply Kd.R_alloc | apply Kd.R_drewN | apply Kd.R_drew)); exact HO_5.out) hb); have n1_ := Aside0.mk (below_step (by repeat (first | (with_reducible first | exact HB.out | apply below_alloc | apply pw_below_drewN | apply below_drew1) | exact HB.out)) hb); clear HO_5; clear HB; have HO_5 := n0_; have HB := n1_; clear n0_ n1_; (try clear hb); (try clear hb2); (try clear hk); (try clear hi)) | ((with_reducible refine gate_callee (f := 12) rfl ?_); refine goesL_ (some 85) rfl rfl Try.func12 (by kernel_rfl) rfl #[.string t181, .string t185] rfl (by (try simp only [List.map_toArray, List.map_cons, List.map_nil]); first | done | rfl | (simp only [List.length_drop, List.length_take]; rfl)) ?_; (with_reducible refine (diff_Distance.calls t181 t185 t186 t187 _ A42.out).mono ?_); rintro e w64 ⟨rfl, hb⟩; refine ⟨_, rfl, ?_⟩; have n0_ := Aside0.mk (Kd.R_below (by (with_reducible repeat (first | apply Kd.R_alloc | apply Kd.R_drewN | apply Kd.R_drew)); exact HO_5.out) hb); have n1_ := Aside0.mk (below_step (by repeat (first | (with_reducible first | exact HB.out | apply below_alloc | apply pw_below_drewN | apply below_drew1) | exact HB.out)) hb); clear HO_5; clear HB; have HO_5 := n0_; have HB := n1_; clear n0_ n1_; (try clear hb); (try clear hb2); (try clear hk); (try clear hi)) | ((with_reducible refine gate_callee (f := 12) rfl ?_); refine goesL_ (some 92) rfl rfl Try.func12 (by kernel_rfl) rfl #[.string t181, .string (t181 ++ (⟨#[120]⟩ : ByteArray))] rfl (by (try simp only [List.map_toArray, List.map_cons, List.map_nil]); first | done | rfl | (simp only [List.length_drop, List.length_take]; rfl)) ?_; (with_reducible refine (diff_Distance.calls t181 (t181 ++ (⟨#[120]⟩ : ByteArray)) t188 t189 _ A44.out).mono ?_); rintro e w65 ⟨rfl, hb⟩; refine ⟨_, rfl, ?_⟩; have n0_ := Aside0.mk (Kd.R_below (by (with_reducible repeat (first | apply Kd.R_alloc | apply Kd.R_drewN | apply Kd.R_drew)); exact HO_5.out) hb); have n1_ := Aside0.mk (below_step (by repeat (first | (with_reducible first | exact HB.out | apply below_alloc | apply pw_below_drewN | apply below_drew1) | exact HB.out)) hb); clear HO_5; clear HB; have HO_5 := n0_; have HB := n1_; clear n0_ n1_; (try clear hb); (try clear hb2); (try clear hk); (try clear hi)))
                    go_ret
                    exact ⟨by first | rfl | (simp [errW_none, errW_some] <;> rfl) | (simp [*, errW_none, errW_some] <;> rfl), by repeat (first | (with_reducible first | exact HB.out | apply below_alloc | apply pw_below_drewN | apply below_drew1) | exact HB.out)⟩
                · rw [if_neg c46] at H
                  have c46b0 : (t189 == 0) = false := beq_eq_false_iff_ne.mpr c46
                  have c46b1 : (t189 != 0) = true := bne_iff_ne.mpr c46
                  obtain rfl := Option.some.inj H
                  obtain ⟨Ao66, co66, eo66⟩ := Kd.R_slice HO_5.out
                  subst eo66
                  go_wp2_with (first | ((with_reducible refine gate_callee (f := 26) rfl ?_); refine goesL_ (some 84) rfl rfl Try.func26 (by kernel_rfl) rfl #[.slice Ao66 x5_1.length co66] rfl (by (try simp only [List.map_toArray, List.map_cons, List.map_nil]); first | done | rfl | (simp only [List.length_drop, List.length_take]; rfl)) ?_; (with_reducible refine (doc_Text.calls kj6 _ _ x5_1 t185 _ ?side1 ?side2 A41.out).mono ?_); (case side1 => repeat (first | exact (Kd.R_reads' HO_5.out).2.2 | (with_reducible refine Kd.C_alloc ?_ _) | (with_reducible refine Kd.C_drewN ?_ _) | (with_reducible refine Kd.C_drew ?_))); (case side2 => exact (Kd.R_reads' HO_5.out).2.1); rintro e w67 ⟨rfl, hb⟩; refine ⟨_, rfl, ?_⟩; have n0_ := Aside0.mk (Kd.R_below (by (with_reducible repeat (first | apply Kd.R_alloc | apply Kd.R_drewN | apply Kd.R_drew)); exact HO_5.out) hb); have n1_ := Aside0.mk (below_step (by repeat (first | (with_reducible first | exact HB.out | apply below_alloc | apply pw_below_drewN | apply below_drew1) | exact HB.out)) hb); clear HO_5; clear HB; have HO_5 := n0_; have HB := n1_; clear n0_ n1_; (try clear hb); (try clear hb2); (try clear hk); (try clear hi)) | ((with_reducible refine gate_callee (f := 12) rfl ?_); refine goesL_ (some 85) rfl rfl Try.func12 (by kernel_rfl) rfl #[.string t181, .string t185] rfl (by (try simp only [List.map_toArray, List.map_cons, List.map_nil]); first | done | rfl | (simp only [List.length_drop, List.length_take]; rfl)) ?_; (with_reducible refine (diff_Distance.calls t181 t185 t186 t187 _ A42.out).mono ?_); rintro e w68 ⟨rfl, hb⟩; refine ⟨_, rfl, ?_⟩; have n0_ := Aside0.mk (Kd.R_below (by (with_reducible repeat (first | apply Kd.R_alloc | apply Kd.R_drewN | apply Kd.R_drew)); exact HO_5.out) hb); have n1_ := Aside0.mk (below_step (by repeat (first | (with_reducible first | exact HB.out | apply below_alloc | apply pw_below_drewN | apply below_drew1) | exact HB.out)) hb); clear HO_5; clear HB; have HO_5 := n0_; have HB := n1_; clear n0_ n1_; (try clear hb); (try clear hb2); (try clear hk); (try clear hi)) | ((with_reducible refine gate_callee (f := 12) rfl ?_); refine goesL_ (some 92) rfl rfl Try.func12 (by kernel_rfl) rfl #[.string t181, .string (t181 ++ (⟨#[120]⟩ : ByteArray))] rfl (by (try simp only [List.map_toArray, List.map_cons, List.map_nil]); first | done | rfl | (simp only [List.length_drop, List.length_take]; rfl)) ?_; (with_reducible refine (diff_Distance.calls t181 (t181 ++ (⟨#[120]⟩ : ByteArray)) t188 t189 _ A44.out).mono ?_); rintro e w69 ⟨rfl, hb⟩; refine ⟨_, rfl, ?_⟩; have n0_ := Aside0.mk (Kd.R_below (by (with_reducible repeat (first | apply Kd.R_alloc | apply Kd.R_drewN | apply Kd.R_drew)); exact HO_5.out) hb); have n1_ := Aside0.mk (below_step (by repeat (first | (with_reducible first | exact HB.out | apply below_alloc | apply pw_below_drewN | apply below_drew1) | exact HB.out)) hb); clear HO_5; clear HB; have HO_5 := n0_; have HB := n1_; clear n0_ n1_; (try clear hb); (try clear hb2); (try clear hk); (try clear hi)))
                  go_ret
                  exact ⟨by first | rfl | (simp [errW_none, errW_some] <;> rfl) | (simp [*, errW_none, errW_some] <;> rfl), by repeat (first | (with_reducible first | exact HB.out | apply below_alloc | apply pw_below_drewN | apply below_drew1) | exact HB.out)⟩
              · rw [if_neg c45] at H
                have c45b0 : (t187 == 0) = false := beq_eq_false_iff_ne.mpr c45
                have c45b1 : (t187 != 0) = true := bne_iff_ne.mpr c45
                obtain rfl := Option.some.inj H
                obtain ⟨Ao70, co70, eo70⟩ := Kd.R_slice HO_5.out
                subst eo70
                go_wp2_with (first | ((with_reducible refine gate_callee (f := 26) rfl ?_); refine goesL_ (some 84) rfl rfl Try.func26 (by kernel_rfl) rfl #[.slice Ao70 x5_1.length co70] rfl (by (try simp only [List.map_toArray, List.map_cons, List.map_nil]); first | done | rfl | (simp only [List.length_drop, List.length_take]; rfl)) ?_; (with_reducible refine (doc_Text.calls kj6 _ _ x5_1 t185 _ ?side1 ?side2 A41.out).mono ?_); (case side1 => repeat (first | exact (Kd.R_reads' HO_5.out).2.2 | (with_reducible refine Kd.C_alloc ?_ _) | (with_reducible refine Kd.C_drewN ?_ _) | (with_reducible refine Kd.C_drew ?_))); (case side2 => exact (Kd.R_reads' HO_5.out).2.1); rintro e w71 ⟨rfl, hb⟩; refine ⟨_, rfl, ?_⟩; have n0_ := Aside0.mk (Kd.R_below (by (with_reducible repeat (first | apply Kd.R_alloc | apply Kd.R_drewN | apply Kd.R_drew)); exact HO_5.out) hb); have n1_ := Aside0.mk (below_step (by repeat (first | (with_reducible first | exact HB.out | apply below_alloc | apply pw_below_drewN | apply below_drew1) | exact HB.out)) hb); clear HO_5; clear HB; have HO_5 := n0_; have HB := n1_; clear n0_ n1_; (try clear hb); (try clear hb2); (try clear hk); (try clear hi)) | ((with_reducible refine gate_callee (f := 12) rfl ?_); refine goesL_ (some 85) rfl rfl Try.func12 (by kernel_rfl) rfl #[.string t181, .string t185] rfl (by (try simp only [List.map_toArray, List.map_cons, List.map_nil]); first | done | rfl | (simp only [List.length_drop, List.length_take]; rfl)) ?_; (with_reducible refine (diff_Distance.calls t181 t185 t186 t187 _ A42.out).mono ?_); rintro e w72 ⟨rfl, hb⟩; refine ⟨_, rfl, ?_⟩; have n0_ := Aside0.mk (Kd.R_below (by (with_reducible repeat (first | apply Kd.R_alloc | apply Kd.R_drewN | apply Kd.R_drew)); exact HO_5.out) hb); have n1_ := Aside0.mk (below_step (by repeat (first | (with_reducible first | exact HB.out | apply below_alloc | apply pw_below_drewN | apply below_drew1) | exact HB.out)) hb); clear HO_5; clear HB; have HO_5 := n0_; have HB := n1_; clear n0_ n1_; (try clear hb); (try clear hb2); (try clear hk); (try clear hi)) | ((with_reducible refine gate_callee (f := 12) rfl ?_); refine goesL_ (some 92) rfl rfl Try.func12 (by kernel_rfl) rfl #[.string t181, .string (t181 ++ (⟨#[120]⟩ : ByteArray))] rfl (by (try simp only [List.map_toArray, List.map_cons, List.map_nil]); first | done | rfl | (simp only [List.length_drop, List.length_take]; rfl)) ?_; (with_reducible refine (diff_Distance.calls t181 (t181 ++ (⟨#[120]⟩ : ByteArray)) t188 t189 _ A44.out).mono ?_); rintro e w73 ⟨rfl, hb⟩; refine ⟨_, rfl, ?_⟩; have n0_ := Aside0.mk (Kd.R_below (by (with_reducible repeat (first | apply Kd.R_alloc | apply Kd.R_drewN | apply Kd.R_drew)); exact HO_5.out) hb); have n1_ := Aside0.mk (below_step (by repeat (first | (with_reducible first | exact HB.out | apply below_alloc | apply pw_below_drewN | apply below_drew1) | exact HB.out)) hb); clear HO_5; clear HB; have HO_5 := n0_; have HB := n1_; clear n0_ n1_; (try clear hb); (try clear hb2); (try clear hk); (try clear hi)))
                go_ret
                exact ⟨by first | rfl | (simp [errW_none, errW_some] <;> rfl) | (simp [*, errW_none, errW_some] <;> rfl), by repeat (first | (with_reducible first | exact HB.out | apply below_alloc | apply pw_below_drewN | apply below_drew1) | exact HB.out)⟩
            · rw [if_neg c43] at H
              exact absurd H (by simp)

end Go.Proofs.Ytjnciljimacblaa.Q
