/- Go functions of the seat, each as a Lean function that tells its answer, and the proof that the call gives it. Condition: the arguments are read as lists. Laid by a program of this session. -/
import Derived.Test.YtjnciljimacblaaQx0
import Derived.Test.YtjnciljimacblaaQx1
import Derived.Test.YtjnciljimacblaaQx4
import Derived.Test.YtjnciljimacblaaQx8
import Derived.Test.YtjnciljimacblaaQx12
import Derived.Test.YtjnciljimacblaaQx13
import Derived.Test.YtjnciljimacblaaQx16
import Derived.Test.YtjnciljimacblaaQx20
import Derived.Test.YtjnciljimacblaaQx36
import Derived.Test.YtjnciljimacblaaQx37
namespace Go.Proofs.Ytjnciljimacblaa.Q
open Go.RowKit Go.Proofs.YtjnciljimacblaaW.PrintWords Go.Proofs.YtjnciljimacblaaW.PrintLast Go.Proofs.YtjnciljimacblaaW.PrintMore
attribute [local go_sem] max2_int min2_int max_two min_two max_three min_three max_four min_four   -- for this text's walks alone
set_option linter.unusedVariables false
set_option linter.unusedSimpArgs false

/-! ### jotterlaw17_DiffTurns: function 10 -/
mutual
def jotterlaw17_DiffTurns.j0 : Nat → ByteArray → ByteArray → Int → Option (Bool)
  | 0, _, _, _ => none
  | k + 1, x0, x1, x2 => (diff_Distance.f x0 x1).bind fun bt346 => ((diff_Common.f x0 x1).bind fun bt348 => ((diff_Between.f x0 x1 64 x2).bind fun bt350 => (if bt346.2 = 0 then (if bt348.2 = 0 then (jotterlaw17_DiffTurns.j1 k x0 x1 x2 bt346.1 bt348.1 bt350.1 bt350.2 (bt346.1 != (wrap64 ((wrap64 ((x0.size : Int) + (x1.size : Int))) - (wrap64 (2 * (bt348.1.size : Int))))))) else (jotterlaw17_DiffTurns.j1 k x0 x1 x2 bt346.1 bt348.1 bt350.1 bt350.2 true)) else (jotterlaw17_DiffTurns.j1 k x0 x1 x2 bt346.1 bt348.1 bt350.1 bt350.2 true))))
def jotterlaw17_DiffTurns.j1 : Nat → ByteArray → ByteArray → Int → Int → ByteArray → List (S38) → Int → Bool → Option (Bool)
  | 0, _, _, _, _, _, _, _, _ => none
  | k + 1, x0, x1, x2, x7, x9, x11, x12, x64 => if x64 = true then (some false) else (if x7 > (wrap64 (65 - x2)) then (if x12 = 172 then (some ((x11.length : Int) == 0)) else (some false)) else (if x12 = 0 then (jotterlaw17_DiffTurns.j2 k x0 x1 x2 x9 x11 ((x11.length : Int) != x7)) else (jotterlaw17_DiffTurns.j2 k x0 x1 x2 x9 x11 true)))
def jotterlaw17_DiffTurns.j2 : Nat → ByteArray → ByteArray → Int → ByteArray → List (S38) → Bool → Option (Bool)
  | 0, _, _, _, _, _, _ => none
  | k + 1, x0, x1, x2, x9, x11, x83 => if x83 = true then (some false) else ((jotterlaw17_text.f k x0).bind fun t354 => (jotterlaw17_DiffTurns.l0 k x1 x2 x9 x11 t354 0))
def jotterlaw17_DiffTurns.l0 : Nat → ByteArray → Int → ByteArray → List (S38) → List (S83) → Int → Option (Bool)
  | 0, _, _, _, _, _, _ => none
  | k + 1, x1, x2, x9, x11, x13, x14 => if x14 < (x11.length : Int) then (if 0 ≤ x14 then ((doc_Apply.f k x13 ((rd_T38 x11 x14).f0) ((rd_T38 x11 x14).f1) ((rd_T38 x11 x14).f2) ((rd_T38 x11 x14).f3) ((rd_T38 x11 x14).f4)).bind fun bt358 => (if bt358.2 = 0 then (if ((rd_T38 x11 x14).f0) = 0 then (some false) else (if ((rd_T38 x11 x14).f3) = 64 then (if ((rd_T38 x11 x14).f4) = (wrap64 (x2 + x14)) then (jotterlaw17_DiffTurns.l0 k x1 x2 x9 x11 bt358.1 (wrap64 (x14 + 1))) else (some false)) else (some false))) else (some false))) else (none)) else ((jotterlaw17_old.f k x13).bind fun t365 => ((doc_Text.f k x13).bind fun t368 => (if t368.toList = x1.toList then ((doc_Text.f k t365).bind fun t369 => (if t369.toList = x9.toList then ((jotterlaw17_rising.f k t365).bind fun t370 => (some t370)) else (some false))) else (some false))))
end
def jotterlaw17_DiffTurns.f (k : Nat) (a0 : ByteArray) (a1 : ByteArray) (a2 : Int) : Option (Bool) := (jotterlaw17_plain.f a0 512).bind fun t344 => ((jotterlaw17_plain.f a1 512).bind fun t345 => (if (wrap64 (1 + (Int.tmod a2 64))) < 1 then (jotterlaw17_DiffTurns.j0 k t344 t345 1) else (jotterlaw17_DiffTurns.j0 k t344 t345 (wrap64 (1 + (Int.tmod a2 64))))))
theorem jotterlaw17_DiffTurns.mono_l : ∀ k, (∀ y0 y1 y2, LeO (jotterlaw17_DiffTurns.j0 k y0 y1 y2) (jotterlaw17_DiffTurns.j0 (k + 1) y0 y1 y2)) ∧ (∀ y0 y1 y2 y3 y4 y5 y6 y7, LeO (jotterlaw17_DiffTurns.j1 k y0 y1 y2 y3 y4 y5 y6 y7) (jotterlaw17_DiffTurns.j1 (k + 1) y0 y1 y2 y3 y4 y5 y6 y7)) ∧ (∀ y0 y1 y2 y3 y4 y5, LeO (jotterlaw17_DiffTurns.j2 k y0 y1 y2 y3 y4 y5) (jotterlaw17_DiffTurns.j2 (k + 1) y0 y1 y2 y3 y4 y5)) ∧ (∀ y0 y1 y2 y3 y4 y5, LeO (jotterlaw17_DiffTurns.l0 k y0 y1 y2 y3 y4 y5) (jotterlaw17_DiffTurns.l0 (k + 1) y0 y1 y2 y3 y4 y5))
  | 0 => ⟨fun _ _ _ r h => by simp [jotterlaw17_DiffTurns.j0] at h, fun _ _ _ _ _ _ _ _ r h => by simp [jotterlaw17_DiffTurns.j1] at h, fun _ _ _ _ _ _ r h => by simp [jotterlaw17_DiffTurns.j2] at h, fun _ _ _ _ _ _ r h => by simp [jotterlaw17_DiffTurns.l0] at h⟩
  | k + 1 => by
    obtain ⟨ih0, ih1, ih2, ih3⟩ := jotterlaw17_DiffTurns.mono_l k
    refine ⟨?_, ?_, ?_, ?_⟩
    · intro y0 y1 y2
      unfold jotterlaw17_DiffTurns.j0
      repeat' first
      | (with_reducible exact ih0 _ _ _)
      | (with_reducible exact ih1 _ _ _ _ _ _ _ _)
      | (with_reducible exact ih2 _ _ _ _ _ _)
      | (with_reducible exact ih3 _ _ _ _ _ _)
      | (with_reducible exact doc_Apply.mono _ _ _ _ _ _ _)
      | (with_reducible exact doc_Text.mono _ _)
      | (with_reducible exact jotterlaw17_old.mono _ _)
      | (with_reducible exact jotterlaw17_rising.mono _ _)
      | (with_reducible exact jotterlaw17_text.mono _ _)
      | (with_reducible exact LeO.refl _)
      | (with_reducible exact LeO.none _)
      | (with_reducible refine LeO.ite ?_ ?_)
      | (with_reducible refine LeO.bind ?_ (fun _ => ?_))
      | exact ih0 _ _ _
      | exact ih1 _ _ _ _ _ _ _ _
      | exact ih2 _ _ _ _ _ _
      | exact ih3 _ _ _ _ _ _
      | exact doc_Apply.mono _ _ _ _ _ _ _
      | exact doc_Text.mono _ _
      | exact jotterlaw17_old.mono _ _
      | exact jotterlaw17_rising.mono _ _
      | exact jotterlaw17_text.mono _ _
      | exact LeO.none _
      | refine LeO.ite ?_ ?_
      | refine LeO.bind ?_ (fun _ => ?_)
    · intro y0 y1 y2 y3 y4 y5 y6 y7
      unfold jotterlaw17_DiffTurns.j1
      repeat' first
      | (with_reducible exact ih0 _ _ _)
      | (with_reducible exact ih1 _ _ _ _ _ _ _ _)
      | (with_reducible exact ih2 _ _ _ _ _ _)
      | (with_reducible exact ih3 _ _ _ _ _ _)
      | (with_reducible exact doc_Apply.mono _ _ _ _ _ _ _)
      | (with_reducible exact doc_Text.mono _ _)
      | (with_reducible exact jotterlaw17_old.mono _ _)
      | (with_reducible exact jotterlaw17_rising.mono _ _)
      | (with_reducible exact jotterlaw17_text.mono _ _)
      | (with_reducible exact LeO.refl _)
      | (with_reducible exact LeO.none _)
      | (with_reducible refine LeO.ite ?_ ?_)
      | (with_reducible refine LeO.bind ?_ (fun _ => ?_))
      | exact ih0 _ _ _
      | exact ih1 _ _ _ _ _ _ _ _
      | exact ih2 _ _ _ _ _ _
      | exact ih3 _ _ _ _ _ _
      | exact doc_Apply.mono _ _ _ _ _ _ _
      | exact doc_Text.mono _ _
      | exact jotterlaw17_old.mono _ _
      | exact jotterlaw17_rising.mono _ _
      | exact jotterlaw17_text.mono _ _
      | exact LeO.none _
      | refine LeO.ite ?_ ?_
      | refine LeO.bind ?_ (fun _ => ?_)
    · intro y0 y1 y2 y3 y4 y5
      unfold jotterlaw17_DiffTurns.j2
      repeat' first
      | (with_reducible exact ih0 _ _ _)
      | (with_reducible exact ih1 _ _ _ _ _ _ _ _)
      | (with_reducible exact ih2 _ _ _ _ _ _)
      | (with_reducible exact ih3 _ _ _ _ _ _)
      | (with_reducible exact doc_Apply.mono _ _ _ _ _ _ _)
      | (with_reducible exact doc_Text.mono _ _)
      | (with_reducible exact jotterlaw17_old.mono _ _)
      | (with_reducible exact jotterlaw17_rising.mono _ _)
      | (with_reducible exact jotterlaw17_text.mono _ _)
      | (with_reducible exact LeO.refl _)
      | (with_reducible exact LeO.none _)
      | (with_reducible refine LeO.ite ?_ ?_)
      | (with_reducible refine LeO.bind ?_ (fun _ => ?_))
      | exact ih0 _ _ _
      | exact ih1 _ _ _ _ _ _ _ _
      | exact ih2 _ _ _ _ _ _
      | exact ih3 _ _ _ _ _ _
      | exact doc_Apply.mono _ _ _ _ _ _ _
      | exact doc_Text.mono _ _
      | exact jotterlaw17_old.mono _ _
      | exact jotterlaw17_rising.mono _ _
      | exact jotterlaw17_text.mono _ _
      | exact LeO.none _
      | refine LeO.ite ?_ ?_
      | refine LeO.bind ?_ (fun _ => ?_)
    · intro y0 y1 y2 y3 y4 y5
      unfold jotterlaw17_DiffTurns.l0
      repeat' first
      | (with_reducible exact ih0 _ _ _)
      | (with_reducible exact ih1 _ _ _ _ _ _ _ _)
      | (with_reducible exact ih2 _ _ _ _ _ _)
      | (with_reducible exact ih3 _ _ _ _ _ _)
      | (with_reducible exact doc_Apply.mono _ _ _ _ _ _ _)
      | (with_reducible exact doc_Text.mono _ _)
      | (with_reducible exact jotterlaw17_old.mono _ _)
      | (with_reducible exact jotterlaw17_rising.mono _ _)
      | (with_reducible exact jotterlaw17_text.mono _ _)
      | (with_reducible exact LeO.refl _)
      | (with_reducible exact LeO.none _)
      | (with_reducible refine LeO.ite ?_ ?_)
      | (with_reducible refine LeO.bind ?_ (fun _ => ?_))
      | exact ih0 _ _ _
      | exact ih1 _ _ _ _ _ _ _ _
      | exact ih2 _ _ _ _ _ _
      | exact ih3 _ _ _ _ _ _
      | exact doc_Apply.mono _ _ _ _ _ _ _
      | exact doc_Text.mono _ _
      | exact jotterlaw17_old.mono _ _
      | exact jotterlaw17_rising.mono _ _
      | exact jotterlaw17_text.mono _ _
      | exact LeO.none _
      | refine LeO.ite ?_ ?_
      | refine LeO.bind ?_ (fun _ => ?_)
theorem jotterlaw17_DiffTurns.mono : ∀ a0 a1 a2 k, LeO (jotterlaw17_DiffTurns.f k a0 a1 a2) (jotterlaw17_DiffTurns.f (k + 1) a0 a1 a2) := by
  intro a0 a1 a2 k
  obtain ⟨ih0, ih1, ih2, ih3⟩ := jotterlaw17_DiffTurns.mono_l k
  unfold jotterlaw17_DiffTurns.f
  repeat' first
      | (with_reducible exact ih0 _ _ _)
      | (with_reducible exact ih1 _ _ _ _ _ _ _ _)
      | (with_reducible exact ih2 _ _ _ _ _ _)
      | (with_reducible exact ih3 _ _ _ _ _ _)
      | (with_reducible exact doc_Apply.mono _ _ _ _ _ _ _)
      | (with_reducible exact doc_Text.mono _ _)
      | (with_reducible exact jotterlaw17_old.mono _ _)
      | (with_reducible exact jotterlaw17_rising.mono _ _)
      | (with_reducible exact jotterlaw17_text.mono _ _)
      | (with_reducible exact LeO.refl _)
      | (with_reducible exact LeO.none _)
      | (with_reducible refine LeO.ite ?_ ?_)
      | (with_reducible refine LeO.bind ?_ (fun _ => ?_))
      | exact ih0 _ _ _
      | exact ih1 _ _ _ _ _ _ _ _
      | exact ih2 _ _ _ _ _ _
      | exact ih3 _ _ _ _ _ _
      | exact doc_Apply.mono _ _ _ _ _ _ _
      | exact doc_Text.mono _ _
      | exact jotterlaw17_old.mono _ _
      | exact jotterlaw17_rising.mono _ _
      | exact jotterlaw17_text.mono _ _
      | exact LeO.none _
      | refine LeO.ite ?_ ?_
      | refine LeO.bind ?_ (fun _ => ?_)
set_option maxHeartbeats 8000000 in
set_option maxRecDepth 100000 in
theorem jotterlaw17_DiffTurns.calls (k : Nat) (a0 : ByteArray) (a1 : ByteArray) (a2 : Int) (r : Bool) (w : World) (h : jotterlaw17_DiffTurns.f k a0 a1 a2 = some r) :
    Calls Try.prog 10 #[.string a0, .string a1, .int .i64 a2] w fun e w' => e = .returned (.bool r) ∧ Below w.heap.size w w' := by
  have hu38 := Try.underlying38
  have HB := Aside0.mk (Below.refl w.heap.size w)
  have H : ((jotterlaw17_plain.f a0 512).bind fun t344 => ((jotterlaw17_plain.f a1 512).bind fun t345 => (if (wrap64 (1 + (Int.tmod a2 64))) < 1 then (jotterlaw17_DiffTurns.j0 k t344 t345 1) else (jotterlaw17_DiffTurns.j0 k t344 t345 (wrap64 (1 + (Int.tmod a2 64))))))) = some r := h
  clear h
  replace H := Option.bind_eq_some_iff.mp H
  obtain ⟨t344, A40, H⟩ := H
  replace H : ((jotterlaw17_plain.f a1 512).bind fun t345 => (if (wrap64 (1 + (Int.tmod a2 64))) < 1 then (jotterlaw17_DiffTurns.j0 k t344 t345 1) else (jotterlaw17_DiffTurns.j0 k t344 t345 (wrap64 (1 + (Int.tmod a2 64)))))) = some r := H
  have A4 := Aside0.mk A40
  clear A40
  replace H := Option.bind_eq_some_iff.mp H
  obtain ⟨t345, A50, H⟩ := H
  replace H : (if (wrap64 (1 + (Int.tmod a2 64))) < 1 then (jotterlaw17_DiffTurns.j0 k t344 t345 1) else (jotterlaw17_DiffTurns.j0 k t344 t345 (wrap64 (1 + (Int.tmod a2 64))))) = some r := H
  have A5 := Aside0.mk A50
  clear A50
  have HC6 := Aside0.mk H
  clear H
  go_enter Try.func10, Try.ntmps10
  go_upto_if 26 with (first | ((with_reducible refine gate_callee (f := 11) rfl ?_); refine goesL_ (some 19) rfl rfl Try.func11 (by kernel_rfl) rfl #[.string a0, .int .i64 512] rfl (by (try simp only [List.map_toArray, List.map_cons, List.map_nil]); first | done | rfl | (simp only [List.length_drop, List.length_take]; rfl)) ?_; (with_reducible refine (jotterlaw17_plain.calls a0 512 t344 _ A4.out).mono ?_); rintro e w7 ⟨rfl, hb⟩; refine ⟨_, rfl, ?_⟩; have n0_ := Aside0.mk (below_step (by repeat (first | (with_reducible first | exact HB.out | apply below_alloc | apply pw_below_drewN | apply below_drew1) | exact HB.out)) hb); clear HB; have HB := n0_; clear n0_; (try clear hb); (try clear hb2); (try clear hk); (try clear hi)) | ((with_reducible refine gate_callee (f := 11) rfl ?_); refine goesL_ (some 21) rfl rfl Try.func11 (by kernel_rfl) rfl #[.string a1, .int .i64 512] rfl (by (try simp only [List.map_toArray, List.map_cons, List.map_nil]); first | done | rfl | (simp only [List.length_drop, List.length_take]; rfl)) ?_; (with_reducible refine (jotterlaw17_plain.calls a1 512 t345 _ A5.out).mono ?_); rintro e w8 ⟨rfl, hb⟩; refine ⟨_, rfl, ?_⟩; have n0_ := Aside0.mk (below_step (by repeat (first | (with_reducible first | exact HB.out | apply below_alloc | apply pw_below_drewN | apply below_drew1) | exact HB.out)) hb); clear HB; have HB := n0_; clear n0_; (try clear hb); (try clear hb2); (try clear hk); (try clear hi)))
  (try simp only [Act.put, List.setIfInBounds_toArray, List.set_cons_zero, List.set_cons_succ])
  go_cut [2] (fun v2 wc => ∃ (kq : Nat) (x2_5 : Int), v2 = .int .i64 x2_5 ∧ Aside0 (jotterlaw17_DiffTurns.j0 kq t344 t345 x2_5 = some r) ∧ Aside0 (kq ≤ k) ∧ Aside0 (Below w.heap.size w wc))
  case first =>
    have H := HC6.out
    clear HC6
    by_cases c9 : (wrap64 (1 + (Int.tmod a2 64))) < 1
    · rw [if_pos c9] at H
      have c9b0 : decide ((wrap64 (1 + (Int.tmod a2 64))) < 1) = true := decide_eq_true c9
      clear c9
      (first | rw [c9b0] | (simp only [i64_w, i32_w]; rw [c9b0]) | skip)
      have H' := Aside0.mk H
      clear H
      go_wp2
      go_meet
      case rel => exact ⟨_, (1), (by first | rfl | (simp; done) | (simp [*]; done)), H', ⟨by first | omega | exact Nat.le_refl _⟩, ⟨by repeat (first | (with_reducible first | exact HB.out | apply below_alloc | apply pw_below_drewN | apply below_drew1) | exact HB.out)⟩⟩
    · rw [if_neg c9] at H
      have c9b0 : decide ((wrap64 (1 + (Int.tmod a2 64))) < 1) = false := decide_eq_false c9
      clear c9
      (first | rw [c9b0] | (simp only [i64_w, i32_w]; rw [c9b0]) | skip)
      have H' := Aside0.mk H
      clear H
      go_wp2
      go_meet
      case rel => exact ⟨_, (wrap64 (1 + (Int.tmod a2 64))), (by first | rfl | (simp; done) | (simp [*]; done)), H', ⟨by first | omega | exact Nat.le_refl _⟩, ⟨by repeat (first | (with_reducible first | exact HB.out | apply below_alloc | apply pw_below_drewN | apply below_drew1) | exact HB.out)⟩⟩
  case rest =>
    clear HC6
    try clear c1
    try clear p2
    try clear p6
    try clear c9
    try clear c9b0
    obtain ⟨kq, x2_5, rfl, HA, HJ5, HB⟩ := hcut
    cases kq with
    | zero => exact absurd HA.out (by simp [jotterlaw17_DiffTurns.j0])
    | succ kj5 =>
      have H := HA.out
      clear HA
      simp only [jotterlaw17_DiffTurns.j0] at H
      replace H := Option.bind_eq_some_iff.mp H
      obtain ⟨⟨t346, t347⟩, A100, H⟩ := H
      replace H : ((diff_Common.f t344 t345).bind fun bt348 => ((diff_Between.f t344 t345 64 x2_5).bind fun bt350 => (if t347 = 0 then (if bt348.2 = 0 then (jotterlaw17_DiffTurns.j1 kj5 t344 t345 x2_5 t346 bt348.1 bt350.1 bt350.2 (t346 != (wrap64 ((wrap64 ((t344.size : Int) + (t345.size : Int))) - (wrap64 (2 * (bt348.1.size : Int))))))) else (jotterlaw17_DiffTurns.j1 kj5 t344 t345 x2_5 t346 bt348.1 bt350.1 bt350.2 true)) else (jotterlaw17_DiffTurns.j1 kj5 t344 t345 x2_5 t346 bt348.1 bt350.1 bt350.2 true)))) = some r := H
      have A10 := Aside0.mk A100
      clear A100
      replace H := Option.bind_eq_some_iff.mp H
      obtain ⟨⟨t348, t349⟩, A110, H⟩ := H
      replace H : ((diff_Between.f t344 t345 64 x2_5).bind fun bt350 => (if t347 = 0 then (if t349 = 0 then (jotterlaw17_DiffTurns.j1 kj5 t344 t345 x2_5 t346 t348 bt350.1 bt350.2 (t346 != (wrap64 ((wrap64 ((t344.size : Int) + (t345.size : Int))) - (wrap64 (2 * (t348.size : Int))))))) else (jotterlaw17_DiffTurns.j1 kj5 t344 t345 x2_5 t346 t348 bt350.1 bt350.2 true)) else (jotterlaw17_DiffTurns.j1 kj5 t344 t345 x2_5 t346 t348 bt350.1 bt350.2 true))) = some r := H
      have A11 := Aside0.mk A110
      clear A110
      replace H := Option.bind_eq_some_iff.mp H
      obtain ⟨⟨t350, t351⟩, A120, H⟩ := H
      replace H : (if t347 = 0 then (if t349 = 0 then (jotterlaw17_DiffTurns.j1 kj5 t344 t345 x2_5 t346 t348 t350 t351 (t346 != (wrap64 ((wrap64 ((t344.size : Int) + (t345.size : Int))) - (wrap64 (2 * (t348.size : Int))))))) else (jotterlaw17_DiffTurns.j1 kj5 t344 t345 x2_5 t346 t348 t350 t351 true)) else (jotterlaw17_DiffTurns.j1 kj5 t344 t345 x2_5 t346 t348 t350 t351 true)) = some r := H
      have A12 := Aside0.mk A120
      clear A120
      have HC13 := Aside0.mk H
      clear H
      go_upto_region 9 with (first | ((with_reducible refine gate_callee (f := 12) rfl ?_); refine goesL_ (some 30) rfl rfl Try.func12 (by kernel_rfl) rfl #[.string t344, .string t345] rfl (by (try simp only [List.map_toArray, List.map_cons, List.map_nil]); first | done | rfl | (simp only [List.length_drop, List.length_take]; rfl)) ?_; (with_reducible refine (diff_Distance.calls t344 t345 t346 t347 _ A10.out).mono ?_); rintro e w14 ⟨rfl, hb⟩; refine ⟨_, rfl, ?_⟩; have n0_ := Aside0.mk (below_step (by repeat (first | (with_reducible first | exact HB.out | apply below_alloc | apply pw_below_drewN | apply below_drew1) | exact HB.out)) hb); clear HB; have HB := n0_; clear n0_; (try clear hb); (try clear hb2); (try clear hk); (try clear hi)) | ((with_reducible refine gate_callee (f := 13) rfl ?_); refine goesL_ (some 36) rfl rfl Try.func13 (by kernel_rfl) rfl #[.string t344, .string t345] rfl (by (try simp only [List.map_toArray, List.map_cons, List.map_nil]); first | done | rfl | (simp only [List.length_drop, List.length_take]; rfl)) ?_; (with_reducible refine (diff_Common.calls t344 t345 t348 t349 _ A11.out).mono ?_); rintro e w15 ⟨rfl, hb⟩; refine ⟨_, rfl, ?_⟩; have n0_ := Aside0.mk (below_step (by repeat (first | (with_reducible first | exact HB.out | apply below_alloc | apply pw_below_drewN | apply below_drew1) | exact HB.out)) hb); clear HB; have HB := n0_; clear n0_; (try clear hb); (try clear hb2); (try clear hk); (try clear hi)) | ((with_reducible refine gate_callee (f := 16) rfl ?_); refine goesL_ (some 43) rfl rfl Try.func16 (by kernel_rfl) rfl #[.string t344, .string t345, .int .i64 64, .int .i64 x2_5] rfl (by (try simp only [List.map_toArray, List.map_cons, List.map_nil]); first | done | rfl | (simp only [List.length_drop, List.length_take]; rfl)) ?_; (with_reducible refine (diff_Between.calls t344 t345 64 x2_5 t350 t351 _ A12.out).mono ?_); rintro e w16 ⟨v352, rfl, ho0, hb⟩; refine ⟨_, rfl, ?_⟩; have n0_ := Aside0.mk (Kd.R_lower ho0 (below_size (by repeat (first | (with_reducible first | exact HB.out | apply below_alloc | apply pw_below_drewN | apply below_drew1) | exact HB.out)))); have n1_ := Aside0.mk (below_step (by repeat (first | (with_reducible first | exact HB.out | apply below_alloc | apply pw_below_drewN | apply below_drew1) | exact HB.out)) hb); clear HB; have HO353 := n0_; have HB := n1_; clear n0_ n1_; (try clear hb); (try clear hb2); (try clear hk); (try clear hi); (try clear ho0)))
      (try simp only [Act.put, List.setIfInBounds_toArray, List.set_cons_zero, List.set_cons_succ])
      go_cut [64] (fun v64 wc => ∃ (kq : Nat) (x64_12 : Bool), v64 = .bool x64_12 ∧ Aside0 (jotterlaw17_DiffTurns.j1 kq t344 t345 x2_5 t346 t348 t350 t351 x64_12 = some r) ∧ Aside0 (kq ≤ kj5) ∧ Aside0 (Kd.R k38 38 wc w.heap.size (fun _ => True) v352 t350) ∧ Aside0 (Below w.heap.size w wc))
      case first =>
        have H := HC13.out
        clear HC13
        by_cases c17 : t347 = 0
        · rw [if_pos c17] at H
          have c17b0 : (t347 == 0) = true := beq_iff_eq.mpr c17
          have c17b1 : (t347 != 0) = false := bne_eq_false_iff_eq.mpr c17
          clear c17
          (first | rw [c17b0] | (simp only [i64_w, i32_w]; rw [c17b0]) | skip)
          by_cases c18 : t349 = 0
          · rw [if_pos c18] at H
            have c18b0 : (t349 == 0) = true := beq_iff_eq.mpr c18
            have c18b1 : (t349 != 0) = false := bne_eq_false_iff_eq.mpr c18
            clear c18
            have H' := Aside0.mk H
            clear H
            go_wp2
            go_meet
            case rel => exact ⟨_, ((t346 != (wrap64 ((wrap64 ((t344.size : Int) + (t345.size : Int))) - (wrap64 (2 * (t348.size : Int))))))), (by first | rfl | (simp; done) | (simp [*]; done)), H', ⟨by have := HJ5.out; first | omega | exact Nat.le_refl _⟩, ⟨by (with_reducible repeat (first | apply Kd.R_alloc | apply Kd.R_drewN | apply Kd.R_drew)); exact HO353.out⟩, ⟨by repeat (first | (with_reducible first | exact HB.out | apply below_alloc | apply pw_below_drewN | apply below_drew1) | exact HB.out)⟩⟩
          · rw [if_neg c18] at H
            have c18b0 : (t349 == 0) = false := beq_eq_false_iff_ne.mpr c18
            have c18b1 : (t349 != 0) = true := bne_iff_ne.mpr c18
            have H' := Aside0.mk H
            clear H
            go_wp2
            go_meet
            case rel => exact ⟨_, (true), (by first | rfl | (simp; done) | (simp [*]; done)), H', ⟨by have := HJ5.out; first | omega | exact Nat.le_refl _⟩, ⟨by (with_reducible repeat (first | apply Kd.R_alloc | apply Kd.R_drewN | apply Kd.R_drew)); exact HO353.out⟩, ⟨by repeat (first | (with_reducible first | exact HB.out | apply below_alloc | apply pw_below_drewN | apply below_drew1) | exact HB.out)⟩⟩
        · rw [if_neg c17] at H
          have c17b0 : (t347 == 0) = false := beq_eq_false_iff_ne.mpr c17
          have c17b1 : (t347 != 0) = true := bne_iff_ne.mpr c17
          (first | rw [c17b0] | (simp only [i64_w, i32_w]; rw [c17b0]) | skip)
          have H' := Aside0.mk H
          clear H
          go_wp2
          go_meet
          case rel => exact ⟨_, (true), (by first | rfl | (simp; done) | (simp [*]; done)), H', ⟨by have := HJ5.out; first | omega | exact Nat.le_refl _⟩, ⟨by (with_reducible repeat (first | apply Kd.R_alloc | apply Kd.R_drewN | apply Kd.R_drew)); exact HO353.out⟩, ⟨by repeat (first | (with_reducible first | exact HB.out | apply below_alloc | apply pw_below_drewN | apply below_drew1) | exact HB.out)⟩⟩
      case rest =>
        clear HC13
        try clear c1
        try clear p2
        try clear p6
        try clear c9
        try clear c9b0
        try clear c10
        try clear c11
        try clear c12
        try clear c13
        try clear c16
        try clear c17
        try clear c17b0
        try clear c17b1
        try clear c18
        try clear c18b0
        try clear c18b1
        try clear p2
        try clear p6
        obtain ⟨kq, x64_12, rfl, HA, HJ12, HO_11, HB⟩ := hcut
        cases kq with
        | zero => exact absurd HA.out (by simp [jotterlaw17_DiffTurns.j1])
        | succ kj12 =>
          have H := HA.out
          clear HA
          simp only [jotterlaw17_DiffTurns.j1] at H
          by_cases c19 : x64_12 = true
          · subst c19
            have H1 : (some false) = some r := by rw [if_pos rfl] at H; exact H
            clear H
            have H := H1
            clear H1
            obtain rfl := Option.some.inj H
            go_wp2
            go_ret
            exact ⟨by first | rfl | (simp [errW_none, errW_some] <;> rfl) | (simp [*, errW_none, errW_some] <;> rfl), by repeat (first | (with_reducible first | exact HB.out | apply below_alloc | apply pw_below_drewN | apply below_drew1) | exact HB.out)⟩
          · replace c19 := Bool.eq_false_iff.mpr c19
            subst c19
            have H1 : (if t346 > (wrap64 (65 - x2_5)) then (if t351 = 172 then (some ((t350.length : Int) == 0)) else (some false)) else (if t351 = 0 then (jotterlaw17_DiffTurns.j2 kj12 t344 t345 x2_5 t348 t350 ((t350.length : Int) != t346)) else (jotterlaw17_DiffTurns.j2 kj12 t344 t345 x2_5 t348 t350 true))) = some r := by rw [if_neg (show ¬ (false = true) by decide)] at H; exact H
            clear H
            have H := H1
            clear H1
            by_cases c20 : t346 > (wrap64 (65 - x2_5))
            · rw [if_pos c20] at H
              have c20b0 : decide ((wrap64 (65 - x2_5)) < t346) = true := decide_eq_true c20
              clear c20
              by_cases c21 : t351 = 172
              · rw [if_pos c21] at H
                have c21b0 : (t351 == 172) = true := beq_iff_eq.mpr c21
                have c21b1 : (t351 != 172) = false := bne_eq_false_iff_eq.mpr c21
                clear c21
                obtain rfl := Option.some.inj H
                obtain ⟨Ao22, co22, eo22⟩ := Kd.R_slice HO_11.out
                subst eo22
                go_wp2
                go_ret
                exact ⟨by first | rfl | (simp [errW_none, errW_some] <;> rfl) | (simp [*, errW_none, errW_some] <;> rfl), by repeat (first | (with_reducible first | exact HB.out | apply below_alloc | apply pw_below_drewN | apply below_drew1) | exact HB.out)⟩
              · rw [if_neg c21] at H
                have c21b0 : (t351 == 172) = false := beq_eq_false_iff_ne.mpr c21
                have c21b1 : (t351 != 172) = true := bne_iff_ne.mpr c21
                obtain rfl := Option.some.inj H
                go_wp2
                go_ret
                exact ⟨by first | rfl | (simp [errW_none, errW_some] <;> rfl) | (simp [*, errW_none, errW_some] <;> rfl), by repeat (first | (with_reducible first | exact HB.out | apply below_alloc | apply pw_below_drewN | apply below_drew1) | exact HB.out)⟩
            · rw [if_neg c20] at H
              have c20b0 : decide ((wrap64 (65 - x2_5)) < t346) = false := decide_eq_false c20
              clear c20
              have HC23 := Aside0.mk H
              clear H
              go_upto_region 13 with (fail)
              go_cut [83] (fun v83 wc => ∃ (kq : Nat) (x83_22 : Bool), v83 = .bool x83_22 ∧ Aside0 (jotterlaw17_DiffTurns.j2 kq t344 t345 x2_5 t348 t350 x83_22 = some r) ∧ Aside0 (kq ≤ kj12) ∧ Aside0 (Kd.R k38 38 wc w.heap.size (fun _ => True) v352 t350) ∧ Aside0 (Below w.heap.size w wc))
              case first =>
                have H := HC23.out
                clear HC23
                by_cases c24 : t351 = 0
                · rw [if_pos c24] at H
                  have c24b0 : (t351 == 0) = true := beq_iff_eq.mpr c24
                  have c24b1 : (t351 != 0) = false := bne_eq_false_iff_eq.mpr c24
                  clear c24
                  (first | rw [c24b0] | (simp only [i64_w, i32_w]; rw [c24b0]) | skip)
                  have H' := Aside0.mk H
                  clear H
                  obtain ⟨Ao25, co25, eo25⟩ := Kd.R_slice HO_11.out
                  subst eo25
                  go_wp2
                  go_meet
                  case rel => exact ⟨_, (((t350.length : Int) != t346)), (by first | rfl | (simp; done) | (simp [*]; done)), H', ⟨by have := HJ5.out; have := HJ12.out; first | omega | exact Nat.le_refl _⟩, ⟨by (with_reducible repeat (first | apply Kd.R_alloc | apply Kd.R_drewN | apply Kd.R_drew)); exact HO_11.out⟩, ⟨by repeat (first | (with_reducible first | exact HB.out | apply below_alloc | apply pw_below_drewN | apply below_drew1) | exact HB.out)⟩⟩
                · rw [if_neg c24] at H
                  have c24b0 : (t351 == 0) = false := beq_eq_false_iff_ne.mpr c24
                  have c24b1 : (t351 != 0) = true := bne_iff_ne.mpr c24
                  (first | rw [c24b0] | (simp only [i64_w, i32_w]; rw [c24b0]) | skip)
                  have H' := Aside0.mk H
                  clear H
                  go_wp2
                  go_meet
                  case rel => exact ⟨_, (true), (by first | rfl | (simp; done) | (simp [*]; done)), H', ⟨by have := HJ5.out; have := HJ12.out; first | omega | exact Nat.le_refl _⟩, ⟨by (with_reducible repeat (first | apply Kd.R_alloc | apply Kd.R_drewN | apply Kd.R_drew)); exact HO_11.out⟩, ⟨by repeat (first | (with_reducible first | exact HB.out | apply below_alloc | apply pw_below_drewN | apply below_drew1) | exact HB.out)⟩⟩
              case rest =>
                clear HC23
                try clear c1
                try clear c2
                try clear p2
                try clear p6
                try clear c9
                try clear c9b0
                try clear c10
                try clear c11
                try clear c12
                try clear c13
                try clear c16
                try clear c17
                try clear c17b0
                try clear c17b1
                try clear c18
                try clear c18b0
                try clear c18b1
                try clear c19
                try clear c20
                try clear c20b0
                try clear c21
                try clear c21b0
                try clear c21b1
                try clear c24
                try clear c24b0
                try clear c24b1
                try clear p2
                try clear p6
                obtain ⟨kq, x83_22, rfl, HA, HJ22, HO_11, HB⟩ := hcut
                cases kq with
                | zero => exact absurd HA.out (by simp [jotterlaw17_DiffTurns.j2])
                | succ kj22 =>
                  have H := HA.out
                  clear HA
                  simp only [jotterlaw17_DiffTurns.j2] at H
                  by_cases c26 : x83_22 = true
                  · subst c26
                    have H1 : (some false) = some r := by rw [if_pos rfl] at H; exact H
                    clear H
                    have H := H1
                    clear H1
                    obtain rfl := Option.some.inj H
                    go_wp2
                    go_ret
                    exact ⟨by first | rfl | (simp [errW_none, errW_some] <;> rfl) | (simp [*, errW_none, errW_some] <;> rfl), by repeat (first | (with_reducible first | exact HB.out | apply below_alloc | apply pw_below_drewN | apply below_drew1) | exact HB.out)⟩
                  · replace c26 := Bool.eq_false_iff.mpr c26
                    subst c26
                    have H1 : ((jotterlaw17_text.f kj22 t344).bind fun t354 => (jotterlaw17_DiffTurns.l0 kj22 t345 x2_5 t348 t350 t354 0)) = some r := by rw [if_neg (show ¬ (false = true) by decide)] at H; exact H
                    clear H
                    have H := H1
                    clear H1
                    replace H := Option.bind_eq_some_iff.mp H
                    obtain ⟨t354, A270, H⟩ := H
                    replace H : (jotterlaw17_DiffTurns.l0 kj22 t345 x2_5 t348 t350 t354 0) = some r := H
                    have A27 := Aside0.mk A270
                    clear A270
                    have H' := Aside0.mk H
                    clear H
                    go_wp2_with (first | ((with_reducible refine gate_callee (f := 24) rfl ?_); refine goesL_ (some 85) rfl rfl Try.func24 (by kernel_rfl) rfl #[.string t344] rfl (by (try simp only [List.map_toArray, List.map_cons, List.map_nil]); first | done | rfl | (simp only [List.length_drop, List.length_take]; rfl)) ?_; (with_reducible refine (jotterlaw17_text.calls kj22 t344 t354 _ A27.out).mono ?_); rintro e w28 ⟨v355, rfl, ho0, hb⟩; refine ⟨_, rfl, ?_⟩; have n0_ := Aside0.mk (Kd.R_below (by (with_reducible repeat (first | apply Kd.R_alloc | apply Kd.R_drewN | apply Kd.R_drew)); exact HO_11.out) hb); have n1_ := Aside0.mk (Kd.R_lower ho0 (below_size (by repeat (first | (with_reducible first | exact HB.out | apply below_alloc | apply pw_below_drewN | apply below_drew1) | exact HB.out)))); have n2_ := Aside0.mk (below_step (by repeat (first | (with_reducible first | exact HB.out | apply below_alloc | apply pw_below_drewN | apply below_drew1) | exact HB.out)) hb); clear HO_11; clear HB; have HO_11 := n0_; have HO356 := n1_; have HB := n2_; clear n0_ n1_ n2_; (try clear hb); (try clear hb2); (try clear hk); (try clear hi); (try clear ho0)))
                    go_loopg [13, 14] kj22 (fun kq v13 v14 w' => ∃ (x13_4 : List (S83)) (x14_4 : Int), v14 = .int .i64 x14_4 ∧ Aside0 (jotterlaw17_DiffTurns.l0 kq t345 x2_5 t348 t350 x13_4 x14_4 = some r) ∧ Aside0 (kq ≤ kj22) ∧ Aside0 (Kd.R k38 38 w' w.heap.size (fun _ => True) v352 t350) ∧ Aside0 (Kd.R k83 83 w' w.heap.size (fun _ => True) v13 x13_4) ∧ Aside0 (Below w.heap.size w w'))
                    case atStart => exact ⟨(t354), (0), (by first | rfl | (simp; done) | (simp [*]; done)), H', ⟨Nat.le_refl _⟩, ⟨by (with_reducible repeat (first | apply Kd.R_alloc | apply Kd.R_drewN | apply Kd.R_drew)); exact HO_11.out⟩, ⟨by (with_reducible repeat (first | apply Kd.R_alloc | apply Kd.R_drewN | apply Kd.R_drew)); exact HO356.out⟩, ⟨by repeat (first | (with_reducible first | exact HB.out | apply below_alloc | apply pw_below_drewN | apply below_drew1) | exact HB.out)⟩⟩
                    case round =>
                      clear H'
                      try clear c1
                      try clear c2
                      try clear p2
                      try clear p6
                      try clear c9
                      try clear c9b0
                      try clear c10
                      try clear c11
                      try clear c12
                      try clear c13
                      try clear c16
                      try clear c17
                      try clear c17b0
                      try clear c17b1
                      try clear c18
                      try clear c18b0
                      try clear c18b1
                      try clear c19
                      try clear c20
                      try clear c20b0
                      try clear c21
                      try clear c21b0
                      try clear c21b1
                      try clear c24
                      try clear c24b0
                      try clear c24b1
                      try clear c26
                      try clear p2
                      try clear p6
                      obtain ⟨x13_4, x14_4, rfl, HA, HK4, HO_11, HO_13, HB⟩ := hrel
                      cases gk with
                      | zero => exact absurd HA.out (by simp [jotterlaw17_DiffTurns.l0])
                      | succ k4 =>
                        have H := HA.out
                        clear HA
                        simp only [jotterlaw17_DiffTurns.l0] at H
                        by_cases c29 : x14_4 < (t350.length : Int)
                        · rw [if_pos c29] at H
                          have c29b0 : decide (x14_4 < (t350.length : Int)) = true := decide_eq_true c29
                          clear c29
                          by_cases c30 : 0 ≤ x14_4
                          · rw [if_pos c30] at H
                            have c30b0 : decide (0 ≤ x14_4) = true := decide_eq_true c30
                            clear c30
                            replace H := Option.bind_eq_some_iff.mp H
                            obtain ⟨⟨t358, t361⟩, A310, H⟩ := H
                            replace H : (if t361 = 0 then (if ((rd_T38 t350 x14_4).f0) = 0 then (some false) else (if ((rd_T38 t350 x14_4).f3) = 64 then (if ((rd_T38 t350 x14_4).f4) = (wrap64 (x2_5 + x14_4)) then (jotterlaw17_DiffTurns.l0 k4 t345 x2_5 t348 t350 t358 (wrap64 (x14_4 + 1))) else (some false)) else (some false))) else (some false)) = some r := H
                            have A31 := Aside0.mk A310
                            clear A310
                            by_cases c32 : t361 = 0
                            · rw [if_pos c32] at H
                              have c32b0 : (t361 == 0) = true := beq_iff_eq.mpr c32
                              have c32b1 : (t361 != 0) = false := bne_eq_false_iff_eq.mpr c32
                              clear c32
                              by_cases c33 : ((rd_T38 t350 x14_4).f0) = 0
                              · rw [if_pos c33] at H
                                have c33b0 : (((rd_T38 t350 x14_4).f0) == 0) = true := beq_iff_eq.mpr c33
                                have c33b1 : (((rd_T38 t350 x14_4).f0) != 0) = false := bne_eq_false_iff_eq.mpr c33
                                clear c33
                                obtain rfl := Option.some.inj H
                                obtain ⟨Ao34, co34, eo34⟩ := Kd.R_slice HO_11.out
                                subst eo34
                                have p357 : 0 ≤ (x14_4 : Int) := of_decide_eq_true (by first | (with_reducible assumption) | assumption)
                                have q357 : x14_4 < (t350.length : Int) := of_decide_eq_true (by first | (with_reducible assumption) | assumption)
                                obtain ⟨ad357, e357, hx357_0, hx357_1, hx357_2, hx357_3, hx357_4⟩ := at_T38 (Kd.R_reads' HO_11.out).2.2 x14_4 p357 q357
                                cases e357
                                replace p357 := eq_true p357
                                replace q357 := eq_true q357
                                obtain ⟨Ao35, co35, eo35⟩ := Kd.R_slice HO_13.out
                                subst eo35
                                go_wp2_with (first | ((with_reducible refine gate_callee (f := 25) rfl ?_); refine goesL_ (some 98) rfl rfl Try.func25 (by kernel_rfl) rfl #[.slice Ao35 x13_4.length co35, .agg #[.int .i64 ((rd_T38 t350 x14_4).f0), .int .i64 ((rd_T38 t350 x14_4).f1), .int .u8 ((rd_T38 t350 x14_4).f2), .int .i64 ((rd_T38 t350 x14_4).f3), .int .i64 ((rd_T38 t350 x14_4).f4)]] rfl (by (try simp only [List.map_toArray, List.map_cons, List.map_nil]); first | done | rfl | (simp only [List.length_drop, List.length_take]; rfl)) ?_; (with_reducible refine (doc_Apply.calls k4 _ _ x13_4 ((rd_T38 t350 x14_4).f0) ((rd_T38 t350 x14_4).f1) ((rd_T38 t350 x14_4).f2) ((rd_T38 t350 x14_4).f3) ((rd_T38 t350 x14_4).f4) t358 t361 _ ?side1 ?side2 A31.out).mono ?_); (case side1 => repeat (first | exact (Kd.R_reads' HO_13.out).2.2 | (with_reducible refine Kd.C_alloc ?_ _) | (with_reducible refine Kd.C_drewN ?_ _) | (with_reducible refine Kd.C_drew ?_))); (case side2 => exact (Kd.R_reads' HO_13.out).2.1); rintro e w36 ⟨v359, rfl, ho0, hb⟩; refine ⟨_, rfl, ?_⟩; have n0_ := Aside0.mk (Kd.R_below (by (with_reducible repeat (first | apply Kd.R_alloc | apply Kd.R_drewN | apply Kd.R_drew)); exact HO_11.out) hb); have n1_ := Aside0.mk (Kd.R_elder' (by (with_reducible repeat (first | apply Kd.R_alloc | apply Kd.R_drewN | apply Kd.R_drew)); exact HO_13.out) (Kd.R_base ho0) hb); have n2_ := Aside0.mk (Kd.R_lower (Kd.R_new' ho0 (Kd.R_lt (by (with_reducible repeat (first | apply Kd.R_alloc | apply Kd.R_drewN | apply Kd.R_drew)); exact HO_13.out))) (below_size (by repeat (first | (with_reducible first | exact HB.out | apply below_alloc | apply pw_below_drewN | apply below_drew1) | exact HB.out)))); have n3_ := Aside0.mk (below_step (by repeat (first | (with_reducible first | exact HB.out | apply below_alloc | apply pw_below_drewN | apply below_drew1) | exact HB.out)) hb); clear HO_11; clear HO_13; clear HB; have HO_11 := n0_; have HO_13 := n1_; have HO360 := n2_; have HB := n3_; clear n0_ n1_ n2_ n3_; (try clear hb); (try clear hb2); (try clear hk); (try clear hi); (try clear ho0); have p362 : 0 ≤ (x14_4 : Int) := of_decide_eq_true (by first | (with_reducible assumption) | assumption); have q362 : x14_4 < (t350.length : Int) := of_decide_eq_true (by first | (with_reducible assumption) | assumption); obtain ⟨ad362, e362, hx362_0, hx362_1, hx362_2, hx362_3, hx362_4⟩ := at_T38 (Kd.R_reads' HO_11.out).2.2 x14_4 p362 q362; obtain rfl : ad357 = ad362 := (by injection e362); replace p362 := eq_true p362; replace q362 := eq_true q362))
                                go_ret
                                exact ⟨by first | rfl | (simp [errW_none, errW_some] <;> rfl) | (simp [*, errW_none, errW_some] <;> rfl), by repeat (first | (with_reducible first | exact HB.out | apply below_alloc | apply pw_below_drewN | apply below_drew1) | exact HB.out)⟩
                              · rw [if_neg c33] at H
                                have c33b0 : (((rd_T38 t350 x14_4).f0) == 0) = false := beq_eq_false_iff_ne.mpr c33
                                have c33b1 : (((rd_T38 t350 x14_4).f0) != 0) = true := bne_iff_ne.mpr c33
                                by_cases c37 : ((rd_T38 t350 x14_4).f3) = 64
                                · rw [if_pos c37] at H
                                  have c37b0 : (((rd_T38 t350 x14_4).f3) == 64) = true := beq_iff_eq.mpr c37
                                  have c37b1 : (((rd_T38 t350 x14_4).f3) != 64) = false := bne_eq_false_iff_eq.mpr c37
                                  clear c37
                                  by_cases c38 : ((rd_T38 t350 x14_4).f4) = (wrap64 (x2_5 + x14_4))
                                  · rw [if_pos c38] at H
                                    have c38b0 : (((rd_T38 t350 x14_4).f4) == (wrap64 (x2_5 + x14_4))) = true := beq_iff_eq.mpr c38
                                    have c38b1 : (((rd_T38 t350 x14_4).f4) != (wrap64 (x2_5 + x14_4))) = false := bne_eq_false_iff_eq.mpr c38
                                    clear c38
                                    have H' := Aside0.mk H
                                    clear H
                                    obtain ⟨Ao39, co39, eo39⟩ := Kd.R_slice HO_11.out
                                    subst eo39
                                    have p357 : 0 ≤ (x14_4 : Int) := of_decide_eq_true (by first | (with_reducible assumption) | assumption)
                                    have q357 : x14_4 < (t350.length : Int) := of_decide_eq_true (by first | (with_reducible assumption) | assumption)
                                    obtain ⟨ad357, e357, hx357_0, hx357_1, hx357_2, hx357_3, hx357_4⟩ := at_T38 (Kd.R_reads' HO_11.out).2.2 x14_4 p357 q357
                                    cases e357
                                    replace p357 := eq_true p357
                                    replace q357 := eq_true q357
                                    obtain ⟨Ao40, co40, eo40⟩ := Kd.R_slice HO_13.out
                                    subst eo40
                                    go_wp2_with (first | ((with_reducible refine gate_callee (f := 25) rfl ?_); refine goesL_ (some 98) rfl rfl Try.func25 (by kernel_rfl) rfl #[.slice Ao40 x13_4.length co40, .agg #[.int .i64 ((rd_T38 t350 x14_4).f0), .int .i64 ((rd_T38 t350 x14_4).f1), .int .u8 ((rd_T38 t350 x14_4).f2), .int .i64 ((rd_T38 t350 x14_4).f3), .int .i64 ((rd_T38 t350 x14_4).f4)]] rfl (by (try simp only [List.map_toArray, List.map_cons, List.map_nil]); first | done | rfl | (simp only [List.length_drop, List.length_take]; rfl)) ?_; (with_reducible refine (doc_Apply.calls k4 _ _ x13_4 ((rd_T38 t350 x14_4).f0) ((rd_T38 t350 x14_4).f1) ((rd_T38 t350 x14_4).f2) ((rd_T38 t350 x14_4).f3) ((rd_T38 t350 x14_4).f4) t358 t361 _ ?side1 ?side2 A31.out).mono ?_); (case side1 => repeat (first | exact (Kd.R_reads' HO_13.out).2.2 | (with_reducible refine Kd.C_alloc ?_ _) | (with_reducible refine Kd.C_drewN ?_ _) | (with_reducible refine Kd.C_drew ?_))); (case side2 => exact (Kd.R_reads' HO_13.out).2.1); rintro e w41 ⟨v359, rfl, ho0, hb⟩; refine ⟨_, rfl, ?_⟩; have n0_ := Aside0.mk (Kd.R_below (by (with_reducible repeat (first | apply Kd.R_alloc | apply Kd.R_drewN | apply Kd.R_drew)); exact HO_11.out) hb); have n1_ := Aside0.mk (Kd.R_elder' (by (with_reducible repeat (first | apply Kd.R_alloc | apply Kd.R_drewN | apply Kd.R_drew)); exact HO_13.out) (Kd.R_base ho0) hb); have n2_ := Aside0.mk (Kd.R_lower (Kd.R_new' ho0 (Kd.R_lt (by (with_reducible repeat (first | apply Kd.R_alloc | apply Kd.R_drewN | apply Kd.R_drew)); exact HO_13.out))) (below_size (by repeat (first | (with_reducible first | exact HB.out | apply below_alloc | apply pw_below_drewN | apply below_drew1) | exact HB.out)))); have n3_ := Aside0.mk (below_step (by repeat (first | (with_reducible first | exact HB.out | apply below_alloc | apply pw_below_drewN | apply below_drew1) | exact HB.out)) hb); clear HO_11; clear HO_13; clear HB; have HO_11 := n0_; have HO_13 := n1_; have HO360 := n2_; have HB := n3_; clear n0_ n1_ n2_ n3_; (try clear hb); (try clear hb2); (try clear hk); (try clear hi); (try clear ho0); have p362 : 0 ≤ (x14_4 : Int) := of_decide_eq_true (by first | (with_reducible assumption) | assumption); have q362 : x14_4 < (t350.length : Int) := of_decide_eq_true (by first | (with_reducible assumption) | assumption); obtain ⟨ad362, e362, hx362_0, hx362_1, hx362_2, hx362_3, hx362_4⟩ := at_T38 (Kd.R_reads' HO_11.out).2.2 x14_4 p362 q362; obtain rfl : ad357 = ad362 := (by injection e362); replace p362 := eq_true p362; replace q362 := eq_true q362; have p363 : 0 ≤ (x14_4 : Int) := of_decide_eq_true (by first | (with_reducible assumption) | assumption); have q363 : x14_4 < (t350.length : Int) := of_decide_eq_true (by first | (with_reducible assumption) | assumption); obtain ⟨ad363, e363, hx363_0, hx363_1, hx363_2, hx363_3, hx363_4⟩ := at_T38 (Kd.R_reads' HO_11.out).2.2 x14_4 p363 q363; obtain rfl : ad357 = ad363 := (by injection e363); replace p363 := eq_true p363; replace q363 := eq_true q363; have p364 : 0 ≤ (x14_4 : Int) := of_decide_eq_true (by first | (with_reducible assumption) | assumption); have q364 : x14_4 < (t350.length : Int) := of_decide_eq_true (by first | (with_reducible assumption) | assumption); obtain ⟨ad364, e364, hx364_0, hx364_1, hx364_2, hx364_3, hx364_4⟩ := at_T38 (Kd.R_reads' HO_11.out).2.2 x14_4 p364 q364; obtain rfl : ad357 = ad364 := (by injection e364); replace p364 := eq_true p364; replace q364 := eq_true q364))
                                    go_roundg k4
                                    case measure => have := HJ5.out; have := HJ12.out; have := HJ22.out; have := HK4.out; omega
                                    case rel => exact ⟨(t358), (wrap64 (x14_4 + 1)), (by first | rfl | (simp; done) | (simp [*]; done)), H', ⟨by have := HJ5.out; have := HJ12.out; have := HJ22.out; have := HK4.out; omega⟩, ⟨by (with_reducible repeat (first | apply Kd.R_alloc | apply Kd.R_drewN | apply Kd.R_drew)); exact HO_11.out⟩, ⟨by (with_reducible repeat (first | apply Kd.R_alloc | apply Kd.R_drewN | apply Kd.R_drew)); exact Kd.R_mono HO360.out (fun _ hk => trivial)⟩, ⟨by repeat (first | (with_reducible first | exact HB.out | apply below_alloc | apply pw_below_drewN | apply below_drew1) | exact HB.out)⟩⟩
                                  · rw [if_neg c38] at H
                                    have c38b0 : (((rd_T38 t350 x14_4).f4) == (wrap64 (x2_5 + x14_4))) = false := beq_eq_false_iff_ne.mpr c38
                                    have c38b1 : (((rd_T38 t350 x14_4).f4) != (wrap64 (x2_5 + x14_4))) = true := bne_iff_ne.mpr c38
                                    obtain rfl := Option.some.inj H
                                    obtain ⟨Ao42, co42, eo42⟩ := Kd.R_slice HO_11.out
                                    subst eo42
                                    have p357 : 0 ≤ (x14_4 : Int) := of_decide_eq_true (by first | (with_reducible assumption) | assumption)
                                    have q357 : x14_4 < (t350.length : Int) := of_decide_eq_true (by first | (with_reducible assumption) | assumption)
                                    obtain ⟨ad357, e357, hx357_0, hx357_1, hx357_2, hx357_3, hx357_4⟩ := at_T38 (Kd.R_reads' HO_11.out).2.2 x14_4 p357 q357
                                    cases e357
                                    replace p357 := eq_true p357
                                    replace q357 := eq_true q357
                                    obtain ⟨Ao43, co43, eo43⟩ := Kd.R_slice HO_13.out
                                    subst eo43
                                    go_wp2_with (first | ((with_reducible refine gate_callee (f := 25) rfl ?_); refine goesL_ (some 98) rfl rfl Try.func25 (by kernel_rfl) rfl #[.slice Ao43 x13_4.length co43, .agg #[.int .i64 ((rd_T38 t350 x14_4).f0), .int .i64 ((rd_T38 t350 x14_4).f1), .int .u8 ((rd_T38 t350 x14_4).f2), .int .i64 ((rd_T38 t350 x14_4).f3), .int .i64 ((rd_T38 t350 x14_4).f4)]] rfl (by (try simp only [List.map_toArray, List.map_cons, List.map_nil]); first | done | rfl | (simp only [List.length_drop, List.length_take]; rfl)) ?_; (with_reducible refine (doc_Apply.calls k4 _ _ x13_4 ((rd_T38 t350 x14_4).f0) ((rd_T38 t350 x14_4).f1) ((rd_T38 t350 x14_4).f2) ((rd_T38 t350 x14_4).f3) ((rd_T38 t350 x14_4).f4) t358 t361 _ ?side1 ?side2 A31.out).mono ?_); (case side1 => repeat (first | exact (Kd.R_reads' HO_13.out).2.2 | (with_reducible refine Kd.C_alloc ?_ _) | (with_reducible refine Kd.C_drewN ?_ _) | (with_reducible refine Kd.C_drew ?_))); (case side2 => exact (Kd.R_reads' HO_13.out).2.1); rintro e w44 ⟨v359, rfl, ho0, hb⟩; refine ⟨_, rfl, ?_⟩; have n0_ := Aside0.mk (Kd.R_below (by (with_reducible repeat (first | apply Kd.R_alloc | apply Kd.R_drewN | apply Kd.R_drew)); exact HO_11.out) hb); have n1_ := Aside0.mk (Kd.R_elder' (by (with_reducible repeat (first | apply Kd.R_alloc | apply Kd.R_drewN | apply Kd.R_drew)); exact HO_13.out) (Kd.R_base ho0) hb); have n2_ := Aside0.mk (Kd.R_lower (Kd.R_new' ho0 (Kd.R_lt (by (with_reducible repeat (first | apply Kd.R_alloc | apply Kd.R_drewN | apply Kd.R_drew)); exact HO_13.out))) (below_size (by repeat (first | (with_reducible first | exact HB.out | apply below_alloc | apply pw_below_drewN | apply below_drew1) | exact HB.out)))); have n3_ := Aside0.mk (below_step (by repeat (first | (with_reducible first | exact HB.out | apply below_alloc | apply pw_below_drewN | apply below_drew1) | exact HB.out)) hb); clear HO_11; clear HO_13; clear HB; have HO_11 := n0_; have HO_13 := n1_; have HO360 := n2_; have HB := n3_; clear n0_ n1_ n2_ n3_; (try clear hb); (try clear hb2); (try clear hk); (try clear hi); (try clear ho0); have p362 : 0 ≤ (x14_4 : Int) := of_decide_eq_true (by first | (with_reducible assumption) | assumption); have q362 : x14_4 < (t350.length : Int) := of_decide_eq_true (by first | (with_reducible assumption) | assumption); obtain ⟨ad362, e362, hx362_0, hx362_1, hx362_2, hx362_3, hx362_4⟩ := at_T38 (Kd.R_reads' HO_11.out).2.2 x14_4 p362 q362; obtain rfl : ad357 = ad362 := (by injection e362); replace p362 := eq_true p362; replace q362 := eq_true q362; have p363 : 0 ≤ (x14_4 : Int) := of_decide_eq_true (by first | (with_reducible assumption) | assumption); have q363 : x14_4 < (t350.length : Int) := of_decide_eq_true (by first | (with_reducible assumption) | assumption); obtain ⟨ad363, e363, hx363_0, hx363_1, hx363_2, hx363_3, hx363_4⟩ := at_T38 (Kd.R_reads' HO_11.out).2.2 x14_4 p363 q363; obtain rfl : ad357 = ad363 := (by injection e363); replace p363 := eq_true p363; replace q363 := eq_true q363; have p364 : 0 ≤ (x14_4 : Int) := of_decide_eq_true (by first | (with_reducible assumption) | assumption); have q364 : x14_4 < (t350.length : Int) := of_decide_eq_true (by first | (with_reducible assumption) | assumption); obtain ⟨ad364, e364, hx364_0, hx364_1, hx364_2, hx364_3, hx364_4⟩ := at_T38 (Kd.R_reads' HO_11.out).2.2 x14_4 p364 q364; obtain rfl : ad357 = ad364 := (by injection e364); replace p364 := eq_true p364; replace q364 := eq_true q364))
                                    go_ret
                                    exact ⟨by first | rfl | (simp [errW_none, errW_some] <;> rfl) | (simp [*, errW_none, errW_some] <;> rfl), by repeat (first | (with_reducible first | exact HB.out | apply below_alloc | apply pw_below_drewN | apply below_drew1) | exact HB.out)⟩
                                · rw [if_neg c37] at H
                                  have c37b0 : (((rd_T38 t350 x14_4).f3) == 64) = false := beq_eq_false_iff_ne.mpr c37
                                  have c37b1 : (((rd_T38 t350 x14_4).f3) != 64) = true := bne_iff_ne.mpr c37
                                  obtain rfl := Option.some.inj H
                                  obtain ⟨Ao45, co45, eo45⟩ := Kd.R_slice HO_11.out
                                  subst eo45
                                  have p357 : 0 ≤ (x14_4 : Int) := of_decide_eq_true (by first | (with_reducible assumption) | assumption)
                                  have q357 : x14_4 < (t350.length : Int) := of_decide_eq_true (by first | (with_reducible assumption) | assumption)
                                  obtain ⟨ad357, e357, hx357_0, hx357_1, hx357_2, hx357_3, hx357_4⟩ := at_T38 (Kd.R_reads' HO_11.out).2.2 x14_4 p357 q357
                                  cases e357
                                  replace p357 := eq_true p357
                                  replace q357 := eq_true q357
                                  obtain ⟨Ao46, co46, eo46⟩ := Kd.R_slice HO_13.out
                                  subst eo46
                                  go_wp2_with (first | ((with_reducible refine gate_callee (f := 25) rfl ?_); refine goesL_ (some 98) rfl rfl Try.func25 (by kernel_rfl) rfl #[.slice Ao46 x13_4.length co46, .agg #[.int .i64 ((rd_T38 t350 x14_4).f0), .int .i64 ((rd_T38 t350 x14_4).f1), .int .u8 ((rd_T38 t350 x14_4).f2), .int .i64 ((rd_T38 t350 x14_4).f3), .int .i64 ((rd_T38 t350 x14_4).f4)]] rfl (by (try simp only [List.map_toArray, List.map_cons, List.map_nil]); first | done | rfl | (simp only [List.length_drop, List.length_take]; rfl)) ?_; (with_reducible refine (doc_Apply.calls k4 _ _ x13_4 ((rd_T38 t350 x14_4).f0) ((rd_T38 t350 x14_4).f1) ((rd_T38 t350 x14_4).f2) ((rd_T38 t350 x14_4).f3) ((rd_T38 t350 x14_4).f4) t358 t361 _ ?side1 ?side2 A31.out).mono ?_); (case side1 => repeat (first | exact (Kd.R_reads' HO_13.out).2.2 | (with_reducible refine Kd.C_alloc ?_ _) | (with_reducible refine Kd.C_drewN ?_ _) | (with_reducible refine Kd.C_drew ?_))); (case side2 => exact (Kd.R_reads' HO_13.out).2.1); rintro e w47 ⟨v359, rfl, ho0, hb⟩; refine ⟨_, rfl, ?_⟩; have n0_ := Aside0.mk (Kd.R_below (by (with_reducible repeat (first | apply Kd.R_alloc | apply Kd.R_drewN | apply Kd.R_drew)); exact HO_11.out) hb); have n1_ := Aside0.mk (Kd.R_elder' (by (with_reducible repeat (first | apply Kd.R_alloc | apply Kd.R_drewN | apply Kd.R_drew)); exact HO_13.out) (Kd.R_base ho0) hb); have n2_ := Aside0.mk (Kd.R_lower (Kd.R_new' ho0 (Kd.R_lt (by (with_reducible repeat (first | apply Kd.R_alloc | apply Kd.R_drewN | apply Kd.R_drew)); exact HO_13.out))) (below_size (by repeat (first | (with_reducible first | exact HB.out | apply below_alloc | apply pw_below_drewN | apply below_drew1) | exact HB.out)))); have n3_ := Aside0.mk (below_step (by repeat (first | (with_reducible first | exact HB.out | apply below_alloc | apply pw_below_drewN | apply below_drew1) | exact HB.out)) hb); clear HO_11; clear HO_13; clear HB; have HO_11 := n0_; have HO_13 := n1_; have HO360 := n2_; have HB := n3_; clear n0_ n1_ n2_ n3_; (try clear hb); (try clear hb2); (try clear hk); (try clear hi); (try clear ho0); have p362 : 0 ≤ (x14_4 : Int) := of_decide_eq_true (by first | (with_reducible assumption) | assumption); have q362 : x14_4 < (t350.length : Int) := of_decide_eq_true (by first | (with_reducible assumption) | assumption); obtain ⟨ad362, e362, hx362_0, hx362_1, hx362_2, hx362_3, hx362_4⟩ := at_T38 (Kd.R_reads' HO_11.out).2.2 x14_4 p362 q362; obtain rfl : ad357 = ad362 := (by injection e362); replace p362 := eq_true p362; replace q362 := eq_true q362; have p363 : 0 ≤ (x14_4 : Int) := of_decide_eq_true (by first | (with_reducible assumption) | assumption); have q363 : x14_4 < (t350.length : Int) := of_decide_eq_true (by first | (with_reducible assumption) | assumption); obtain ⟨ad363, e363, hx363_0, hx363_1, hx363_2, hx363_3, hx363_4⟩ := at_T38 (Kd.R_reads' HO_11.out).2.2 x14_4 p363 q363; obtain rfl : ad357 = ad363 := (by injection e363); replace p363 := eq_true p363; replace q363 := eq_true q363))
                                  go_ret
                                  exact ⟨by first | rfl | (simp [errW_none, errW_some] <;> rfl) | (simp [*, errW_none, errW_some] <;> rfl), by repeat (first | (with_reducible first | exact HB.out | apply below_alloc | apply pw_below_drewN | apply below_drew1) | exact HB.out)⟩
                            · rw [if_neg c32] at H
                              have c32b0 : (t361 == 0) = false := beq_eq_false_iff_ne.mpr c32
                              have c32b1 : (t361 != 0) = true := bne_iff_ne.mpr c32
                              obtain rfl := Option.some.inj H
                              obtain ⟨Ao48, co48, eo48⟩ := Kd.R_slice HO_11.out
                              subst eo48
                              have p357 : 0 ≤ (x14_4 : Int) := of_decide_eq_true (by first | (with_reducible assumption) | assumption)
                              have q357 : x14_4 < (t350.length : Int) := of_decide_eq_true (by first | (with_reducible assumption) | assumption)
                              obtain ⟨ad357, e357, hx357_0, hx357_1, hx357_2, hx357_3, hx357_4⟩ := at_T38 (Kd.R_reads' HO_11.out).2.2 x14_4 p357 q357
                              cases e357
                              replace p357 := eq_true p357
                              replace q357 := eq_true q357
                              obtain ⟨Ao49, co49, eo49⟩ := Kd.R_slice HO_13.out
                              subst eo49
                              go_wp2_with (first | ((with_reducible refine gate_callee (f := 25) rfl ?_); refine goesL_ (some 98) rfl rfl Try.func25 (by kernel_rfl) rfl #[.slice Ao49 x13_4.length co49, .agg #[.int .i64 ((rd_T38 t350 x14_4).f0), .int .i64 ((rd_T38 t350 x14_4).f1), .int .u8 ((rd_T38 t350 x14_4).f2), .int .i64 ((rd_T38 t350 x14_4).f3), .int .i64 ((rd_T38 t350 x14_4).f4)]] rfl (by (try simp only [List.map_toArray, List.map_cons, List.map_nil]); first | done | rfl | (simp only [List.length_drop, List.length_take]; rfl)) ?_; (with_reducible refine (doc_Apply.calls k4 _ _ x13_4 ((rd_T38 t350 x14_4).f0) ((rd_T38 t350 x14_4).f1) ((rd_T38 t350 x14_4).f2) ((rd_T38 t350 x14_4).f3) ((rd_T38 t350 x14_4).f4) t358 t361 _ ?side1 ?side2 A31.out).mono ?_); (case side1 => repeat (first | exact (Kd.R_reads' HO_13.out).2.2 | (with_reducible refine Kd.C_alloc ?_ _) | (with_reducible refine Kd.C_drewN ?_ _) | (with_reducible refine Kd.C_drew ?_))); (case side2 => exact (Kd.R_reads' HO_13.out).2.1); rintro e w50 ⟨v359, rfl, ho0, hb⟩; refine ⟨_, rfl, ?_⟩; have n0_ := Aside0.mk (Kd.R_below (by (with_reducible repeat (first | apply Kd.R_alloc | apply Kd.R_drewN | apply Kd.R_drew)); exact HO_11.out) hb); have n1_ := Aside0.mk (Kd.R_elder' (by (with_reducible repeat (first | apply Kd.R_alloc | apply Kd.R_drewN | apply Kd.R_drew)); exact HO_13.out) (Kd.R_base ho0) hb); have n2_ := Aside0.mk (Kd.R_lower (Kd.R_new' ho0 (Kd.R_lt (by (with_reducible repeat (first | apply Kd.R_alloc | apply Kd.R_drewN | apply Kd.R_drew)); exact HO_13.out))) (below_size (by repeat (first | (with_reducible first | exact HB.out | apply below_alloc | apply pw_below_drewN | apply below_drew1) | exact HB.out)))); have n3_ := Aside0.mk (below_step (by repeat (first | (with_reducible first | exact HB.out | apply below_alloc | apply pw_below_drewN | apply below_drew1) | exact HB.out)) hb); clear HO_11; clear HO_13; clear HB; have HO_11 := n0_; have HO_13 := n1_; have HO360 := n2_; have HB := n3_; clear n0_ n1_ n2_ n3_; (try clear hb); (try clear hb2); (try clear hk); (try clear hi); (try clear ho0)))
                              go_ret
                              exact ⟨by first | rfl | (simp [errW_none, errW_some] <;> rfl) | (simp [*, errW_none, errW_some] <;> rfl), by repeat (first | (with_reducible first | exact HB.out | apply below_alloc | apply pw_below_drewN | apply below_drew1) | exact HB.out)⟩
                          · rw [if_neg c30] at H
                            exact absurd H (by simp)
                        · rw [if_neg c29] at H
                          have c29b0 : decide (x14_4 < (t350.length : Int)) = false := decide_eq_false c29
                          clear c29
                          replace H := Option.bind_eq_some_iff.mp H
                          obtain ⟨t365, A510, H⟩ := H
                          replace H : ((doc_Text.f k4 x13_4).bind fun t368 => (if t368.toList = t345.toList then ((doc_Text.f k4 t365).bind fun t369 => (if t369.toList = t348.toList then ((jotterlaw17_rising.f k4 t365).bind fun t370 => (some t370)) else (some false))) else (some false))) = some r := H
                          have A51 := Aside0.mk A510
                          clear A510
                          replace H := Option.bind_eq_some_iff.mp H
                          obtain ⟨t368, A520, H⟩ := H
                          replace H : (if t368.toList = t345.toList then ((doc_Text.f k4 t365).bind fun t369 => (if t369.toList = t348.toList then ((jotterlaw17_rising.f k4 t365).bind fun t370 => (some t370)) else (some false))) else (some false)) = some r := H
                          have A52 := Aside0.mk A520
                          clear A520
                          by_cases c53 : t368.toList = t345.toList
                          · rw [if_pos c53] at H
                            have c53b0 : (t368.toList == t345.toList) = true := beq_iff_eq.mpr c53
                            have c53b1 : (t368.toList != t345.toList) = false := bne_eq_false_iff_eq.mpr c53
                            clear c53
                            replace H := Option.bind_eq_some_iff.mp H
                            obtain ⟨t369, A540, H⟩ := H
                            replace H : (if t369.toList = t348.toList then ((jotterlaw17_rising.f k4 t365).bind fun t370 => (some t370)) else (some false)) = some r := H
                            have A54 := Aside0.mk A540
                            clear A540
                            by_cases c55 : t369.toList = t348.toList
                            · rw [if_pos c55] at H
                              have c55b0 : (t369.toList == t348.toList) = true := beq_iff_eq.mpr c55
                              have c55b1 : (t369.toList != t348.toList) = false := bne_eq_false_iff_eq.mpr c55
                              clear c55
                              replace H := Option.bind_eq_some_iff.mp H
                              obtain ⟨t370, A560, H⟩ := H
                              replace H : (some t370) = some r := H
                              have A56 := Aside0.mk A560
                              clear A560
                              obtain rfl := Option.some.inj H
                              obtain ⟨Ao57, co57, eo57⟩ := Kd.R_slice HO_11.out
                              subst eo57
                              obtain ⟨Ao58, co58, eo58⟩ := Kd.R_slice HO_13.out
                              subst eo58
                              go_wp2_with (first | ((with_reducible refine gate_callee (f := 27) rfl ?_); refine goesL_ (some 132) rfl rfl Try.func27 (by kernel_rfl) rfl #[.slice Ao58 x13_4.length co58] rfl (by (try simp only [List.map_toArray, List.map_cons, List.map_nil]); first | done | rfl | (simp only [List.length_drop, List.length_take]; rfl)) ?_; (with_reducible refine (jotterlaw17_old.calls k4 _ _ x13_4 t365 _ ?side1 ?side2 A51.out).mono ?_); (case side1 => repeat (first | exact (Kd.R_reads' HO_13.out).2.2 | (with_reducible refine Kd.C_alloc ?_ _) | (with_reducible refine Kd.C_drewN ?_ _) | (with_reducible refine Kd.C_drew ?_))); (case side2 => exact (Kd.R_reads' HO_13.out).2.1); rintro e w59 ⟨v366, rfl, ho0, hb⟩; refine ⟨_, rfl, ?_⟩; have n0_ := Aside0.mk (Kd.R_below (by (with_reducible repeat (first | apply Kd.R_alloc | apply Kd.R_drewN | apply Kd.R_drew)); exact HO_11.out) hb); have n1_ := Aside0.mk (Kd.R_elder' (by (with_reducible repeat (first | apply Kd.R_alloc | apply Kd.R_drewN | apply Kd.R_drew)); exact HO_13.out) (Kd.R_base ho0) hb); have n2_ := Aside0.mk (Kd.R_lower (Kd.R_new' ho0 (Kd.R_lt (by (with_reducible repeat (first | apply Kd.R_alloc | apply Kd.R_drewN | apply Kd.R_drew)); exact HO_13.out))) (below_size (by repeat (first | (with_reducible first | exact HB.out | apply below_alloc | apply pw_below_drewN | apply below_drew1) | exact HB.out)))); have n3_ := Aside0.mk (below_step (by repeat (first | (with_reducible first | exact HB.out | apply below_alloc | apply pw_below_drewN | apply below_drew1) | exact HB.out)) hb); clear HO_11; clear HO_13; clear HB; have HO_11 := n0_; have HO_13 := n1_; have HO367 := n2_; have HB := n3_; clear n0_ n1_ n2_ n3_; (try clear hb); (try clear hb2); (try clear hk); (try clear hi); (try clear ho0)) | ((with_reducible refine gate_callee (f := 26) rfl ?_); refine goesL_ (some 134) rfl rfl Try.func26 (by kernel_rfl) rfl #[.slice Ao58 x13_4.length co58] rfl (by (try simp only [List.map_toArray, List.map_cons, List.map_nil]); first | done | rfl | (simp only [List.length_drop, List.length_take]; rfl)) ?_; (with_reducible refine (doc_Text.calls k4 _ _ x13_4 t368 _ ?side1 ?side2 A52.out).mono ?_); (case side1 => repeat (first | exact (Kd.R_reads' HO_13.out).2.2 | (with_reducible refine Kd.C_alloc ?_ _) | (with_reducible refine Kd.C_drewN ?_ _) | (with_reducible refine Kd.C_drew ?_))); (case side2 => exact (Kd.R_reads' HO_13.out).2.1); rintro e w60 ⟨rfl, hb⟩; refine ⟨_, rfl, ?_⟩; have n0_ := Aside0.mk (Kd.R_below (by (with_reducible repeat (first | apply Kd.R_alloc | apply Kd.R_drewN | apply Kd.R_drew)); exact HO_11.out) hb); have n1_ := Aside0.mk (Kd.R_below (by (with_reducible repeat (first | apply Kd.R_alloc | apply Kd.R_drewN | apply Kd.R_drew)); exact HO_13.out) hb); have n2_ := Aside0.mk (Kd.R_below (by (with_reducible repeat (first | apply Kd.R_alloc | apply Kd.R_drewN | apply Kd.R_drew)); exact HO367.out) hb); have n3_ := Aside0.mk (below_step (by repeat (first | (with_reducible first | exact HB.out | apply below_alloc | apply pw_below_drewN | apply below_drew1) | exact HB.out)) hb); clear HO_11; clear HO_13; clear HO367; clear HB; have HO_11 := n0_; have HO_13 := n1_; have HO367 := n2_; have HB := n3_; clear n0_ n1_ n2_ n3_; (try clear hb); (try clear hb2); (try clear hk); (try clear hi); obtain ⟨Ao61, co61, eo61⟩ := Kd.R_slice HO367.out; subst eo61) | (go_at_call 26; (with_reducible refine (doc_Text.calls k4 _ _ t365 t369 _ ?side1 ?side2 A54.out).mono ?_); (case side1 => repeat (first | exact (Kd.R_reads' HO367.out).2.2 | (with_reducible refine Kd.C_alloc ?_ _) | (with_reducible refine Kd.C_drewN ?_ _) | (with_reducible refine Kd.C_drew ?_))); (case side2 => exact (Kd.R_reads' HO367.out).2.1); rintro e w62 ⟨rfl, hb⟩; have n0_ := Aside0.mk (Kd.R_below (by (with_reducible repeat (first | apply Kd.R_alloc | apply Kd.R_drewN | apply Kd.R_drew)); exact HO_11.out) hb); have n1_ := Aside0.mk (Kd.R_below (by (with_reducible repeat (first | apply Kd.R_alloc | apply Kd.R_drewN | apply Kd.R_drew)); exact HO_13.out) hb); have n2_ := Aside0.mk (Kd.R_below (by (with_reducible repeat (first | apply Kd.R_alloc | apply Kd.R_drewN | apply Kd.R_drew)); exact HO367.out) hb); have n3_ := Aside0.mk (below_step (by repeat (first | (with_reducible first | exact HB.out | apply below_alloc | apply pw_below_drewN | apply below_drew1) | exact HB.out)) hb); clear HO_11; clear HO_13; clear HO367; clear HB; have HO_11 := n0_; have HO_13 := n1_; have HO367 := n2_; have HB := n3_; clear n0_ n1_ n2_ n3_; (try clear hb); (try clear hb2); (try clear hk); (try clear hi)) | (go_at_call 28; (with_reducible refine (jotterlaw17_rising.calls k4 _ _ t365 t370 _ ?side1 ?side2 A56.out).mono ?_); (case side1 => repeat (first | exact (Kd.R_reads' HO367.out).2.2 | (with_reducible refine Kd.C_alloc ?_ _) | (with_reducible refine Kd.C_drewN ?_ _) | (with_reducible refine Kd.C_drew ?_))); (case side2 => exact (Kd.R_reads' HO367.out).2.1); rintro e w' ⟨rfl, ⟨nd, rfl⟩⟩))
                              go_ret
                              exact ⟨by first | rfl | (simp [errW_none, errW_some] <;> rfl) | (simp [*, errW_none, errW_some] <;> rfl), by repeat (first | (with_reducible first | exact HB.out | apply below_alloc | apply pw_below_drewN | apply below_drew1) | exact HB.out)⟩
                            · rw [if_neg c55] at H
                              have c55b0 : (t369.toList == t348.toList) = false := beq_eq_false_iff_ne.mpr c55
                              have c55b1 : (t369.toList != t348.toList) = true := bne_iff_ne.mpr c55
                              obtain rfl := Option.some.inj H
                              obtain ⟨Ao63, co63, eo63⟩ := Kd.R_slice HO_11.out
                              subst eo63
                              obtain ⟨Ao64, co64, eo64⟩ := Kd.R_slice HO_13.out
                              subst eo64
                              go_wp2_with (first | ((with_reducible refine gate_callee (f := 27) rfl ?_); refine goesL_ (some 132) rfl rfl Try.func27 (by kernel_rfl) rfl #[.slice Ao64 x13_4.length co64] rfl (by (try simp only [List.map_toArray, List.map_cons, List.map_nil]); first | done | rfl | (simp only [List.length_drop, List.length_take]; rfl)) ?_; (with_reducible refine (jotterlaw17_old.calls k4 _ _ x13_4 t365 _ ?side1 ?side2 A51.out).mono ?_); (case side1 => repeat (first | exact (Kd.R_reads' HO_13.out).2.2 | (with_reducible refine Kd.C_alloc ?_ _) | (with_reducible refine Kd.C_drewN ?_ _) | (with_reducible refine Kd.C_drew ?_))); (case side2 => exact (Kd.R_reads' HO_13.out).2.1); rintro e w65 ⟨v366, rfl, ho0, hb⟩; refine ⟨_, rfl, ?_⟩; have n0_ := Aside0.mk (Kd.R_below (by (with_reducible repeat (first | apply Kd.R_alloc | apply Kd.R_drewN | apply Kd.R_drew)); exact HO_11.out) hb); have n1_ := Aside0.mk (Kd.R_elder' (by (with_reducible repeat (first | apply Kd.R_alloc | apply Kd.R_drewN | apply Kd.R_drew)); exact HO_13.out) (Kd.R_base ho0) hb); have n2_ := Aside0.mk (Kd.R_lower (Kd.R_new' ho0 (Kd.R_lt (by (with_reducible repeat (first | apply Kd.R_alloc | apply Kd.R_drewN | apply Kd.R_drew)); exact HO_13.out))) (below_size (by repeat (first | (with_reducible first | exact HB.out | apply below_alloc | apply pw_below_drewN | apply below_drew1) | exact HB.out)))); have n3_ := Aside0.mk (below_step (by repeat (first | (with_reducible first | exact HB.out | apply below_alloc | apply pw_below_drewN | apply below_drew1) | exact HB.out)) hb); clear HO_11; clear HO_13; clear HB; have HO_11 := n0_; have HO_13 := n1_; have HO367 := n2_; have HB := n3_; clear n0_ n1_ n2_ n3_; (try clear hb); (try clear hb2); (try clear hk); (try clear hi); (try clear ho0)) | ((with_reducible refine gate_callee (f := 26) rfl ?_); refine goesL_ (some 134) rfl rfl Try.func26 (by kernel_rfl) rfl #[.slice Ao64 x13_4.length co64] rfl (by (try simp only [List.map_toArray, List.map_cons, List.map_nil]); first | done | rfl | (simp only [List.length_drop, List.length_take]; rfl)) ?_; (with_reducible refine (doc_Text.calls k4 _ _ x13_4 t368 _ ?side1 ?side2 A52.out).mono ?_); (case side1 => repeat (first | exact (Kd.R_reads' HO_13.out).2.2 | (with_reducible refine Kd.C_alloc ?_ _) | (with_reducible refine Kd.C_drewN ?_ _) | (with_reducible refine Kd.C_drew ?_))); (case side2 => exact (Kd.R_reads' HO_13.out).2.1); rintro e w66 ⟨rfl, hb⟩; refine ⟨_, rfl, ?_⟩; have n0_ := Aside0.mk (Kd.R_below (by (with_reducible repeat (first | apply Kd.R_alloc | apply Kd.R_drewN | apply Kd.R_drew)); exact HO_11.out) hb); have n1_ := Aside0.mk (Kd.R_below (by (with_reducible repeat (first | apply Kd.R_alloc | apply Kd.R_drewN | apply Kd.R_drew)); exact HO_13.out) hb); have n2_ := Aside0.mk (Kd.R_below (by (with_reducible repeat (first | apply Kd.R_alloc | apply Kd.R_drewN | apply Kd.R_drew)); exact HO367.out) hb); have n3_ := Aside0.mk (below_step (by repeat (first | (with_reducible first | exact HB.out | apply below_alloc | apply pw_below_drewN | apply below_drew1) | exact HB.out)) hb); clear HO_11; clear HO_13; clear HO367; clear HB; have HO_11 := n0_; have HO_13 := n1_; have HO367 := n2_; have HB := n3_; clear n0_ n1_ n2_ n3_; (try clear hb); (try clear hb2); (try clear hk); (try clear hi); obtain ⟨Ao67, co67, eo67⟩ := Kd.R_slice HO367.out; subst eo67) | (go_at_call 26; (with_reducible refine (doc_Text.calls k4 _ _ t365 t369 _ ?side1 ?side2 A54.out).mono ?_); (case side1 => repeat (first | exact (Kd.R_reads' HO367.out).2.2 | (with_reducible refine Kd.C_alloc ?_ _) | (with_reducible refine Kd.C_drewN ?_ _) | (with_reducible refine Kd.C_drew ?_))); (case side2 => exact (Kd.R_reads' HO367.out).2.1); rintro e w68 ⟨rfl, hb⟩; have n0_ := Aside0.mk (Kd.R_below (by (with_reducible repeat (first | apply Kd.R_alloc | apply Kd.R_drewN | apply Kd.R_drew)); exact HO_11.out) hb); have n1_ := Aside0.mk (Kd.R_below (by (with_reducible repeat (first | apply Kd.R_alloc | apply Kd.R_drewN | apply Kd.R_drew)); exact HO_13.out) hb); have n2_ := Aside0.mk (Kd.R_below (by (with_reducible repeat (first | apply Kd.R_alloc | apply Kd.R_drewN | apply Kd.R_drew)); exact HO367.out) hb); have n3_ := Aside0.mk (below_step (by repeat (first | (with_reducible first | exact HB.out | apply below_alloc | apply pw_below_drewN | apply below_drew1) | exact HB.out)) hb); clear HO_11; clear HO_13; clear HO367; clear HB; have HO_11 := n0_; have HO_13 := n1_; have HO367 := n2_; have HB := n3_; clear n0_ n1_ n2_ n3_; (try clear hb); (try clear hb2); (try clear hk); (try clear hi)))
                              go_ret
                              exact ⟨by first | rfl | (simp [errW_none, errW_some] <;> rfl) | (simp [*, errW_none, errW_some] <;> rfl), by repeat (first | (with_reducible first | exact HB.out | apply below_alloc | apply pw_below_drewN | apply below_drew1) | exact HB.out)⟩
                          · rw [if_neg c53] at H
                            have c53b0 : (t368.toList == t345.toList) = false := beq_eq_false_iff_ne.mpr c53
                            have c53b1 : (t368.toList != t345.toList) = true := bne_iff_ne.mpr c53
                            obtain rfl := Option.some.inj H
                            obtain ⟨Ao69, co69, eo69⟩ := Kd.R_slice HO_11.out
                            subst eo69
                            obtain ⟨Ao70, co70, eo70⟩ := Kd.R_slice HO_13.out
                            subst eo70
                            go_wp2_with (first | ((with_reducible refine gate_callee (f := 27) rfl ?_); refine goesL_ (some 132) rfl rfl Try.func27 (by kernel_rfl) rfl #[.slice Ao70 x13_4.length co70] rfl (by (try simp only [List.map_toArray, List.map_cons, List.map_nil]); first | done | rfl | (simp only [List.length_drop, List.length_take]; rfl)) ?_; (with_reducible refine (jotterlaw17_old.calls k4 _ _ x13_4 t365 _ ?side1 ?side2 A51.out).mono ?_); (case side1 => repeat (first | exact (Kd.R_reads' HO_13.out).2.2 | (with_reducible refine Kd.C_alloc ?_ _) | (with_reducible refine Kd.C_drewN ?_ _) | (with_reducible refine Kd.C_drew ?_))); (case side2 => exact (Kd.R_reads' HO_13.out).2.1); rintro e w71 ⟨v366, rfl, ho0, hb⟩; refine ⟨_, rfl, ?_⟩; have n0_ := Aside0.mk (Kd.R_below (by (with_reducible repeat (first | apply Kd.R_alloc | apply Kd.R_drewN | apply Kd.R_drew)); exact HO_11.out) hb); have n1_ := Aside0.mk (Kd.R_elder' (by (with_reducible repeat (first | apply Kd.R_alloc | apply Kd.R_drewN | apply Kd.R_drew)); exact HO_13.out) (Kd.R_base ho0) hb); have n2_ := Aside0.mk (Kd.R_lower (Kd.R_new' ho0 (Kd.R_lt (by (with_reducible repeat (first | apply Kd.R_alloc | apply Kd.R_drewN | apply Kd.R_drew)); exact HO_13.out))) (below_size (by repeat (first | (with_reducible first | exact HB.out | apply below_alloc | apply pw_below_drewN | apply below_drew1) | exact HB.out)))); have n3_ := Aside0.mk (below_step (by repeat (first | (with_reducible first | exact HB.out | apply below_alloc | apply pw_below_drewN | apply below_drew1) | exact HB.out)) hb); clear HO_11; clear HO_13; clear HB; have HO_11 := n0_; have HO_13 := n1_; have HO367 := n2_; have HB := n3_; clear n0_ n1_ n2_ n3_; (try clear hb); (try clear hb2); (try clear hk); (try clear hi); (try clear ho0)) | ((with_reducible refine gate_callee (f := 26) rfl ?_); refine goesL_ (some 134) rfl rfl Try.func26 (by kernel_rfl) rfl #[.slice Ao70 x13_4.length co70] rfl (by (try simp only [List.map_toArray, List.map_cons, List.map_nil]); first | done | rfl | (simp only [List.length_drop, List.length_take]; rfl)) ?_; (with_reducible refine (doc_Text.calls k4 _ _ x13_4 t368 _ ?side1 ?side2 A52.out).mono ?_); (case side1 => repeat (first | exact (Kd.R_reads' HO_13.out).2.2 | (with_reducible refine Kd.C_alloc ?_ _) | (with_reducible refine Kd.C_drewN ?_ _) | (with_reducible refine Kd.C_drew ?_))); (case side2 => exact (Kd.R_reads' HO_13.out).2.1); rintro e w72 ⟨rfl, hb⟩; refine ⟨_, rfl, ?_⟩; have n0_ := Aside0.mk (Kd.R_below (by (with_reducible repeat (first | apply Kd.R_alloc | apply Kd.R_drewN | apply Kd.R_drew)); exact HO_11.out) hb); have n1_ := Aside0.mk (Kd.R_below (by (with_reducible repeat (first | apply Kd.R_alloc | apply Kd.R_drewN | apply Kd.R_drew)); exact HO_13.out) hb); have n2_ := Aside0.mk (Kd.R_below (by (with_reducible repeat (first | apply Kd.R_alloc | apply Kd.R_drewN | apply Kd.R_drew)); exact HO367.out) hb); have n3_ := Aside0.mk (below_step (by repeat (first | (with_reducible first | exact HB.out | apply below_alloc | apply pw_below_drewN | apply below_drew1) | exact HB.out)) hb); clear HO_11; clear HO_13; clear HO367; clear HB; have HO_11 := n0_; have HO_13 := n1_; have HO367 := n2_; have HB := n3_; clear n0_ n1_ n2_ n3_; (try clear hb); (try clear hb2); (try clear hk); (try clear hi)))
                            go_ret
                            exact ⟨by first | rfl | (simp [errW_none, errW_some] <;> rfl) | (simp [*, errW_none, errW_some] <;> rfl), by repeat (first | (with_reducible first | exact HB.out | apply below_alloc | apply pw_below_drewN | apply below_drew1) | exact HB.out)⟩

end Go.Proofs.Ytjnciljimacblaa.Q
