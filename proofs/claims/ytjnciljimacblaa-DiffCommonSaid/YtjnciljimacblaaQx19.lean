/- Go functions of the seat, each as a Lean function that tells its answer, and the proof that the call gives it. Condition: the arguments are read as lists. Laid by a program of this session. -/
import Derived.Test.YtjnciljimacblaaQx0
import Derived.Test.YtjnciljimacblaaQx1
import Derived.Test.YtjnciljimacblaaQx16
import Derived.Test.YtjnciljimacblaaQx17
import Derived.Test.YtjnciljimacblaaQx18
namespace Go.Proofs.Ytjnciljimacblaa.Q
open Go.RowKit Go.Proofs.YtjnciljimacblaaW.PrintWords Go.Proofs.YtjnciljimacblaaW.PrintLast Go.Proofs.YtjnciljimacblaaW.PrintMore
attribute [local go_sem] max2_int min2_int max_two min_two max_three min_three max_four min_four   -- for this text's walks alone
set_option linter.unusedVariables false
set_option linter.unusedSimpArgs false

/-! ### jotterlaw17_DiffCommon: function 5 -/
def jotterlaw17_DiffCommon.j0 : Nat → ByteArray → ByteArray → ByteArray → ByteArray → Bool → Option (Bool)
  | 0, _, _, _, _, _ => none
  | k + 1, x0, x1, x7, x9, x58 => if x58 = true then (some false) else ((jotterlaw17_within.f k x7 x0).bind fun t218 => (if t218 = true then ((jotterlaw17_within.f k x7 x1).bind fun t219 => (if t219 = true then ((jotterlaw17_within.f k x9 x1).bind fun t220 => (if t220 = true then (some (decide ((x9.size : Int) ≤ (x7.size : Int)))) else (some true))) else (some false))) else (some false)))
def jotterlaw17_DiffCommon.f (k : Nat) (a0 : ByteArray) (a1 : ByteArray) (l2 : List Bool) : Option (Bool) := (jotterlaw17_plain.f a0 300).bind fun t209 => ((jotterlaw17_plain.f a1 300).bind fun t210 => ((diff_Common.f t209 t210).bind fun bt211 => ((jotterlaw17_picked.f k t209 l2).bind fun t213 => ((diff_Common.f t209 t213).bind fun bt214 => ((diff_Common.f t213 t209).bind fun bt216 => (if bt211.2 = 0 then (if bt214.2 = 0 then (if bt216.2 = 0 then (if bt214.1.toList = t213.toList then (jotterlaw17_DiffCommon.j0 k t209 t210 bt211.1 t213 (bt216.1.toList != t213.toList)) else (jotterlaw17_DiffCommon.j0 k t209 t210 bt211.1 t213 true)) else (jotterlaw17_DiffCommon.j0 k t209 t210 bt211.1 t213 true)) else (jotterlaw17_DiffCommon.j0 k t209 t210 bt211.1 t213 true)) else (jotterlaw17_DiffCommon.j0 k t209 t210 bt211.1 t213 true)))))))
theorem jotterlaw17_DiffCommon.mono_l : ∀ k, (∀ y0 y1 y2 y3 y4, LeO (jotterlaw17_DiffCommon.j0 k y0 y1 y2 y3 y4) (jotterlaw17_DiffCommon.j0 (k + 1) y0 y1 y2 y3 y4))
  | 0 => fun _ _ _ _ _ r h => by simp [jotterlaw17_DiffCommon.j0] at h
  | k + 1 => by
    have ih0 := jotterlaw17_DiffCommon.mono_l k
    · intro y0 y1 y2 y3 y4
      unfold jotterlaw17_DiffCommon.j0
      repeat' first
      | (with_reducible exact ih0 _ _ _ _ _)
      | (with_reducible exact jotterlaw17_picked.mono _ _ _)
      | (with_reducible exact jotterlaw17_within.mono _ _ _)
      | (with_reducible exact LeO.refl _)
      | (with_reducible exact LeO.none _)
      | (with_reducible refine LeO.ite ?_ ?_)
      | (with_reducible refine LeO.bind ?_ (fun _ => ?_))
      | exact ih0 _ _ _ _ _
      | exact jotterlaw17_picked.mono _ _ _
      | exact jotterlaw17_within.mono _ _ _
      | exact LeO.none _
      | refine LeO.ite ?_ ?_
      | refine LeO.bind ?_ (fun _ => ?_)
theorem jotterlaw17_DiffCommon.mono : ∀ a0 a1 a2 k, LeO (jotterlaw17_DiffCommon.f k a0 a1 a2) (jotterlaw17_DiffCommon.f (k + 1) a0 a1 a2) := by
  intro a0 a1 a2 k
  have ih0 := jotterlaw17_DiffCommon.mono_l k
  unfold jotterlaw17_DiffCommon.f
  repeat' first
      | (with_reducible exact ih0 _ _ _ _ _)
      | (with_reducible exact jotterlaw17_picked.mono _ _ _)
      | (with_reducible exact jotterlaw17_within.mono _ _ _)
      | (with_reducible exact LeO.refl _)
      | (with_reducible exact LeO.none _)
      | (with_reducible refine LeO.ite ?_ ?_)
      | (with_reducible refine LeO.bind ?_ (fun _ => ?_))
      | exact ih0 _ _ _ _ _
      | exact jotterlaw17_picked.mono _ _ _
      | exact jotterlaw17_within.mono _ _ _
      | exact LeO.none _
      | refine LeO.ite ?_ ?_
      | refine LeO.bind ?_ (fun _ => ?_)
set_option maxHeartbeats 8000000 in
set_option maxRecDepth 100000 in
theorem jotterlaw17_DiffCommon.calls (k : Nat) (a0 : ByteArray) (a1 : ByteArray) (A2 : Option Addr) (c2 : Nat) (l2 : List Bool) (r : Bool) (w : World) (hr2 : Kd.C Kd.bool w A2 l2.length l2) (hc2 : l2.length ≤ c2) (h : jotterlaw17_DiffCommon.f k a0 a1 l2 = some r) :
    Calls Try.prog 5 #[.string a0, .string a1, .slice A2 l2.length c2] w fun e w' => e = .returned (.bool r) ∧ Below w.heap.size w w' := by
  have HR2 := Aside0.mk hr2
  have HC2 := Aside0.mk hc2
  clear hr2 hc2
  have HB := Aside0.mk (Below.refl w.heap.size w)
  have H : ((jotterlaw17_plain.f a0 300).bind fun t209 => ((jotterlaw17_plain.f a1 300).bind fun t210 => ((diff_Common.f t209 t210).bind fun bt211 => ((jotterlaw17_picked.f k t209 l2).bind fun t213 => ((diff_Common.f t209 t213).bind fun bt214 => ((diff_Common.f t213 t209).bind fun bt216 => (if bt211.2 = 0 then (if bt214.2 = 0 then (if bt216.2 = 0 then (if bt214.1.toList = t213.toList then (jotterlaw17_DiffCommon.j0 k t209 t210 bt211.1 t213 (bt216.1.toList != t213.toList)) else (jotterlaw17_DiffCommon.j0 k t209 t210 bt211.1 t213 true)) else (jotterlaw17_DiffCommon.j0 k t209 t210 bt211.1 t213 true)) else (jotterlaw17_DiffCommon.j0 k t209 t210 bt211.1 t213 true)) else (jotterlaw17_DiffCommon.j0 k t209 t210 bt211.1 t213 true)))))))) = some r := h
  clear h
  replace H := Option.bind_eq_some_iff.mp H
  obtain ⟨t209, A40, H⟩ := H
  replace H : ((jotterlaw17_plain.f a1 300).bind fun t210 => ((diff_Common.f t209 t210).bind fun bt211 => ((jotterlaw17_picked.f k t209 l2).bind fun t213 => ((diff_Common.f t209 t213).bind fun bt214 => ((diff_Common.f t213 t209).bind fun bt216 => (if bt211.2 = 0 then (if bt214.2 = 0 then (if bt216.2 = 0 then (if bt214.1.toList = t213.toList then (jotterlaw17_DiffCommon.j0 k t209 t210 bt211.1 t213 (bt216.1.toList != t213.toList)) else (jotterlaw17_DiffCommon.j0 k t209 t210 bt211.1 t213 true)) else (jotterlaw17_DiffCommon.j0 k t209 t210 bt211.1 t213 true)) else (jotterlaw17_DiffCommon.j0 k t209 t210 bt211.1 t213 true)) else (jotterlaw17_DiffCommon.j0 k t209 t210 bt211.1 t213 true))))))) = some r := H
  have A4 := Aside0.mk A40
  clear A40
  replace H := Option.bind_eq_some_iff.mp H
  obtain ⟨t210, A50, H⟩ := H
  replace H : ((diff_Common.f t209 t210).bind fun bt211 => ((jotterlaw17_picked.f k t209 l2).bind fun t213 => ((diff_Common.f t209 t213).bind fun bt214 => ((diff_Common.f t213 t209).bind fun bt216 => (if bt211.2 = 0 then (if bt214.2 = 0 then (if bt216.2 = 0 then (if bt214.1.toList = t213.toList then (jotterlaw17_DiffCommon.j0 k t209 t210 bt211.1 t213 (bt216.1.toList != t213.toList)) else (jotterlaw17_DiffCommon.j0 k t209 t210 bt211.1 t213 true)) else (jotterlaw17_DiffCommon.j0 k t209 t210 bt211.1 t213 true)) else (jotterlaw17_DiffCommon.j0 k t209 t210 bt211.1 t213 true)) else (jotterlaw17_DiffCommon.j0 k t209 t210 bt211.1 t213 true)))))) = some r := H
  have A5 := Aside0.mk A50
  clear A50
  replace H := Option.bind_eq_some_iff.mp H
  obtain ⟨⟨t211, t212⟩, A60, H⟩ := H
  replace H : ((jotterlaw17_picked.f k t209 l2).bind fun t213 => ((diff_Common.f t209 t213).bind fun bt214 => ((diff_Common.f t213 t209).bind fun bt216 => (if t212 = 0 then (if bt214.2 = 0 then (if bt216.2 = 0 then (if bt214.1.toList = t213.toList then (jotterlaw17_DiffCommon.j0 k t209 t210 t211 t213 (bt216.1.toList != t213.toList)) else (jotterlaw17_DiffCommon.j0 k t209 t210 t211 t213 true)) else (jotterlaw17_DiffCommon.j0 k t209 t210 t211 t213 true)) else (jotterlaw17_DiffCommon.j0 k t209 t210 t211 t213 true)) else (jotterlaw17_DiffCommon.j0 k t209 t210 t211 t213 true))))) = some r := H
  have A6 := Aside0.mk A60
  clear A60
  replace H := Option.bind_eq_some_iff.mp H
  obtain ⟨t213, A70, H⟩ := H
  replace H : ((diff_Common.f t209 t213).bind fun bt214 => ((diff_Common.f t213 t209).bind fun bt216 => (if t212 = 0 then (if bt214.2 = 0 then (if bt216.2 = 0 then (if bt214.1.toList = t213.toList then (jotterlaw17_DiffCommon.j0 k t209 t210 t211 t213 (bt216.1.toList != t213.toList)) else (jotterlaw17_DiffCommon.j0 k t209 t210 t211 t213 true)) else (jotterlaw17_DiffCommon.j0 k t209 t210 t211 t213 true)) else (jotterlaw17_DiffCommon.j0 k t209 t210 t211 t213 true)) else (jotterlaw17_DiffCommon.j0 k t209 t210 t211 t213 true)))) = some r := H
  have A7 := Aside0.mk A70
  clear A70
  replace H := Option.bind_eq_some_iff.mp H
  obtain ⟨⟨t214, t215⟩, A80, H⟩ := H
  replace H : ((diff_Common.f t213 t209).bind fun bt216 => (if t212 = 0 then (if t215 = 0 then (if bt216.2 = 0 then (if t214.toList = t213.toList then (jotterlaw17_DiffCommon.j0 k t209 t210 t211 t213 (bt216.1.toList != t213.toList)) else (jotterlaw17_DiffCommon.j0 k t209 t210 t211 t213 true)) else (jotterlaw17_DiffCommon.j0 k t209 t210 t211 t213 true)) else (jotterlaw17_DiffCommon.j0 k t209 t210 t211 t213 true)) else (jotterlaw17_DiffCommon.j0 k t209 t210 t211 t213 true))) = some r := H
  have A8 := Aside0.mk A80
  clear A80
  replace H := Option.bind_eq_some_iff.mp H
  obtain ⟨⟨t216, t217⟩, A90, H⟩ := H
  replace H : (if t212 = 0 then (if t215 = 0 then (if t217 = 0 then (if t214.toList = t213.toList then (jotterlaw17_DiffCommon.j0 k t209 t210 t211 t213 (t216.toList != t213.toList)) else (jotterlaw17_DiffCommon.j0 k t209 t210 t211 t213 true)) else (jotterlaw17_DiffCommon.j0 k t209 t210 t211 t213 true)) else (jotterlaw17_DiffCommon.j0 k t209 t210 t211 t213 true)) else (jotterlaw17_DiffCommon.j0 k t209 t210 t211 t213 true)) = some r := H
  have A9 := Aside0.mk A90
  clear A90
  have HC10 := Aside0.mk H
  clear H
  go_enter Try.func5, Try.ntmps5
  go_upto_region 7 with (first | ((with_reducible refine gate_callee (f := 11) rfl ?_); refine goesL_ (some 15) rfl rfl Try.func11 (by kernel_rfl) rfl #[.string a0, .int .i64 300] rfl (by (try simp only [List.map_toArray, List.map_cons, List.map_nil]); first | done | rfl | (simp only [List.length_drop, List.length_take]; rfl)) ?_; (with_reducible refine (jotterlaw17_plain.calls a0 300 t209 _ A4.out).mono ?_); rintro e w11 ⟨rfl, hb⟩; refine ⟨_, rfl, ?_⟩; have n0_ := Aside0.mk (below_step (by repeat (first | (with_reducible first | exact HB.out | apply below_alloc | apply pw_below_drewN | apply below_drew1) | exact HB.out)) hb); clear HB; have HB := n0_; clear n0_; (try clear hb); (try clear hb2); (try clear hk); (try clear hi)) | ((with_reducible refine gate_callee (f := 11) rfl ?_); refine goesL_ (some 17) rfl rfl Try.func11 (by kernel_rfl) rfl #[.string a1, .int .i64 300] rfl (by (try simp only [List.map_toArray, List.map_cons, List.map_nil]); first | done | rfl | (simp only [List.length_drop, List.length_take]; rfl)) ?_; (with_reducible refine (jotterlaw17_plain.calls a1 300 t210 _ A5.out).mono ?_); rintro e w12 ⟨rfl, hb⟩; refine ⟨_, rfl, ?_⟩; have n0_ := Aside0.mk (below_step (by repeat (first | (with_reducible first | exact HB.out | apply below_alloc | apply pw_below_drewN | apply below_drew1) | exact HB.out)) hb); clear HB; have HB := n0_; clear n0_; (try clear hb); (try clear hb2); (try clear hk); (try clear hi)) | ((with_reducible refine gate_callee (f := 13) rfl ?_); refine goesL_ (some 21) rfl rfl Try.func13 (by kernel_rfl) rfl #[.string t209, .string t210] rfl (by (try simp only [List.map_toArray, List.map_cons, List.map_nil]); first | done | rfl | (simp only [List.length_drop, List.length_take]; rfl)) ?_; (with_reducible refine (diff_Common.calls t209 t210 t211 t212 _ A6.out).mono ?_); rintro e w13 ⟨rfl, hb⟩; refine ⟨_, rfl, ?_⟩; have n0_ := Aside0.mk (below_step (by repeat (first | (with_reducible first | exact HB.out | apply below_alloc | apply pw_below_drewN | apply below_drew1) | exact HB.out)) hb); clear HB; have HB := n0_; clear n0_; (try clear hb); (try clear hb2); (try clear hk); (try clear hi)) | ((with_reducible refine gate_callee (f := 14) rfl ?_); refine goesL_ (some 26) rfl rfl Try.func14 (by kernel_rfl) rfl #[.string t209, .slice A2 l2.length c2] rfl (by (try simp only [List.map_toArray, List.map_cons, List.map_nil]); first | done | rfl | (simp only [List.length_drop, List.length_take]; rfl)) ?_; (with_reducible refine (jotterlaw17_picked.calls k t209 _ _ l2 t213 _ ?side1 ?side2 A7.out).mono ?_); (case side1 => repeat (first | exact (Kd.C_below HR2.out HB.out) | (with_reducible refine Kd.C_alloc ?_ _) | (with_reducible refine Kd.C_drewN ?_ _) | (with_reducible refine Kd.C_drew ?_))); (case side2 => exact HC2.out); rintro e w14 ⟨rfl, hb⟩; refine ⟨_, rfl, ?_⟩; have n0_ := Aside0.mk (below_step (by repeat (first | (with_reducible first | exact HB.out | apply below_alloc | apply pw_below_drewN | apply below_drew1) | exact HB.out)) hb); clear HB; have HB := n0_; clear n0_; (try clear hb); (try clear hb2); (try clear hk); (try clear hi)) | ((with_reducible refine gate_callee (f := 13) rfl ?_); refine goesL_ (some 30) rfl rfl Try.func13 (by kernel_rfl) rfl #[.string t209, .string t213] rfl (by (try simp only [List.map_toArray, List.map_cons, List.map_nil]); first | done | rfl | (simp only [List.length_drop, List.length_take]; rfl)) ?_; (with_reducible refine (diff_Common.calls t209 t213 t214 t215 _ A8.out).mono ?_); rintro e w15 ⟨rfl, hb⟩; refine ⟨_, rfl, ?_⟩; have n0_ := Aside0.mk (below_step (by repeat (first | (with_reducible first | exact HB.out | apply below_alloc | apply pw_below_drewN | apply below_drew1) | exact HB.out)) hb); clear HB; have HB := n0_; clear n0_; (try clear hb); (try clear hb2); (try clear hk); (try clear hi)) | ((with_reducible refine gate_callee (f := 13) rfl ?_); refine goesL_ (some 36) rfl rfl Try.func13 (by kernel_rfl) rfl #[.string t213, .string t209] rfl (by (try simp only [List.map_toArray, List.map_cons, List.map_nil]); first | done | rfl | (simp only [List.length_drop, List.length_take]; rfl)) ?_; (with_reducible refine (diff_Common.calls t213 t209 t216 t217 _ A9.out).mono ?_); rintro e w16 ⟨rfl, hb⟩; refine ⟨_, rfl, ?_⟩; have n0_ := Aside0.mk (below_step (by repeat (first | (with_reducible first | exact HB.out | apply below_alloc | apply pw_below_drewN | apply below_drew1) | exact HB.out)) hb); clear HB; have HB := n0_; clear n0_; (try clear hb); (try clear hb2); (try clear hk); (try clear hi)))
  (try simp only [Act.put, List.setIfInBounds_toArray, List.set_cons_zero, List.set_cons_succ])
  go_cut [58] (fun v58 wc => ∃ (kq : Nat) (x58_9 : Bool), v58 = .bool x58_9 ∧ Aside0 (jotterlaw17_DiffCommon.j0 kq t209 t210 t211 t213 x58_9 = some r) ∧ Aside0 (kq ≤ k) ∧ Aside0 (Below w.heap.size w wc))
  case first =>
    have H := HC10.out
    clear HC10
    by_cases c17 : t212 = 0
    · rw [if_pos c17] at H
      have c17b0 : (t212 == 0) = true := beq_iff_eq.mpr c17
      have c17b1 : (t212 != 0) = false := bne_eq_false_iff_eq.mpr c17
      clear c17
      (first | rw [c17b0] | (simp only [i64_w, i32_w]; rw [c17b0]) | skip)
      by_cases c18 : t215 = 0
      · rw [if_pos c18] at H
        have c18b0 : (t215 == 0) = true := beq_iff_eq.mpr c18
        have c18b1 : (t215 != 0) = false := bne_eq_false_iff_eq.mpr c18
        clear c18
        by_cases c19 : t217 = 0
        · rw [if_pos c19] at H
          have c19b0 : (t217 == 0) = true := beq_iff_eq.mpr c19
          have c19b1 : (t217 != 0) = false := bne_eq_false_iff_eq.mpr c19
          clear c19
          by_cases c20 : t214.toList = t213.toList
          · rw [if_pos c20] at H
            have c20b0 : (t214.toList == t213.toList) = true := beq_iff_eq.mpr c20
            have c20b1 : (t214.toList != t213.toList) = false := bne_eq_false_iff_eq.mpr c20
            clear c20
            have H' := Aside0.mk H
            clear H
            go_wp2
            go_meet
            case rel => exact ⟨_, ((t216.toList != t213.toList)), (by first | rfl | (simp; done) | (simp [*]; done)), H', ⟨by first | omega | exact Nat.le_refl _⟩, ⟨by repeat (first | (with_reducible first | exact HB.out | apply below_alloc | apply pw_below_drewN | apply below_drew1) | exact HB.out)⟩⟩
          · rw [if_neg c20] at H
            have c20b0 : (t214.toList == t213.toList) = false := beq_eq_false_iff_ne.mpr c20
            have c20b1 : (t214.toList != t213.toList) = true := bne_iff_ne.mpr c20
            have H' := Aside0.mk H
            clear H
            go_wp2
            go_meet
            case rel => exact ⟨_, (true), (by first | rfl | (simp; done) | (simp [*]; done)), H', ⟨by first | omega | exact Nat.le_refl _⟩, ⟨by repeat (first | (with_reducible first | exact HB.out | apply below_alloc | apply pw_below_drewN | apply below_drew1) | exact HB.out)⟩⟩
        · rw [if_neg c19] at H
          have c19b0 : (t217 == 0) = false := beq_eq_false_iff_ne.mpr c19
          have c19b1 : (t217 != 0) = true := bne_iff_ne.mpr c19
          have H' := Aside0.mk H
          clear H
          go_wp2
          go_meet
          case rel => exact ⟨_, (true), (by first | rfl | (simp; done) | (simp [*]; done)), H', ⟨by first | omega | exact Nat.le_refl _⟩, ⟨by repeat (first | (with_reducible first | exact HB.out | apply below_alloc | apply pw_below_drewN | apply below_drew1) | exact HB.out)⟩⟩
      · rw [if_neg c18] at H
        have c18b0 : (t215 == 0) = false := beq_eq_false_iff_ne.mpr c18
        have c18b1 : (t215 != 0) = true := bne_iff_ne.mpr c18
        have H' := Aside0.mk H
        clear H
        go_wp2
        go_meet
        case rel => exact ⟨_, (true), (by first | rfl | (simp; done) | (simp [*]; done)), H', ⟨by first | omega | exact Nat.le_refl _⟩, ⟨by repeat (first | (with_reducible first | exact HB.out | apply below_alloc | apply pw_below_drewN | apply below_drew1) | exact HB.out)⟩⟩
    · rw [if_neg c17] at H
      have c17b0 : (t212 == 0) = false := beq_eq_false_iff_ne.mpr c17
      have c17b1 : (t212 != 0) = true := bne_iff_ne.mpr c17
      (first | rw [c17b0] | (simp only [i64_w, i32_w]; rw [c17b0]) | skip)
      have H' := Aside0.mk H
      clear H
      go_wp2
      go_meet
      case rel => exact ⟨_, (true), (by first | rfl | (simp; done) | (simp [*]; done)), H', ⟨by first | omega | exact Nat.le_refl _⟩, ⟨by repeat (first | (with_reducible first | exact HB.out | apply below_alloc | apply pw_below_drewN | apply below_drew1) | exact HB.out)⟩⟩
  case rest =>
    clear HC10
    try clear c1
    try clear c2
    try clear p2
    try clear c5
    try clear c11
    try clear c13
    try clear c14
    try clear c17
    try clear c17b0
    try clear c17b1
    try clear c18
    try clear c18b0
    try clear c18b1
    try clear c19
    try clear c19b0
    try clear c19b1
    try clear c20
    try clear c20b0
    try clear c20b1
    obtain ⟨kq, x58_9, rfl, HA, HJ9, HB⟩ := hcut
    cases kq with
    | zero => exact absurd HA.out (by simp [jotterlaw17_DiffCommon.j0])
    | succ kj9 =>
      have H := HA.out
      clear HA
      simp only [jotterlaw17_DiffCommon.j0] at H
      by_cases c21 : x58_9 = true
      · subst c21
        have H1 : (some false) = some r := by rw [if_pos rfl] at H; exact H
        clear H
        have H := H1
        clear H1
        obtain rfl := Option.some.inj H
        go_wp2
        go_ret
        exact ⟨by first | rfl | (simp [errW_none, errW_some] <;> rfl) | (simp [*, errW_none, errW_some] <;> rfl), by repeat (first | (with_reducible first | exact HB.out | apply below_alloc | apply pw_below_drewN | apply below_drew1) | exact HB.out)⟩
      · replace c21 := Bool.eq_false_iff.mpr c21
        subst c21
        have H1 : ((jotterlaw17_within.f kj9 t211 t209).bind fun t218 => (if t218 = true then ((jotterlaw17_within.f kj9 t211 t210).bind fun t219 => (if t219 = true then ((jotterlaw17_within.f kj9 t213 t210).bind fun t220 => (if t220 = true then (some (decide ((t213.size : Int) ≤ (t211.size : Int)))) else (some true))) else (some false))) else (some false))) = some r := by rw [if_neg (show ¬ (false = true) by decide)] at H; exact H
        clear H
        have H := H1
        clear H1
        replace H := Option.bind_eq_some_iff.mp H
        obtain ⟨t218, A220, H⟩ := H
        replace H : (if t218 = true then ((jotterlaw17_within.f kj9 t211 t210).bind fun t219 => (if t219 = true then ((jotterlaw17_within.f kj9 t213 t210).bind fun t220 => (if t220 = true then (some (decide ((t213.size : Int) ≤ (t211.size : Int)))) else (some true))) else (some false))) else (some false)) = some r := H
        have A22 := Aside0.mk A220
        clear A220
        by_cases c23 : t218 = true
        · subst c23
          have H1 : ((jotterlaw17_within.f kj9 t211 t210).bind fun t219 => (if t219 = true then ((jotterlaw17_within.f kj9 t213 t210).bind fun t220 => (if t220 = true then (some (decide ((t213.size : Int) ≤ (t211.size : Int)))) else (some true))) else (some false))) = some r := by rw [if_pos rfl] at H; exact H
          clear H
          have H := H1
          clear H1
          replace H := Option.bind_eq_some_iff.mp H
          obtain ⟨t219, A240, H⟩ := H
          replace H : (if t219 = true then ((jotterlaw17_within.f kj9 t213 t210).bind fun t220 => (if t220 = true then (some (decide ((t213.size : Int) ≤ (t211.size : Int)))) else (some true))) else (some false)) = some r := H
          have A24 := Aside0.mk A240
          clear A240
          by_cases c25 : t219 = true
          · subst c25
            have H1 : ((jotterlaw17_within.f kj9 t213 t210).bind fun t220 => (if t220 = true then (some (decide ((t213.size : Int) ≤ (t211.size : Int)))) else (some true))) = some r := by rw [if_pos rfl] at H; exact H
            clear H
            have H := H1
            clear H1
            replace H := Option.bind_eq_some_iff.mp H
            obtain ⟨t220, A260, H⟩ := H
            replace H : (if t220 = true then (some (decide ((t213.size : Int) ≤ (t211.size : Int)))) else (some true)) = some r := H
            have A26 := Aside0.mk A260
            clear A260
            by_cases c27 : t220 = true
            · subst c27
              have H1 : (some (decide ((t213.size : Int) ≤ (t211.size : Int)))) = some r := by rw [if_pos rfl] at H; exact H
              clear H
              have H := H1
              clear H1
              obtain rfl := Option.some.inj H
              go_wp2_with (first | ((with_reducible refine gate_callee (f := 15) rfl ?_); refine goesL_ (some 61) rfl rfl Try.func15 (by kernel_rfl) rfl #[.string t211, .string t209] rfl (by (try simp only [List.map_toArray, List.map_cons, List.map_nil]); first | done | rfl | (simp only [List.length_drop, List.length_take]; rfl)) ?_; (with_reducible refine (jotterlaw17_within.calls kj9 t211 t209 true _ A22.out).mono ?_); rintro e w' ⟨rfl, ⟨nd, rfl⟩⟩; refine ⟨_, rfl, ?_⟩) | (go_at_call 15; (with_reducible refine (jotterlaw17_within.calls kj9 t211 t210 true _ A24.out).mono ?_); rintro e w' ⟨rfl, ⟨nd, rfl⟩⟩) | ((with_reducible refine gate_callee (f := 15) rfl ?_); refine goesL_ (some 71) rfl rfl Try.func15 (by kernel_rfl) rfl #[.string t213, .string t210] rfl (by (try simp only [List.map_toArray, List.map_cons, List.map_nil]); first | done | rfl | (simp only [List.length_drop, List.length_take]; rfl)) ?_; (with_reducible refine (jotterlaw17_within.calls kj9 t213 t210 true _ A26.out).mono ?_); rintro e w' ⟨rfl, ⟨nd, rfl⟩⟩; refine ⟨_, rfl, ?_⟩))
              go_ret
              exact ⟨by first | rfl | (simp [errW_none, errW_some] <;> rfl) | (simp [*, errW_none, errW_some] <;> rfl), by repeat (first | (with_reducible first | exact HB.out | apply below_alloc | apply pw_below_drewN | apply below_drew1) | exact HB.out)⟩
            · replace c27 := Bool.eq_false_iff.mpr c27
              subst c27
              have H1 : (some true) = some r := by rw [if_neg (show ¬ (false = true) by decide)] at H; exact H
              clear H
              have H := H1
              clear H1
              obtain rfl := Option.some.inj H
              go_wp2_with (first | ((with_reducible refine gate_callee (f := 15) rfl ?_); refine goesL_ (some 61) rfl rfl Try.func15 (by kernel_rfl) rfl #[.string t211, .string t209] rfl (by (try simp only [List.map_toArray, List.map_cons, List.map_nil]); first | done | rfl | (simp only [List.length_drop, List.length_take]; rfl)) ?_; (with_reducible refine (jotterlaw17_within.calls kj9 t211 t209 true _ A22.out).mono ?_); rintro e w' ⟨rfl, ⟨nd, rfl⟩⟩; refine ⟨_, rfl, ?_⟩) | (go_at_call 15; (with_reducible refine (jotterlaw17_within.calls kj9 t211 t210 true _ A24.out).mono ?_); rintro e w' ⟨rfl, ⟨nd, rfl⟩⟩) | ((with_reducible refine gate_callee (f := 15) rfl ?_); refine goesL_ (some 71) rfl rfl Try.func15 (by kernel_rfl) rfl #[.string t213, .string t210] rfl (by (try simp only [List.map_toArray, List.map_cons, List.map_nil]); first | done | rfl | (simp only [List.length_drop, List.length_take]; rfl)) ?_; (with_reducible refine (jotterlaw17_within.calls kj9 t213 t210 false _ A26.out).mono ?_); rintro e w' ⟨rfl, ⟨nd, rfl⟩⟩; refine ⟨_, rfl, ?_⟩))
              go_ret
              exact ⟨by first | rfl | (simp [errW_none, errW_some] <;> rfl) | (simp [*, errW_none, errW_some] <;> rfl), by repeat (first | (with_reducible first | exact HB.out | apply below_alloc | apply pw_below_drewN | apply below_drew1) | exact HB.out)⟩
          · replace c25 := Bool.eq_false_iff.mpr c25
            subst c25
            have H1 : (some false) = some r := by rw [if_neg (show ¬ (false = true) by decide)] at H; exact H
            clear H
            have H := H1
            clear H1
            obtain rfl := Option.some.inj H
            go_wp2_with (first | ((with_reducible refine gate_callee (f := 15) rfl ?_); refine goesL_ (some 61) rfl rfl Try.func15 (by kernel_rfl) rfl #[.string t211, .string t209] rfl (by (try simp only [List.map_toArray, List.map_cons, List.map_nil]); first | done | rfl | (simp only [List.length_drop, List.length_take]; rfl)) ?_; (with_reducible refine (jotterlaw17_within.calls kj9 t211 t209 true _ A22.out).mono ?_); rintro e w' ⟨rfl, ⟨nd, rfl⟩⟩; refine ⟨_, rfl, ?_⟩) | (go_at_call 15; (with_reducible refine (jotterlaw17_within.calls kj9 t211 t210 false _ A24.out).mono ?_); rintro e w' ⟨rfl, ⟨nd, rfl⟩⟩))
            go_ret
            exact ⟨by first | rfl | (simp [errW_none, errW_some] <;> rfl) | (simp [*, errW_none, errW_some] <;> rfl), by repeat (first | (with_reducible first | exact HB.out | apply below_alloc | apply pw_below_drewN | apply below_drew1) | exact HB.out)⟩
        · replace c23 := Bool.eq_false_iff.mpr c23
          subst c23
          have H1 : (some false) = some r := by rw [if_neg (show ¬ (false = true) by decide)] at H; exact H
          clear H
          have H := H1
          clear H1
          obtain rfl := Option.some.inj H
          go_wp2_with (first | ((with_reducible refine gate_callee (f := 15) rfl ?_); refine goesL_ (some 61) rfl rfl Try.func15 (by kernel_rfl) rfl #[.string t211, .string t209] rfl (by (try simp only [List.map_toArray, List.map_cons, List.map_nil]); first | done | rfl | (simp only [List.length_drop, List.length_take]; rfl)) ?_; (with_reducible refine (jotterlaw17_within.calls kj9 t211 t209 false _ A22.out).mono ?_); rintro e w' ⟨rfl, ⟨nd, rfl⟩⟩; refine ⟨_, rfl, ?_⟩))
          go_ret
          exact ⟨by first | rfl | (simp [errW_none, errW_some] <;> rfl) | (simp [*, errW_none, errW_some] <;> rfl), by repeat (first | (with_reducible first | exact HB.out | apply below_alloc | apply pw_below_drewN | apply below_drew1) | exact HB.out)⟩

end Go.Proofs.Ytjnciljimacblaa.Q
