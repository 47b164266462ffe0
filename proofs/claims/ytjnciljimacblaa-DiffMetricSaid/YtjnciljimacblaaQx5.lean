/- Go functions of the seat, each as a Lean function that tells its answer, and the proof that the call gives it. Condition: the arguments are read as lists. Laid by a program of this session. -/
import Derived.Test.YtjnciljimacblaaQx0
import Derived.Test.YtjnciljimacblaaQx1
import Derived.Test.YtjnciljimacblaaQx4
namespace Go.Proofs.Ytjnciljimacblaa.Q
open Go.RowKit Go.Proofs.YtjnciljimacblaaW.PrintWords Go.Proofs.YtjnciljimacblaaW.PrintLast Go.Proofs.YtjnciljimacblaaW.PrintMore
attribute [local go_sem] max2_int min2_int max_two min_two max_three min_three max_four min_four   -- for this text's walks alone
set_option linter.unusedVariables false
set_option linter.unusedSimpArgs false

/-! ### jotterlaw17_DiffMetric: function 3 -/
def jotterlaw17_DiffMetric.j0 : Nat → ByteArray → ByteArray → Int → Int → Int → Int → Int → Bool → Option (Bool)
  | 0, _, _, _, _, _, _, _, _ => none
  | k + 1, x0, x1, x7, x9, x11, x13, x15, x70 => if x70 = true then (some false) else (if ((x7 == 0) != (x0.toList == x1.toList)) = true then (some false) else (if x7 = x9 then (if x15 = 0 then (if x7 > (wrap64 (x11 + x13)) then (some false) else (if x7 ≥ (wrap64 ((x0.size : Int) - (x1.size : Int))) then (if x7 ≥ (wrap64 ((x1.size : Int) - (x0.size : Int))) then (some (decide (x7 ≤ (wrap64 ((x0.size : Int) + (x1.size : Int)))))) else (some false)) else (some false))) else (some false)) else (some false)))
def jotterlaw17_DiffMetric.f (k : Nat) (a0 : ByteArray) (a1 : ByteArray) (a2 : ByteArray) : Option (Bool) := (jotterlaw17_plain.f a0 200).bind fun t101 => ((jotterlaw17_plain.f a1 200).bind fun t102 => ((jotterlaw17_plain.f a2 200).bind fun t103 => ((diff_Distance.f t101 t102).bind fun bt104 => ((diff_Distance.f t102 t101).bind fun bt106 => ((diff_Distance.f t101 t103).bind fun bt108 => ((diff_Distance.f t103 t102).bind fun bt110 => ((diff_Distance.f t101 t101).bind fun bt112 => (if bt104.2 = 0 then (if bt106.2 = 0 then (if bt108.2 = 0 then (if bt110.2 = 0 then (jotterlaw17_DiffMetric.j0 k t101 t102 bt104.1 bt106.1 bt108.1 bt110.1 bt112.1 (bt112.2 != 0)) else (jotterlaw17_DiffMetric.j0 k t101 t102 bt104.1 bt106.1 bt108.1 bt110.1 bt112.1 true)) else (jotterlaw17_DiffMetric.j0 k t101 t102 bt104.1 bt106.1 bt108.1 bt110.1 bt112.1 true)) else (jotterlaw17_DiffMetric.j0 k t101 t102 bt104.1 bt106.1 bt108.1 bt110.1 bt112.1 true)) else (jotterlaw17_DiffMetric.j0 k t101 t102 bt104.1 bt106.1 bt108.1 bt110.1 bt112.1 true)))))))))
theorem jotterlaw17_DiffMetric.mono_l : ∀ k, (∀ y0 y1 y2 y3 y4 y5 y6 y7, LeO (jotterlaw17_DiffMetric.j0 k y0 y1 y2 y3 y4 y5 y6 y7) (jotterlaw17_DiffMetric.j0 (k + 1) y0 y1 y2 y3 y4 y5 y6 y7))
  | 0 => fun _ _ _ _ _ _ _ _ r h => by simp [jotterlaw17_DiffMetric.j0] at h
  | k + 1 => by
    have ih0 := jotterlaw17_DiffMetric.mono_l k
    · intro y0 y1 y2 y3 y4 y5 y6 y7
      unfold jotterlaw17_DiffMetric.j0
      repeat' first
      | (with_reducible exact ih0 _ _ _ _ _ _ _ _)
      | (with_reducible exact LeO.refl _)
      | (with_reducible exact LeO.none _)
      | (with_reducible refine LeO.ite ?_ ?_)
      | (with_reducible refine LeO.bind ?_ (fun _ => ?_))
      | exact ih0 _ _ _ _ _ _ _ _
      | exact LeO.none _
      | refine LeO.ite ?_ ?_
      | refine LeO.bind ?_ (fun _ => ?_)
theorem jotterlaw17_DiffMetric.mono : ∀ a0 a1 a2 k, LeO (jotterlaw17_DiffMetric.f k a0 a1 a2) (jotterlaw17_DiffMetric.f (k + 1) a0 a1 a2) := by
  intro a0 a1 a2 k
  have ih0 := jotterlaw17_DiffMetric.mono_l k
  unfold jotterlaw17_DiffMetric.f
  repeat' first
      | (with_reducible exact ih0 _ _ _ _ _ _ _ _)
      | (with_reducible exact LeO.refl _)
      | (with_reducible exact LeO.none _)
      | (with_reducible refine LeO.ite ?_ ?_)
      | (with_reducible refine LeO.bind ?_ (fun _ => ?_))
      | exact ih0 _ _ _ _ _ _ _ _
      | exact LeO.none _
      | refine LeO.ite ?_ ?_
      | refine LeO.bind ?_ (fun _ => ?_)
set_option maxHeartbeats 8000000 in
set_option maxRecDepth 100000 in
theorem jotterlaw17_DiffMetric.calls (k : Nat) (a0 : ByteArray) (a1 : ByteArray) (a2 : ByteArray) (r : Bool) (w : World) (h : jotterlaw17_DiffMetric.f k a0 a1 a2 = some r) :
    Calls Try.prog 3 #[.string a0, .string a1, .string a2] w fun e w' => e = .returned (.bool r) ∧ Below w.heap.size w w' := by
  have HB := Aside0.mk (Below.refl w.heap.size w)
  have H : ((jotterlaw17_plain.f a0 200).bind fun t101 => ((jotterlaw17_plain.f a1 200).bind fun t102 => ((jotterlaw17_plain.f a2 200).bind fun t103 => ((diff_Distance.f t101 t102).bind fun bt104 => ((diff_Distance.f t102 t101).bind fun bt106 => ((diff_Distance.f t101 t103).bind fun bt108 => ((diff_Distance.f t103 t102).bind fun bt110 => ((diff_Distance.f t101 t101).bind fun bt112 => (if bt104.2 = 0 then (if bt106.2 = 0 then (if bt108.2 = 0 then (if bt110.2 = 0 then (jotterlaw17_DiffMetric.j0 k t101 t102 bt104.1 bt106.1 bt108.1 bt110.1 bt112.1 (bt112.2 != 0)) else (jotterlaw17_DiffMetric.j0 k t101 t102 bt104.1 bt106.1 bt108.1 bt110.1 bt112.1 true)) else (jotterlaw17_DiffMetric.j0 k t101 t102 bt104.1 bt106.1 bt108.1 bt110.1 bt112.1 true)) else (jotterlaw17_DiffMetric.j0 k t101 t102 bt104.1 bt106.1 bt108.1 bt110.1 bt112.1 true)) else (jotterlaw17_DiffMetric.j0 k t101 t102 bt104.1 bt106.1 bt108.1 bt110.1 bt112.1 true)))))))))) = some r := h
  clear h
  replace H := Option.bind_eq_some_iff.mp H
  obtain ⟨t101, A40, H⟩ := H
  replace H : ((jotterlaw17_plain.f a1 200).bind fun t102 => ((jotterlaw17_plain.f a2 200).bind fun t103 => ((diff_Distance.f t101 t102).bind fun bt104 => ((diff_Distance.f t102 t101).bind fun bt106 => ((diff_Distance.f t101 t103).bind fun bt108 => ((diff_Distance.f t103 t102).bind fun bt110 => ((diff_Distance.f t101 t101).bind fun bt112 => (if bt104.2 = 0 then (if bt106.2 = 0 then (if bt108.2 = 0 then (if bt110.2 = 0 then (jotterlaw17_DiffMetric.j0 k t101 t102 bt104.1 bt106.1 bt108.1 bt110.1 bt112.1 (bt112.2 != 0)) else (jotterlaw17_DiffMetric.j0 k t101 t102 bt104.1 bt106.1 bt108.1 bt110.1 bt112.1 true)) else (jotterlaw17_DiffMetric.j0 k t101 t102 bt104.1 bt106.1 bt108.1 bt110.1 bt112.1 true)) else (jotterlaw17_DiffMetric.j0 k t101 t102 bt104.1 bt106.1 bt108.1 bt110.1 bt112.1 true)) else (jotterlaw17_DiffMetric.j0 k t101 t102 bt104.1 bt106.1 bt108.1 bt110.1 bt112.1 true))))))))) = some r := H
  have A4 := Aside0.mk A40
  clear A40
  replace H := Option.bind_eq_some_iff.mp H
  obtain ⟨t102, A50, H⟩ := H
  replace H : ((jotterlaw17_plain.f a2 200).bind fun t103 => ((diff_Distance.f t101 t102).bind fun bt104 => ((diff_Distance.f t102 t101).bind fun bt106 => ((diff_Distance.f t101 t103).bind fun bt108 => ((diff_Distance.f t103 t102).bind fun bt110 => ((diff_Distance.f t101 t101).bind fun bt112 => (if bt104.2 = 0 then (if bt106.2 = 0 then (if bt108.2 = 0 then (if bt110.2 = 0 then (jotterlaw17_DiffMetric.j0 k t101 t102 bt104.1 bt106.1 bt108.1 bt110.1 bt112.1 (bt112.2 != 0)) else (jotterlaw17_DiffMetric.j0 k t101 t102 bt104.1 bt106.1 bt108.1 bt110.1 bt112.1 true)) else (jotterlaw17_DiffMetric.j0 k t101 t102 bt104.1 bt106.1 bt108.1 bt110.1 bt112.1 true)) else (jotterlaw17_DiffMetric.j0 k t101 t102 bt104.1 bt106.1 bt108.1 bt110.1 bt112.1 true)) else (jotterlaw17_DiffMetric.j0 k t101 t102 bt104.1 bt106.1 bt108.1 bt110.1 bt112.1 true)))))))) = some r := H
  have A5 := Aside0.mk A50
  clear A50
  replace H := Option.bind_eq_some_iff.mp H
  obtain ⟨t103, A60, H⟩ := H
  replace H : ((diff_Distance.f t101 t102).bind fun bt104 => ((diff_Distance.f t102 t101).bind fun bt106 => ((diff_Distance.f t101 t103).bind fun bt108 => ((diff_Distance.f t103 t102).bind fun bt110 => ((diff_Distance.f t101 t101).bind fun bt112 => (if bt104.2 = 0 then (if bt106.2 = 0 then (if bt108.2 = 0 then (if bt110.2 = 0 then (jotterlaw17_DiffMetric.j0 k t101 t102 bt104.1 bt106.1 bt108.1 bt110.1 bt112.1 (bt112.2 != 0)) else (jotterlaw17_DiffMetric.j0 k t101 t102 bt104.1 bt106.1 bt108.1 bt110.1 bt112.1 true)) else (jotterlaw17_DiffMetric.j0 k t101 t102 bt104.1 bt106.1 bt108.1 bt110.1 bt112.1 true)) else (jotterlaw17_DiffMetric.j0 k t101 t102 bt104.1 bt106.1 bt108.1 bt110.1 bt112.1 true)) else (jotterlaw17_DiffMetric.j0 k t101 t102 bt104.1 bt106.1 bt108.1 bt110.1 bt112.1 true))))))) = some r := H
  have A6 := Aside0.mk A60
  clear A60
  replace H := Option.bind_eq_some_iff.mp H
  obtain ⟨⟨t104, t105⟩, A70, H⟩ := H
  replace H : ((diff_Distance.f t102 t101).bind fun bt106 => ((diff_Distance.f t101 t103).bind fun bt108 => ((diff_Distance.f t103 t102).bind fun bt110 => ((diff_Distance.f t101 t101).bind fun bt112 => (if t105 = 0 then (if bt106.2 = 0 then (if bt108.2 = 0 then (if bt110.2 = 0 then (jotterlaw17_DiffMetric.j0 k t101 t102 t104 bt106.1 bt108.1 bt110.1 bt112.1 (bt112.2 != 0)) else (jotterlaw17_DiffMetric.j0 k t101 t102 t104 bt106.1 bt108.1 bt110.1 bt112.1 true)) else (jotterlaw17_DiffMetric.j0 k t101 t102 t104 bt106.1 bt108.1 bt110.1 bt112.1 true)) else (jotterlaw17_DiffMetric.j0 k t101 t102 t104 bt106.1 bt108.1 bt110.1 bt112.1 true)) else (jotterlaw17_DiffMetric.j0 k t101 t102 t104 bt106.1 bt108.1 bt110.1 bt112.1 true)))))) = some r := H
  have A7 := Aside0.mk A70
  clear A70
  replace H := Option.bind_eq_some_iff.mp H
  obtain ⟨⟨t106, t107⟩, A80, H⟩ := H
  replace H : ((diff_Distance.f t101 t103).bind fun bt108 => ((diff_Distance.f t103 t102).bind fun bt110 => ((diff_Distance.f t101 t101).bind fun bt112 => (if t105 = 0 then (if t107 = 0 then (if bt108.2 = 0 then (if bt110.2 = 0 then (jotterlaw17_DiffMetric.j0 k t101 t102 t104 t106 bt108.1 bt110.1 bt112.1 (bt112.2 != 0)) else (jotterlaw17_DiffMetric.j0 k t101 t102 t104 t106 bt108.1 bt110.1 bt112.1 true)) else (jotterlaw17_DiffMetric.j0 k t101 t102 t104 t106 bt108.1 bt110.1 bt112.1 true)) else (jotterlaw17_DiffMetric.j0 k t101 t102 t104 t106 bt108.1 bt110.1 bt112.1 true)) else (jotterlaw17_DiffMetric.j0 k t101 t102 t104 t106 bt108.1 bt110.1 bt112.1 true))))) = some r := H
  have A8 := Aside0.mk A80
  clear A80
  replace H := Option.bind_eq_some_iff.mp H
  obtain ⟨⟨t108, t109⟩, A90, H⟩ := H
  replace H : ((diff_Distance.f t103 t102).bind fun bt110 => ((diff_Distance.f t101 t101).bind fun bt112 => (if t105 = 0 then (if t107 = 0 then (if t109 = 0 then (if bt110.2 = 0 then (jotterlaw17_DiffMetric.j0 k t101 t102 t104 t106 t108 bt110.1 bt112.1 (bt112.2 != 0)) else (jotterlaw17_DiffMetric.j0 k t101 t102 t104 t106 t108 bt110.1 bt112.1 true)) else (jotterlaw17_DiffMetric.j0 k t101 t102 t104 t106 t108 bt110.1 bt112.1 true)) else (jotterlaw17_DiffMetric.j0 k t101 t102 t104 t106 t108 bt110.1 bt112.1 true)) else (jotterlaw17_DiffMetric.j0 k t101 t102 t104 t106 t108 bt110.1 bt112.1 true)))) = some r := H
  have A9 := Aside0.mk A90
  clear A90
  replace H := Option.bind_eq_some_iff.mp H
  obtain ⟨⟨t110, t111⟩, A100, H⟩ := H
  replace H : ((diff_Distance.f t101 t101).bind fun bt112 => (if t105 = 0 then (if t107 = 0 then (if t109 = 0 then (if t111 = 0 then (jotterlaw17_DiffMetric.j0 k t101 t102 t104 t106 t108 t110 bt112.1 (bt112.2 != 0)) else (jotterlaw17_DiffMetric.j0 k t101 t102 t104 t106 t108 t110 bt112.1 true)) else (jotterlaw17_DiffMetric.j0 k t101 t102 t104 t106 t108 t110 bt112.1 true)) else (jotterlaw17_DiffMetric.j0 k t101 t102 t104 t106 t108 t110 bt112.1 true)) else (jotterlaw17_DiffMetric.j0 k t101 t102 t104 t106 t108 t110 bt112.1 true))) = some r := H
  have A10 := Aside0.mk A100
  clear A100
  replace H := Option.bind_eq_some_iff.mp H
  obtain ⟨⟨t112, t113⟩, A110, H⟩ := H
  replace H : (if t105 = 0 then (if t107 = 0 then (if t109 = 0 then (if t111 = 0 then (jotterlaw17_DiffMetric.j0 k t101 t102 t104 t106 t108 t110 t112 (t113 != 0)) else (jotterlaw17_DiffMetric.j0 k t101 t102 t104 t106 t108 t110 t112 true)) else (jotterlaw17_DiffMetric.j0 k t101 t102 t104 t106 t108 t110 t112 true)) else (jotterlaw17_DiffMetric.j0 k t101 t102 t104 t106 t108 t110 t112 true)) else (jotterlaw17_DiffMetric.j0 k t101 t102 t104 t106 t108 t110 t112 true)) = some r := H
  have A11 := Aside0.mk A110
  clear A110
  have HC12 := Aside0.mk H
  clear H
  go_enter Try.func3, Try.ntmps3
  go_upto_region 9 with (first | ((with_reducible refine gate_callee (f := 11) rfl ?_); refine goesL_ (some 18) rfl rfl Try.func11 (by kernel_rfl) rfl #[.string a0, .int .i64 200] rfl (by (try simp only [List.map_toArray, List.map_cons, List.map_nil]); first | done | rfl | (simp only [List.length_drop, List.length_take]; rfl)) ?_; (with_reducible refine (jotterlaw17_plain.calls a0 200 t101 _ A4.out).mono ?_); rintro e w13 ⟨rfl, hb⟩; refine ⟨_, rfl, ?_⟩; have n0_ := Aside0.mk (below_step (by repeat (first | (with_reducible first | exact HB.out | apply below_alloc | apply pw_below_drewN | apply below_drew1) | exact HB.out)) hb); clear HB; have HB := n0_; clear n0_; (try clear hb); (try clear hb2); (try clear hk); (try clear hi)) | ((with_reducible refine gate_callee (f := 11) rfl ?_); refine goesL_ (some 20) rfl rfl Try.func11 (by kernel_rfl) rfl #[.string a1, .int .i64 200] rfl (by (try simp only [List.map_toArray, List.map_cons, List.map_nil]); first | done | rfl | (simp only [List.length_drop, List.length_take]; rfl)) ?_; (with_reducible refine (jotterlaw17_plain.calls a1 200 t102 _ A5.out).mono ?_); rintro e w14 ⟨rfl, hb⟩; refine ⟨_, rfl, ?_⟩; have n0_ := Aside0.mk (below_step (by repeat (first | (with_reducible first | exact HB.out | apply below_alloc | apply pw_below_drewN | apply below_drew1) | exact HB.out)) hb); clear HB; have HB := n0_; clear n0_; (try clear hb); (try clear hb2); (try clear hk); (try clear hi)) | ((with_reducible refine gate_callee (f := 11) rfl ?_); refine goesL_ (some 22) rfl rfl Try.func11 (by kernel_rfl) rfl #[.string a2, .int .i64 200] rfl (by (try simp only [List.map_toArray, List.map_cons, List.map_nil]); first | done | rfl | (simp only [List.length_drop, List.length_take]; rfl)) ?_; (with_reducible refine (jotterlaw17_plain.calls a2 200 t103 _ A6.out).mono ?_); rintro e w15 ⟨rfl, hb⟩; refine ⟨_, rfl, ?_⟩; have n0_ := Aside0.mk (below_step (by repeat (first | (with_reducible first | exact HB.out | apply below_alloc | apply pw_below_drewN | apply below_drew1) | exact HB.out)) hb); clear HB; have HB := n0_; clear n0_; (try clear hb); (try clear hb2); (try clear hk); (try clear hi)) | ((with_reducible refine gate_callee (f := 12) rfl ?_); refine goesL_ (some 26) rfl rfl Try.func12 (by kernel_rfl) rfl #[.string t101, .string t102] rfl (by (try simp only [List.map_toArray, List.map_cons, List.map_nil]); first | done | rfl | (simp only [List.length_drop, List.length_take]; rfl)) ?_; (with_reducible refine (diff_Distance.calls t101 t102 t104 t105 _ A7.out).mono ?_); rintro e w16 ⟨rfl, hb⟩; refine ⟨_, rfl, ?_⟩; have n0_ := Aside0.mk (below_step (by repeat (first | (with_reducible first | exact HB.out | apply below_alloc | apply pw_below_drewN | apply below_drew1) | exact HB.out)) hb); clear HB; have HB := n0_; clear n0_; (try clear hb); (try clear hb2); (try clear hk); (try clear hi)) | ((with_reducible refine gate_callee (f := 12) rfl ?_); refine goesL_ (some 32) rfl rfl Try.func12 (by kernel_rfl) rfl #[.string t102, .string t101] rfl (by (try simp only [List.map_toArray, List.map_cons, List.map_nil]); first | done | rfl | (simp only [List.length_drop, List.length_take]; rfl)) ?_; (with_reducible refine (diff_Distance.calls t102 t101 t106 t107 _ A8.out).mono ?_); rintro e w17 ⟨rfl, hb⟩; refine ⟨_, rfl, ?_⟩; have n0_ := Aside0.mk (below_step (by repeat (first | (with_reducible first | exact HB.out | apply below_alloc | apply pw_below_drewN | apply below_drew1) | exact HB.out)) hb); clear HB; have HB := n0_; clear n0_; (try clear hb); (try clear hb2); (try clear hk); (try clear hi)) | ((with_reducible refine gate_callee (f := 12) rfl ?_); refine goesL_ (some 38) rfl rfl Try.func12 (by kernel_rfl) rfl #[.string t101, .string t103] rfl (by (try simp only [List.map_toArray, List.map_cons, List.map_nil]); first | done | rfl | (simp only [List.length_drop, List.length_take]; rfl)) ?_; (with_reducible refine (diff_Distance.calls t101 t103 t108 t109 _ A9.out).mono ?_); rintro e w18 ⟨rfl, hb⟩; refine ⟨_, rfl, ?_⟩; have n0_ := Aside0.mk (below_step (by repeat (first | (with_reducible first | exact HB.out | apply below_alloc | apply pw_below_drewN | apply below_drew1) | exact HB.out)) hb); clear HB; have HB := n0_; clear n0_; (try clear hb); (try clear hb2); (try clear hk); (try clear hi)) | ((with_reducible refine gate_callee (f := 12) rfl ?_); refine goesL_ (some 44) rfl rfl Try.func12 (by kernel_rfl) rfl #[.string t103, .string t102] rfl (by (try simp only [List.map_toArray, List.map_cons, List.map_nil]); first | done | rfl | (simp only [List.length_drop, List.length_take]; rfl)) ?_; (with_reducible refine (diff_Distance.calls t103 t102 t110 t111 _ A10.out).mono ?_); rintro e w19 ⟨rfl, hb⟩; refine ⟨_, rfl, ?_⟩; have n0_ := Aside0.mk (below_step (by repeat (first | (with_reducible first | exact HB.out | apply below_alloc | apply pw_below_drewN | apply below_drew1) | exact HB.out)) hb); clear HB; have HB := n0_; clear n0_; (try clear hb); (try clear hb2); (try clear hk); (try clear hi)) | ((with_reducible refine gate_callee (f := 12) rfl ?_); refine goesL_ (some 50) rfl rfl Try.func12 (by kernel_rfl) rfl #[.string t101, .string t101] rfl (by (try simp only [List.map_toArray, List.map_cons, List.map_nil]); first | done | rfl | (simp only [List.length_drop, List.length_take]; rfl)) ?_; (with_reducible refine (diff_Distance.calls t101 t101 t112 t113 _ A11.out).mono ?_); rintro e w20 ⟨rfl, hb⟩; refine ⟨_, rfl, ?_⟩; have n0_ := Aside0.mk (below_step (by repeat (first | (with_reducible first | exact HB.out | apply below_alloc | apply pw_below_drewN | apply below_drew1) | exact HB.out)) hb); clear HB; have HB := n0_; clear n0_; (try clear hb); (try clear hb2); (try clear hk); (try clear hi)))
  (try simp only [Act.put, List.setIfInBounds_toArray, List.set_cons_zero, List.set_cons_succ])
  go_cut [70] (fun v70 wc => ∃ (kq : Nat) (x70_11 : Bool), v70 = .bool x70_11 ∧ Aside0 (jotterlaw17_DiffMetric.j0 kq t101 t102 t104 t106 t108 t110 t112 x70_11 = some r) ∧ Aside0 (kq ≤ k) ∧ Aside0 (Below w.heap.size w wc))
  case first =>
    have H := HC12.out
    clear HC12
    by_cases c21 : t105 = 0
    · rw [if_pos c21] at H
      have c21b0 : (t105 == 0) = true := beq_iff_eq.mpr c21
      have c21b1 : (t105 != 0) = false := bne_eq_false_iff_eq.mpr c21
      clear c21
      (first | rw [c21b0] | (simp only [i64_w, i32_w]; rw [c21b0]) | skip)
      by_cases c22 : t107 = 0
      · rw [if_pos c22] at H
        have c22b0 : (t107 == 0) = true := beq_iff_eq.mpr c22
        have c22b1 : (t107 != 0) = false := bne_eq_false_iff_eq.mpr c22
        clear c22
        by_cases c23 : t109 = 0
        · rw [if_pos c23] at H
          have c23b0 : (t109 == 0) = true := beq_iff_eq.mpr c23
          have c23b1 : (t109 != 0) = false := bne_eq_false_iff_eq.mpr c23
          clear c23
          by_cases c24 : t111 = 0
          · rw [if_pos c24] at H
            have c24b0 : (t111 == 0) = true := beq_iff_eq.mpr c24
            have c24b1 : (t111 != 0) = false := bne_eq_false_iff_eq.mpr c24
            clear c24
            have H' := Aside0.mk H
            clear H
            go_wp2
            go_meet
            case rel => exact ⟨_, ((t113 != 0)), (by first | rfl | (simp; done) | (simp [*]; done)), H', ⟨by first | omega | exact Nat.le_refl _⟩, ⟨by repeat (first | (with_reducible first | exact HB.out | apply below_alloc | apply pw_below_drewN | apply below_drew1) | exact HB.out)⟩⟩
          · rw [if_neg c24] at H
            have c24b0 : (t111 == 0) = false := beq_eq_false_iff_ne.mpr c24
            have c24b1 : (t111 != 0) = true := bne_iff_ne.mpr c24
            have H' := Aside0.mk H
            clear H
            go_wp2
            go_meet
            case rel => exact ⟨_, (true), (by first | rfl | (simp; done) | (simp [*]; done)), H', ⟨by first | omega | exact Nat.le_refl _⟩, ⟨by repeat (first | (with_reducible first | exact HB.out | apply below_alloc | apply pw_below_drewN | apply below_drew1) | exact HB.out)⟩⟩
        · rw [if_neg c23] at H
          have c23b0 : (t109 == 0) = false := beq_eq_false_iff_ne.mpr c23
          have c23b1 : (t109 != 0) = true := bne_iff_ne.mpr c23
          have H' := Aside0.mk H
          clear H
          go_wp2
          go_meet
          case rel => exact ⟨_, (true), (by first | rfl | (simp; done) | (simp [*]; done)), H', ⟨by first | omega | exact Nat.le_refl _⟩, ⟨by repeat (first | (with_reducible first | exact HB.out | apply below_alloc | apply pw_below_drewN | apply below_drew1) | exact HB.out)⟩⟩
      · rw [if_neg c22] at H
        have c22b0 : (t107 == 0) = false := beq_eq_false_iff_ne.mpr c22
        have c22b1 : (t107 != 0) = true := bne_iff_ne.mpr c22
        have H' := Aside0.mk H
        clear H
        go_wp2
        go_meet
        case rel => exact ⟨_, (true), (by first | rfl | (simp; done) | (simp [*]; done)), H', ⟨by first | omega | exact Nat.le_refl _⟩, ⟨by repeat (first | (with_reducible first | exact HB.out | apply below_alloc | apply pw_below_drewN | apply below_drew1) | exact HB.out)⟩⟩
    · rw [if_neg c21] at H
      have c21b0 : (t105 == 0) = false := beq_eq_false_iff_ne.mpr c21
      have c21b1 : (t105 != 0) = true := bne_iff_ne.mpr c21
      (first | rw [c21b0] | (simp only [i64_w, i32_w]; rw [c21b0]) | skip)
      have H' := Aside0.mk H
      clear H
      go_wp2
      go_meet
      case rel => exact ⟨_, (true), (by first | rfl | (simp; done) | (simp [*]; done)), H', ⟨by first | omega | exact Nat.le_refl _⟩, ⟨by repeat (first | (with_reducible first | exact HB.out | apply below_alloc | apply pw_below_drewN | apply below_drew1) | exact HB.out)⟩⟩
  case rest =>
    clear HC12
    try clear c1
    try clear c2
    try clear p2
    try clear c3
    try clear c11
    try clear c12
    try clear c21
    try clear c21b0
    try clear c21b1
    try clear c22
    try clear c22b0
    try clear c22b1
    try clear c23
    try clear c23b0
    try clear c23b1
    try clear c24
    try clear c24b0
    try clear c24b1
    obtain ⟨kq, x70_11, rfl, HA, HJ11, HB⟩ := hcut
    cases kq with
    | zero => exact absurd HA.out (by simp [jotterlaw17_DiffMetric.j0])
    | succ kj11 =>
      have H := HA.out
      clear HA
      simp only [jotterlaw17_DiffMetric.j0] at H
      by_cases c25 : x70_11 = true
      · subst c25
        have H1 : (some false) = some r := by rw [if_pos rfl] at H; exact H
        clear H
        have H := H1
        clear H1
        obtain rfl := Option.some.inj H
        go_wp2
        go_ret
        exact ⟨by first | rfl | (simp [errW_none, errW_some] <;> rfl) | (simp [*, errW_none, errW_some] <;> rfl), by repeat (first | (with_reducible first | exact HB.out | apply below_alloc | apply pw_below_drewN | apply below_drew1) | exact HB.out)⟩
      · replace c25 := Bool.eq_false_iff.mpr c25
        subst c25
        have H1 : (if ((t104 == 0) != (t101.toList == t102.toList)) = true then (some false) else (if t104 = t106 then (if t112 = 0 then (if t104 > (wrap64 (t108 + t110)) then (some false) else (if t104 ≥ (wrap64 ((t101.size : Int) - (t102.size : Int))) then (if t104 ≥ (wrap64 ((t102.size : Int) - (t101.size : Int))) then (some (decide (t104 ≤ (wrap64 ((t101.size : Int) + (t102.size : Int)))))) else (some false)) else (some false))) else (some false)) else (some false))) = some r := by rw [if_neg (show ¬ (false = true) by decide)] at H; exact H
        clear H
        have H := H1
        clear H1
        by_cases c26 : ((t104 == 0) != (t101.toList == t102.toList)) = true
        · rw [if_pos c26] at H
          have c26b0 : ((t104 == 0) != (t101.toList == t102.toList)) = true := c26
          (try (have c26b1 : decide ((t104 == 0) = (t101.toList == t102.toList)) = false := by simpa using c26))
          (try (have c26b2 : ((t104 == 0) == (t101.toList == t102.toList)) = false := by simpa using c26))
          (try (have c26b3 : ¬ ((t104 == 0) = (t101.toList == t102.toList)) := by simpa using c26))
          clear c26
          obtain rfl := Option.some.inj H
          go_wp2
          go_ret
          exact ⟨by first | rfl | (simp [errW_none, errW_some] <;> rfl) | (simp [*, errW_none, errW_some] <;> rfl), by repeat (first | (with_reducible first | exact HB.out | apply below_alloc | apply pw_below_drewN | apply below_drew1) | exact HB.out)⟩
        · rw [if_neg c26] at H
          have c26b0 : ((t104 == 0) != (t101.toList == t102.toList)) = false := by simpa using c26
          (try (have c26b1 : decide ((t104 == 0) = (t101.toList == t102.toList)) = true := by simpa using c26))
          (try (have c26b2 : ((t104 == 0) == (t101.toList == t102.toList)) = true := by simpa using c26))
          clear c26
          by_cases c27 : t104 = t106
          · rw [if_pos c27] at H
            have c27b0 : (t104 == t106) = true := beq_iff_eq.mpr c27
            have c27b1 : (t104 != t106) = false := bne_eq_false_iff_eq.mpr c27
            clear c27
            by_cases c28 : t112 = 0
            · rw [if_pos c28] at H
              have c28b0 : (t112 == 0) = true := beq_iff_eq.mpr c28
              have c28b1 : (t112 != 0) = false := bne_eq_false_iff_eq.mpr c28
              clear c28
              by_cases c29 : t104 > (wrap64 (t108 + t110))
              · rw [if_pos c29] at H
                have c29b0 : decide ((wrap64 (t108 + t110)) < t104) = true := decide_eq_true c29
                clear c29
                obtain rfl := Option.some.inj H
                go_wp2
                go_ret
                exact ⟨by first | rfl | (simp [errW_none, errW_some] <;> rfl) | (simp [*, errW_none, errW_some] <;> rfl), by repeat (first | (with_reducible first | exact HB.out | apply below_alloc | apply pw_below_drewN | apply below_drew1) | exact HB.out)⟩
              · rw [if_neg c29] at H
                have c29b0 : decide ((wrap64 (t108 + t110)) < t104) = false := decide_eq_false c29
                clear c29
                by_cases c30 : t104 ≥ (wrap64 ((t101.size : Int) - (t102.size : Int)))
                · rw [if_pos c30] at H
                  have c30b0 : decide ((wrap64 ((t101.size : Int) - (t102.size : Int))) ≤ t104) = true := decide_eq_true c30
                  clear c30
                  by_cases c31 : t104 ≥ (wrap64 ((t102.size : Int) - (t101.size : Int)))
                  · rw [if_pos c31] at H
                    have c31b0 : decide ((wrap64 ((t102.size : Int) - (t101.size : Int))) ≤ t104) = true := decide_eq_true c31
                    clear c31
                    obtain rfl := Option.some.inj H
                    go_wp2
                    go_ret
                    exact ⟨by first | rfl | (simp [errW_none, errW_some] <;> rfl) | (simp [*, errW_none, errW_some] <;> rfl), by repeat (first | (with_reducible first | exact HB.out | apply below_alloc | apply pw_below_drewN | apply below_drew1) | exact HB.out)⟩
                  · rw [if_neg c31] at H
                    have c31b0 : decide ((wrap64 ((t102.size : Int) - (t101.size : Int))) ≤ t104) = false := decide_eq_false c31
                    clear c31
                    obtain rfl := Option.some.inj H
                    go_wp2
                    go_ret
                    exact ⟨by first | rfl | (simp [errW_none, errW_some] <;> rfl) | (simp [*, errW_none, errW_some] <;> rfl), by repeat (first | (with_reducible first | exact HB.out | apply below_alloc | apply pw_below_drewN | apply below_drew1) | exact HB.out)⟩
                · rw [if_neg c30] at H
                  have c30b0 : decide ((wrap64 ((t101.size : Int) - (t102.size : Int))) ≤ t104) = false := decide_eq_false c30
                  clear c30
                  obtain rfl := Option.some.inj H
                  go_wp2
                  go_ret
                  exact ⟨by first | rfl | (simp [errW_none, errW_some] <;> rfl) | (simp [*, errW_none, errW_some] <;> rfl), by repeat (first | (with_reducible first | exact HB.out | apply below_alloc | apply pw_below_drewN | apply below_drew1) | exact HB.out)⟩
            · rw [if_neg c28] at H
              have c28b0 : (t112 == 0) = false := beq_eq_false_iff_ne.mpr c28
              have c28b1 : (t112 != 0) = true := bne_iff_ne.mpr c28
              obtain rfl := Option.some.inj H
              go_wp2
              go_ret
              exact ⟨by first | rfl | (simp [errW_none, errW_some] <;> rfl) | (simp [*, errW_none, errW_some] <;> rfl), by repeat (first | (with_reducible first | exact HB.out | apply below_alloc | apply pw_below_drewN | apply below_drew1) | exact HB.out)⟩
          · rw [if_neg c27] at H
            have c27b0 : (t104 == t106) = false := beq_eq_false_iff_ne.mpr c27
            have c27b1 : (t104 != t106) = true := bne_iff_ne.mpr c27
            obtain rfl := Option.some.inj H
            go_wp2
            go_ret
            exact ⟨by first | rfl | (simp [errW_none, errW_some] <;> rfl) | (simp [*, errW_none, errW_some] <;> rfl), by repeat (first | (with_reducible first | exact HB.out | apply below_alloc | apply pw_below_drewN | apply below_drew1) | exact HB.out)⟩

end Go.Proofs.Ytjnciljimacblaa.Q
